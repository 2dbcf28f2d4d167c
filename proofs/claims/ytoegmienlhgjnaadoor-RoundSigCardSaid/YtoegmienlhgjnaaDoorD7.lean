import Derived.Test.YtoegmienlhgjnaaDoorD6
import Derived.Test.YtoegmienlhgjnaaDoorPx11
import Derived.Test.YtoegmienlhgjnaaDoorPx16
import Derived.Test.YtoegmienlhgjnaaDoorPx17
import Derived.Test.YtoegmienlhgjnaaDoorPx4
import Derived.Test.YtoegmienlhgjnaaDoorPx5
namespace Go.Proofs.YtoegmienlhgjnaaDoor.P
open Go.RowKit Go.Proofs.YtoegmienlhgjnaaDoorW.PrintWords Go.Proofs.YtoegmienlhgjnaaDoorW.PrintLast Go.Proofs.YtoegmienlhgjnaaDoorW.PrintMore Go.Proofs.YtoegmienlhgjnaaDoor.FM
set_option linter.unusedVariables false
set_option linter.unusedSimpArgs false

/-- what an order says -/
def cmpZ (u v : Int) : Int := cmpI u v
theorem cmpI_lt0 {u v : Int} : cmpI u v < 0 ↔ u < v := by
  unfold cmpI
  repeat' split
  all_goals omega
theorem cmpI_eq0 {u v : Int} : cmpI u v = 0 ↔ u = v := by
  unfold cmpI
  repeat' split
  all_goals omega
theorem cmpI_gt0 {u v : Int} : cmpI u v > 0 ↔ v < u := by
  unfold cmpI
  repeat' split
  all_goals omega
theorem teq3 (a b : D) : ((tri a).1 == (tri b).1 && ((tri a).2.1.toList == (tri b).2.1.toList && ((tri a).2.2 == (tri b).2.2))) = decide (a = b) := by
  have h := ane3 a b
  rw [← Bool.not_and, ← Bool.not_and] at h
  have h2 := congrArg (!·) h
  simp only [Bool.not_not] at h2
  rw [h2]
  by_cases hh : a = b <;> simp [hh]
theorem dk_mod {K : Nat} {z : Int} (h : z ≠ 0) : (dk K z).m % 10 ≠ 0 ∧ 0 < (dk K z).m := by
  rw [dk_m]
  exact ⟨st_mod (by omega), st_pos (by omega)⟩
theorem Plc.succ {M K : Nat} {z : Int} (h : Plc M K z) (hM : M + 1 ≤ 29000) : Plc (M + 1) K z := h.up (Nat.le_succ M) hM
/-- an increment: a decimal above nought of few digits -/
structure Inc (M K : Nat) (U : Nat) : Prop where
  plc : Plc M K (U : Int)
  pos : 0 < U
  small : (dk K (U : Int)).m ≤ 1000000000
theorem multiple_ev {M K : Nat} {z : Int} {U : Nat} (hz : Plc M K z) (hU : Inc M K U) (hM : 2 * M ≤ 28000) :
    Ev (fun k => florinlaw03_multiple.f k (tri (dk K z)).1 (tri (dk K z)).2.1 (tri (dk K z)).2.2 (tri (dk K (U : Int))).1 (tri (dk K (U : Int))).2.1 (tri (dk K (U : Int))).2.2) (decide ((U : Int) ∣ z)) := by
  have hUz : (U : Int) ≠ 0 := by have := hU.pos; omega
  obtain ⟨i1, i2⟩ := dk_mod (K := K) hUz
  have hsm := hU.small
  have hUv := dk_val K (U : Int)
  rw [Int.natAbs_natCast] at hUv
  have ie1 := dk_e_ge K (U : Int)
  have ie2 := dk_e_lt hU.plc.hz hU.plc.hK
  have de1 := dk_e_ge K z
  have de2 := dk_e_lt hz.hz hz.hK
  have hzv := dk_val K z
  have hdm := fun h => dk_mod (K := K) (z := z) h
  have hfd : Few (dk K z) := (Val.dk hz).few
  have hdi := (Val.dk hz).nrm
  rw [nvl_mkl] at hdi
  have hm0 := @dk_m_zero K z
  have hKM := hz.hK
  obtain ⟨i, hi⟩ : ∃ i, dk K (U : Int) = i := ⟨_, rfl⟩
  obtain ⟨d, hd⟩ : ∃ d, dk K z = d := ⟨_, rfl⟩
  rw [hi] at i1 i2 hsm hUv ie1 ie2 ⊢
  rw [hd] at de1 de2 hzv hdm hfd hdi hm0 ⊢
  unfold florinlaw03_multiple.f
  have li : (mkl i.m).length ≤ 10 := mkl_length_le.2 (by omega)
  have hI := Int_ev (mkl i.m) (by unfold Sm; omega) (dig_mkl _) (by rw [nvl_mkl]; omega)
  rw [nvl_mkl] at hI
  rw [tri2]
  refine Ev.bind hI (Ev.if_pos rfl ?_)
  rw [decide_eq_false (by dsimp only; omega)]
  obtain ⟨f1, f2, f3⟩ := hfd
  have hE : wrap64 ((tri d).2.2 - (tri i).2.2) = d.e - i.e := by rw [tri3, tri3, w64 (by omega) (by omega)]
  refine Ev.step (fun k => (by rw [florinlaw03_multiple.j0, _root_.if_neg (by decide), hE, tri2])) ?_
  refine Ev.bind (Made_tri false d.m (by omega) (d.e - i.e)) ?_
  obtain ⟨s1, s2⟩ := made_same hdi (b := false) (x := d.e - i.e) (by omega) (by omega)
  have hfy : Few (nrm false d.m (d.e - i.e)) := few_nrm f1
  have hp := Parts_tri _ hfy
  rw [nrm_idem] at hp
  refine Ev.bind hp ?_
  dsimp only
  have lw := wholeN_len_le hfy
  have lp := partL_length (nrm false d.m (d.e - i.e)).m (nrm false d.m (d.e - i.e)).e
  have hdiv := Div_ev (mkl (wholeN (nrm false d.m (d.e - i.e)).m (nrm false d.m (d.e - i.e)).e)) (by unfold Sm; omega) (dig_mkl _) i.m (by omega) hsm
  rw [nvl_mkl] at hdiv
  refine Ev.bind hdiv ?_
  rw [S_toList]
  by_cases hz0 : z = 0
  · have e0 : d.m = 0 := hm0.2 hz0
    have e1 : nrm false d.m (d.e - i.e) = D0 := by rw [e0, nrm_zero]
    rw [e1]
    refine Ev.if_pos rfl ?_
    rw [show wholeN D0.m D0.e = 0 by decide, Nat.zero_mod, hz0, decide_eq_true (Int.dvd_zero _)]
    exact Ev.now _
  obtain ⟨d1, d2⟩ := hdm hz0
  rw [s1, s2 d2] at lp ⊢
  by_cases hge : 0 ≤ d.e - i.e
  · refine Ev.if_pos (List.eq_nil_of_length_eq_zero (by omega)) ?_
    have e1 : (((wholeN d.m (d.e - i.e) % i.m : Nat) : Int) == 0) = decide ((U : Int) ∣ z) := by
      unfold wholeN
      rw [_root_.if_pos hge]
      have hzz : z.natAbs = d.m * 10 ^ (d.e - i.e).toNat * 10 ^ (i.e + K).toNat := by
        rw [← hzv, Nat.mul_assoc, ← Nat.pow_add]; congr 2; omega
      have hiff : (U : Int) ∣ z ↔ i.m ∣ d.m * 10 ^ (d.e - i.e).toNat := by
        rw [Int.ofNat_dvd_left, ← hUv, hzz]
        exact Nat.mul_dvd_mul_iff_right (Nat.pow_pos (by decide))
      by_cases hdv : i.m ∣ d.m * 10 ^ (d.e - i.e).toNat
      · rw [decide_eq_true (hiff.2 hdv), Nat.mod_eq_zero_of_dvd hdv]; rfl
      · rw [decide_eq_false (fun h => hdv (hiff.1 h))]
        refine beq_eq_false_iff_ne.2 (fun h => hdv (Nat.dvd_of_mod_eq_zero (by omega)))
    rw [e1]
    exact Ev.now _
  · refine Ev.if_neg (fun h => by rw [h, List.length_nil] at lp; omega) ?_
    have hnd : ¬ (U : Int) ∣ z := by
      intro h
      rw [Int.ofNat_dvd_left, ← hUv, ← hzv] at h
      have h2 : 10 ^ (i.e + K).toNat ∣ d.m * 10 ^ (d.e + K).toNat := Nat.dvd_trans (Nat.dvd_mul_left _ _) h
      rw [show (i.e + K).toNat = (i.e - d.e).toNat + (d.e + K).toNat by omega, Nat.pow_add] at h2
      have h3 := (Nat.mul_dvd_mul_iff_right (Nat.pow_pos (n := (d.e + K).toNat) (by decide : 0 < 10))).1 h2
      have h4 : 10 ∣ 10 ^ (i.e - d.e).toNat := by
        obtain ⟨j, hj⟩ : ∃ j, (i.e - d.e).toNat = j + 1 := ⟨(i.e - d.e).toNat - 1, by omega⟩
        rw [hj, Nat.pow_succ]; exact Nat.dvd_mul_left _ _
      exact d1 (Nat.mod_eq_zero_of_dvd (Nat.dvd_trans h4 h3))
    rw [decide_eq_false hnd]
    exact Ev.now _
theorem scl_dk {M K : Nat} {u : Int} (hu : Plc M K u) : scl (dk K u) (-1) = dk (K + 1) u := by
  unfold scl
  have h1 := dk_e_ge K u
  have h2 := dk_e_lt hu.hz hu.hK
  have := hu.hM
  have hidem := dk_norm hu
  by_cases h0 : u = 0
  · subst h0; rw [dk_zero, dk_zero, show D0.m = 0 from rfl, nrm_zero]
  · obtain ⟨m1, m2⟩ := dk_mod (K := K) h0
    have hst : st (dk K u).m = ((dk K u).m, 0) := by rw [dk_m]; exact st_st (by omega)
    rw [nrm_pos m2, hst, show held (-1) = -1 by decide]
    have he := dk_e K h0
    have e1 : dk (K + 1) u = ⟨decide (u < 0), (st u.natAbs).1, ((st u.natAbs).2 : Int) - ((K + 1 : Nat) : Int)⟩ := by unfold dk; rw [if_neg h0]
    rw [e1, dk_neg, dk_m]
    have := hu.hK
    have hs := st_snd_lt (n := u.natAbs) (by omega) hu.hz
    simp only [D.mk.injEq, true_and]
    rw [he, held_of (x := ((st u.natAbs).2 : Int) - K + -1) (by omega) (by omega), held_of (by omega) (by omega)]
    omega
theorem even_ev {M K : Nat} {z : Int} {U : Nat} (hz : Plc M K z) (hU : Inc M K U) (hKM : K + 1 ≤ M) (hM : 2 * (M + 10) ≤ 28000) :
    Ev (fun k => florinlaw03_even.f k (tri (dk K z)).1 (tri (dk K z)).2.1 (tri (dk K z)).2.2 (tri (dk K (U : Int))).1 (tri (dk K (U : Int))).2.1 (tri (dk K (U : Int))).2.2) (decide (((2 * U : Nat) : Int) ∣ z)) := by
  unfold florinlaw03_even.f
  have hM4 : M + 4 ≤ 29000 := by omega
  have p1 : Plc (M + 1) K (2 * z) := by have := hz.add hz (by omega); rwa [show z + z = 2 * z by omega] at this
  have p2 : Plc (M + 2) K (3 * z) := by have := p1.add (hz.up (show M ≤ M + 1 by omega) (by omega)) (by omega); rwa [show 2 * z + z = 3 * z by omega] at this
  have p3 : Plc (M + 3) K (4 * z) := by have := p2.add (hz.up (show M ≤ M + 2 by omega) (by omega)) (by omega); rwa [show 3 * z + z = 4 * z by omega] at this
  have p4 : Plc (M + 4) K (5 * z) := by have := p3.add (hz.up (show M ≤ M + 3 by omega) (by omega)) (by omega); rwa [show 4 * z + z = 5 * z by omega] at this
  have hv := Val.dk hz
  have a1 := Add_dk hz hz (Val.dk hz) hv
  have a2 := Add_dk p1 (hz.up (show M ≤ M + 1 by omega) (by omega)) (Val.dk p1) hv
  have a3 := Add_dk p2 (hz.up (show M ≤ M + 2 by omega) (by omega)) (Val.dk p2) hv
  have a4 := Add_dk p3 (hz.up (show M ≤ M + 3 by omega) (by omega)) (Val.dk p3) hv
  rw [show z + z = 2 * z by omega] at a1
  rw [show 2 * z + z = 3 * z by omega] at a2
  rw [show 3 * z + z = 4 * z by omega] at a3
  rw [show 4 * z + z = 5 * z by omega] at a4
  have w1 : wrap64 ((0 : Int) + 1) = 1 := (w64 (by decide) (by decide)).trans rfl
  have w2 : wrap64 ((1 : Int) + 1) = 2 := (w64 (by decide) (by decide)).trans rfl
  have w3 : wrap64 ((2 : Int) + 1) = 3 := (w64 (by decide) (by decide)).trans rfl
  have w4 : wrap64 ((3 : Int) + 1) = 4 := (w64 (by decide) (by decide)).trans rfl
  refine Ev.step (fun k => (by rw [florinlaw03_even.l0, _root_.if_pos (by decide), w1])) ?_
  refine Ev.bind a1 ?_
  refine Ev.step (fun k => (by rw [florinlaw03_even.l0, _root_.if_pos (by decide), w2])) ?_
  refine Ev.bind a2 ?_
  refine Ev.step (fun k => (by rw [florinlaw03_even.l0, _root_.if_pos (by decide), w3])) ?_
  refine Ev.bind a3 ?_
  refine Ev.step (fun k => (by rw [florinlaw03_even.l0, _root_.if_pos (by decide), w4])) ?_
  refine Ev.bind a4 ?_
  refine Ev.step (fun k => (by rw [florinlaw03_even.l0, _root_.if_neg (by decide)])) ?_
  have hs := Scale_tri _ (Val.dk p4).few (-1)
  rw [← dk_norm p4, scl_dk p4] at hs
  refine Ev.bind hs ?_
  have p5 : Plc (M + 4) (K + 1) (5 * z) := ⟨by omega, by omega, p4.hz⟩
  have hU2 : dk K (U : Int) = dk (K + 1) ((10 * U : Nat) : Int) := by
    have := dk_scale K 1 (U : Int)
    rw [← this]
    congr 1
    omega
  have hI2 : Inc (M + 4) (K + 1) (10 * U) := by
    refine ⟨⟨by omega, by omega, ?_⟩, by have := hU.pos; omega, by rw [← hU2]; exact hU.small⟩
    rw [Int.natAbs_natCast]
    have := hU.plc.hz
    rw [Int.natAbs_natCast] at this
    have h2 : 10 ^ M * 10 ≤ 10 ^ (M + 4) := by rw [← Nat.pow_succ]; exact Nat.pow_le_pow_right (by decide) (by omega)
    omega
  have hm := multiple_ev p5 hI2 (by omega)
  rw [← hU2] at hm
  have hiff : decide ((((10 * U : Nat)) : Int) ∣ 5 * z) = decide (((2 * U : Nat) : Int) ∣ z) := by
    apply decide_eq_decide.2
    rw [show ((10 * U : Nat) : Int) = 5 * ((2 * U : Nat) : Int) by omega]
    exact Int.mul_dvd_mul_iff_left (by decide)
  rw [hiff] at hm
  exact Ev.bind hm (Ev.now _)
/-- what is rounded by the mode is found to be so -/
theorem Rounded_ev {neg : Bool} {l : List UInt8} {e : Int} {M K : Nat} {z r : Int} {U : Nat} {m : Int} (hv : Val neg l e (dk K z)) (hz : Plc M K z) (hr : Plc M K r) (hU : Inc M K U) (hKM : K + 1 ≤ M) (hM : 2 * (M + 20) ≤ 28000)
    (h0 : 0 ≤ m) (h6 : m ≤ 6) (hRD : RD z r U m) :
    Ev (fun k => florinlaw03_Rounded.f k neg (S l) e (tri (dk K r)).1 (tri (dk K r)).2.1 (tri (dk K r)).2.2 (tri (dk K (U : Int))).1 (tri (dk K (U : Int))).2.1 (tri (dk K (U : Int))).2.2 m) true := by
  unfold florinlaw03_Rounded.f
  obtain ⟨hdv, hor⟩ := hRD
  have hdp : Plc (M + 1) K (z - r) := by
    have := hz.add hr.neg (by omega)
    rwa [show z + -r = z - r by omega] at this
  refine Ev.bind hv.norm (Ev.bind (multiple_ev hr hU (by omega)) (Ev.if_pos (decide_eq_true hdv) ?_))
  refine Ev.bind (Sub_dk hz hr (Val.dk hz) (Val.dk hr)) (Ev.bind (Zero_tri _ (Val.dk hdp).few) ?_)
  have hzz : (decide ((dk K (z - r)).m = 0)) = decide (z = r) := by
    apply decide_eq_decide.2
    rw [dk_m_zero]; omega
  rw [hzz]
  by_cases heq : z = r
  · refine Ev.if_pos (decide_eq_true heq) (Ev.yes ?_)
    rw [teq3, heq]; simp
  refine Ev.if_neg (by simpa using heq) (Ev.bind (multiple_ev hz hU (by omega)) ?_)
  rcases hor with hor | ⟨nd, hlt, m3, m4, m5, m6, m1, m2, mz⟩
  · exact absurd hor heq
  refine Ev.if_neg (by simpa using nd) ?_
  have habs := Abs_dk hdp (Val.dk hdp)
  have hU1 := hU.plc.succ (by omega)
  have hap := hdp.abs
  refine Ev.bind habs (Ev.bind (Cmp_dk (by omega) hap hU1 (Val.dk hap) (Val.dk hU1)) ?_)
  rw [decide_eq_false (show ¬ cmpI ((z - r).natAbs : Int) (U : Int) ≥ 0 from by have := (cmpI_lt0 (u := ((z - r).natAbs : Int)) (v := (U : Int))).2 (by omega); omega)]
  have hra := Abs_dk hr (Val.dk hr)
  have hza := Abs_dk hz (Val.dk hz)
  have hout := Cmp_dk (by omega) hr.abs hz.abs (Val.dk hr.abs) (Val.dk hz.abs)
  have htw := Add_dk hap hap (Val.dk hap) (Val.dk hap)
  have htp := hap.add hap (by omega)
  rw [show ((z - r).natAbs : Int) + ((z - r).natAbs : Int) = ((2 * (z - r).natAbs : Nat) : Int) by omega] at htw htp
  have hU2 := hU1.succ (by omega)
  have hc := Cmp_dk (by omega) htp hU2 (Val.dk htp) (Val.dk hU2)
  refine Ev.step (fun k => (by rw [florinlaw03_Rounded.j0, _root_.if_neg (by decide)])) ?_
  refine Ev.bind hra (Ev.bind hza (Ev.bind hout (Ev.bind habs ?_)))
  refine Ev.bind (a := tri (dk K ((2 * (z - r).natAbs : Nat) : Int))) (by unfold florinlaw03_twice.f; exact Ev.bind htw (Ev.now _)) (Ev.bind hc ?_)
  have o1 : cmpI (r.natAbs : Int) (z.natAbs : Int) > 0 ↔ z.natAbs < r.natAbs := by rw [cmpI_gt0]; omega
  have q1 : cmpI ((2 * (z - r).natAbs : Nat) : Int) (U : Int) < 0 ↔ 2 * (z - r).natAbs < U := by rw [cmpI_lt0]; omega
  have q2 : cmpI ((2 * (z - r).natAbs : Nat) : Int) (U : Int) = 0 ↔ 2 * (z - r).natAbs = U := by rw [cmpI_eq0]; omega
  obtain ⟨A, hA⟩ : ∃ A, cmpI (r.natAbs : Int) (z.natAbs : Int) = A := ⟨_, rfl⟩
  obtain ⟨C, hC⟩ : ∃ C, cmpI ((2 * (z - r).natAbs : Nat) : Int) (U : Int) = C := ⟨_, rfl⟩
  rw [hA] at o1 ⊢
  rw [hC] at q1 q2 ⊢
  rw [tri1, dk_neg]
  by_cases g3 : m = 3
  · exact Ev.if_pos g3 (Ev.yes (decide_eq_true (o1.2 (m3 g3))))
  refine Ev.if_neg g3 ?_
  by_cases g4 : m = 4
  · refine Ev.if_pos g4 (Ev.yes ?_)
    rw [decide_eq_false (fun h => m4 g4 (o1.1 h))]; rfl
  refine Ev.if_neg g4 ?_
  by_cases g5 : m = 5
  · exact Ev.if_pos g5 (Ev.yes (decide_eq_true (m5 g5)))
  refine Ev.if_neg g5 ?_
  by_cases g6 : m = 6
  · refine Ev.if_pos g6 (Ev.yes ?_)
    rw [decide_eq_false (m6 g6)]; rfl
  refine Ev.if_neg g6 ?_
  by_cases g1 : m = 1
  · refine Ev.if_pos g1 ?_
    rcases m1 g1 with h | ⟨h, h'⟩
    · exact Ev.if_pos (q1.2 h) (Ev.now _)
    · exact Ev.if_neg (fun h2 => by have := q1.1 h2; omega) (Ev.if_pos (q2.2 h) (Ev.yes (decide_eq_true (o1.2 h'))))
  refine Ev.if_neg g1 ?_
  by_cases g2 : m = 2
  · refine Ev.if_pos g2 ?_
    rcases m2 g2 with h | ⟨h, h'⟩
    · exact Ev.if_pos (q1.2 h) (Ev.now _)
    · refine Ev.if_neg (fun h2 => by have := q1.1 h2; omega) (Ev.if_pos (q2.2 h) (Ev.yes ?_))
      rw [decide_eq_false (fun h2 => h' (o1.1 h2))]; rfl
  refine Ev.if_neg g2 ?_
  rcases mz (by omega) with h | ⟨h, h'⟩
  · exact Ev.if_pos (q1.2 h) (Ev.now _)
  · refine Ev.if_neg (fun h2 => by have := q1.1 h2; omega) (Ev.if_pos (q2.2 h) ?_)
    have hev := even_ev hr hU hKM (by omega)
    rw [decide_eq_true h'] at hev
    exact Ev.bind hev (Ev.now _)
theorem head03_At (m : Int) (h0 : 0 ≤ m) (h6 : m ≤ 6) (neg : Bool) : Ev (fun k => round_At.f k neg (S [50, 53]) (-1) 0 m) (tri (nrm neg (qn m neg 25 10) 0)) := by
  have hs : st 25 = (25, 0) := st_uniq (m := 25) (k := 0) (by decide)
  have hd : nrm neg 25 (-1) = ⟨neg, 25, -1⟩ := by
    rw [nrm_pos (by decide), hs]; rfl
  have hv : Val neg [50, 53] (-1) ⟨neg, 25, -1⟩ := ⟨by unfold Dig; decide, by decide, by rw [show nvl [50, 53] = 25 by decide]; exact hd⟩
  have h := At_ev hv 0 m
  rw [show okM m = true from decide_eq_true ⟨h0, h6⟩, _root_.if_pos rfl] at h
  have e1 : atD m ⟨neg, 25, -1⟩ (held 0) = nrm neg (qn m neg 25 10) 0 := by
    unfold atD
    rw [show held 0 = 0 by decide, _root_.if_neg (show ¬ (0 : Int) ≤ -1 by decide)]
    rfl
  rw [e1] at h
  exact h
theorem head03_plain (neg : Bool) (q : Nat) (hq : q = 2 ∨ q = 3) : Ev (fun k => dec_Dec_Plain.f k (tri (nrm neg q 0)).1 (tri (nrm neg q 0)).2.1 (tri (nrm neg q 0)).2.2) (S ((if neg = true then [45] else []) ++ [UInt8.ofNat (48 + q)])) := by
  have hd : nrm neg q 0 = ⟨neg, q, 0⟩ := by
    have hs : st q = (q, 0) := by
      have := st_uniq (m := q) (k := 0) (by omega)
      simpa using this
    rw [nrm_pos (by omega), hs]; rfl
  have hm : mkl q = [UInt8.ofNat (48 + q)] := by
    rcases hq with rfl | rfl
    · exact mkl_lit _ (by decide) (by unfold Dig; decide) (by unfold Bare; decide)
    · exact mkl_lit _ (by decide) (by unfold Dig; decide) (by unfold Bare; decide)
  have hf : Few (nrm neg q 0) := few_nrm (by rw [hm]; simp)
  have h := Plain_tri _ hf
  rw [nrm_idem] at h
  have e1 : plainL (nrm neg q 0) = (if neg = true then [45] else []) ++ [UInt8.ofNat (48 + q)] := by
    rw [hd]
    unfold plainL
    have w : wholeN q 0 = q := by unfold wholeN; rw [_root_.if_pos (by decide)]; simp
    have p : partL q 0 = [] := by unfold partL; rw [_root_.if_pos (by decide)]
    dsimp only
    rw [w, p, hm]
    simp
  rw [e1] at h
  exact h
theorem head03 : Ev (fun k => florinlaw03_head.f k) true := by
  unfold florinlaw03_head.f
  have hs : st 25 = (25, 0) := st_uniq (m := 25) (k := 0) (by decide)
  have hm25 : mkl 25 = [50, 53] := mkl_lit _ (by decide) (by unfold Dig; decide) (by unfold Bare; decide)
  have hd : ∀ neg, nrm neg 25 (-1) = ⟨neg, 25, -1⟩ := fun neg => by rw [nrm_pos (by decide), hs]; rfl
  have h1 := Made_ev false [50, 53] (by decide) (by unfold Dig; decide) (-1)
  rw [show nvl [50, 53] = 25 by decide, hd] at h1
  have hf : Few (⟨false, 25, -1⟩ : D) := by rw [← hd false]; exact few_nrm (by rw [hm25]; decide)
  have h2 := Minus_tri (⟨false, 25, -1⟩ : D) hf
  have e2 : nrm (!(⟨false, 25, -1⟩ : D).neg) (⟨false, 25, -1⟩ : D).m (⟨false, 25, -1⟩ : D).e = ⟨true, 25, -1⟩ := hd true
  rw [e2] at h2
  have t1 : tri (⟨false, 25, -1⟩ : D) = (false, S [50, 53], -1) := by unfold tri; rw [hm25]
  have t2 : tri (⟨true, 25, -1⟩ : D) = (true, S [50, 53], -1) := by unfold tri; rw [hm25]
  rw [t1] at h1 h2
  rw [t2] at h2
  refine Ev.bind h1 (Ev.bind h2 ?_)
  dsimp only
  obtain ⟨ups, hups⟩ : ∃ y, y = ([(⟨#[50]⟩ : ByteArray), (⟨#[51]⟩ : ByteArray), (⟨#[50]⟩ : ByteArray), (⟨#[51]⟩ : ByteArray), (⟨#[50]⟩ : ByteArray), (⟨#[51]⟩ : ByteArray), (⟨#[50]⟩ : ByteArray)] : List ByteArray) := ⟨_, rfl⟩
  obtain ⟨dns, hdns⟩ : ∃ y, y = ([(⟨#[45, 50]⟩ : ByteArray), (⟨#[45, 51]⟩ : ByteArray), (⟨#[45, 50]⟩ : ByteArray), (⟨#[45, 51]⟩ : ByteArray), (⟨#[45, 50]⟩ : ByteArray), (⟨#[45, 50]⟩ : ByteArray), (⟨#[45, 51]⟩ : ByteArray)] : List ByteArray) := ⟨_, rfl⟩
  rw [← hups, ← hdns]
  have l1 : (ups.length : Int) = 7 := by rw [hups]; rfl
  have l2 : (dns.length : Int) = 7 := by rw [hdns]; rfl
  have stp : ∀ m : Int, 0 ≤ m → m ≤ 6 → (rdOf ByteArray.empty ups m).toList = [UInt8.ofNat (48 + qn m false 25 10)] → (rdOf ByteArray.empty dns m).toList = [45, UInt8.ofNat (48 + qn m true 25 10)] → (qn m false 25 10 = 2 ∨ qn m false 25 10 = 3) → (qn m true 25 10 = 2 ∨ qn m true 25 10 = 3) →
      Ev (fun k => florinlaw03_head.l0 k ups dns (m + 1) false (S [50, 53]) (-1) true (S [50, 53]) (-1)) true → Ev (fun k => florinlaw03_head.l0 k ups dns m false (S [50, 53]) (-1) true (S [50, 53]) (-1)) true := by
    intro m g0 g6 e1 e2 q1 q2 hn
    refine Ev.step (fun k => (by rw [florinlaw03_head.l0, show wrap64 (m + 1) = m + 1 from w64 (by omega) (by omega)])) ?_
    refine Ev.if_pos g6 ?_
    refine Ev.bind (head03_At m g0 g6 false) ?_
    refine Ev.bind (head03_plain false _ q1) ?_
    refine Ev.if_pos g0 ?_
    refine Ev.if_pos (by rw [l1]; omega) ?_
    refine Ev.if_pos ?_ ?_
    rotate_left
    refine Ev.bind (head03_At m g0 g6 true) ?_
    refine Ev.bind (head03_plain true _ q2) ?_
    refine Ev.if_pos (by rw [l2]; omega) ?_
    refine Ev.if_pos ?_ hn
    rotate_left
    · rw [S_toList, e1]; rfl
    · rw [S_toList, e2]; rfl
  refine stp 0 (by decide) (by decide) ?_ ?_ (by decide) (by decide) ?_
  · rw [hups]; show (ByteArray.toList ⟨#[50]⟩) = _; exact S_toList [50]
  · rw [hdns]; show (ByteArray.toList ⟨#[45, 50]⟩) = _; exact S_toList [45, 50]
  refine stp 1 (by decide) (by decide) ?_ ?_ (by decide) (by decide) ?_
  · rw [hups]; show (ByteArray.toList ⟨#[51]⟩) = _; exact S_toList [51]
  · rw [hdns]; show (ByteArray.toList ⟨#[45, 51]⟩) = _; exact S_toList [45, 51]
  refine stp 2 (by decide) (by decide) ?_ ?_ (by decide) (by decide) ?_
  · rw [hups]; show (ByteArray.toList ⟨#[50]⟩) = _; exact S_toList [50]
  · rw [hdns]; show (ByteArray.toList ⟨#[45, 50]⟩) = _; exact S_toList [45, 50]
  refine stp 3 (by decide) (by decide) ?_ ?_ (by decide) (by decide) ?_
  · rw [hups]; show (ByteArray.toList ⟨#[51]⟩) = _; exact S_toList [51]
  · rw [hdns]; show (ByteArray.toList ⟨#[45, 51]⟩) = _; exact S_toList [45, 51]
  refine stp 4 (by decide) (by decide) ?_ ?_ (by decide) (by decide) ?_
  · rw [hups]; show (ByteArray.toList ⟨#[50]⟩) = _; exact S_toList [50]
  · rw [hdns]; show (ByteArray.toList ⟨#[45, 50]⟩) = _; exact S_toList [45, 50]
  refine stp 5 (by decide) (by decide) ?_ ?_ (by decide) (by decide) ?_
  · rw [hups]; show (ByteArray.toList ⟨#[51]⟩) = _; exact S_toList [51]
  · rw [hdns]; show (ByteArray.toList ⟨#[45, 50]⟩) = _; exact S_toList [45, 50]
  refine stp 6 (by decide) (by decide) ?_ ?_ (by decide) (by decide) ?_
  · rw [hups]; show (ByteArray.toList ⟨#[50]⟩) = _; exact S_toList [50]
  · rw [hdns]; show (ByteArray.toList ⟨#[45, 51]⟩) = _; exact S_toList [45, 51]
  exact Ev.step (fun k => (by rw [florinlaw03_head.l0, _root_.if_neg (by decide)])) (Ev.now _)
end Go.Proofs.YtoegmienlhgjnaaDoor.P
