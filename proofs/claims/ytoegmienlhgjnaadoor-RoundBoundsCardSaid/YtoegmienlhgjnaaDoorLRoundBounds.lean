import Derived.Test.YtoegmienlhgjnaaDoorD8
import Derived.Test.YtoegmienlhgjnaaDoorPx13
import Derived.Test.YtoegmienlhgjnaaDoorPx14
import Derived.Test.YtoegmienlhgjnaaDoorPx15
namespace Go.Proofs.YtoegmienlhgjnaaDoor.P
open Go.RowKit Go.Proofs.YtoegmienlhgjnaaDoorW.PrintWords Go.Proofs.YtoegmienlhgjnaaDoorW.PrintLast Go.Proofs.YtoegmienlhgjnaaDoorW.PrintMore Go.Proofs.YtoegmienlhgjnaaDoor.FM
set_option linter.unusedVariables false
set_option linter.unusedSimpArgs false

theorem bounds_j0 {Q : Nat} (hQ : Q = 600) {n0 : Bool} {l : List UInt8} {e z p m : Int} (a : Mk 200 Q n0 l e z) (hde : -50 ≤ (dk 200 z).e) (hde2 : (dk 200 z).e ≤ 1000) :
    Ev (fun k => florinlaw03_RoundBounds.j0 k p m false n0 (S l) e (tri (dk 200 z)).1 (tri (dk 200 z)).2.1 (tri (dk 200 z)).2.2 (tri (dk 200 ((1 * 10 ^ 200 : Nat) : Int))).1 (tri (dk 200 ((1 * 10 ^ 200 : Nat) : Int))).2.1 (tri (dk 200 ((1 * 10 ^ 200 : Nat) : Int))).2.2) true := by
  have hone : dk 200 ((1 * 10 ^ 200 : Nat) : Int) = ⟨false, 1, 0⟩ := by
    have h := nrm_units (M := Q) (K := 200) (N := 1) (p := 0) (by omega) (by omega) (by omega) (by rw [Nat.one_mul]; exact Nat.pow_lt_pow_right (by decide) (by omega)) (by omega)
    rw [show ((0 : Int) + ((200 : Nat) : Int)).toNat = 200 by decide] at h
    rw [← h, nrm_pos (by decide), show st 1 = (1, 0) from st_uniq (m := 1) (k := 0) (by decide)]
    rfl
  have hI : Inc Q 200 (1 * 10 ^ 200) := by
    have h := unit_inc (M := Q) (K := 200) (p := 0) (by omega) (by omega) (by omega) (by omega)
    rwa [show ((0 : Int) + ((200 : Nat) : Int)).toNat = 200 by decide] at h
  have hvone := Val.dk hI.plc
  have st1 := fun m => Step_ev a.val hvone m (by rw [hone]; dsimp only; omega) (by rw [hone]; dsimp only; omega)
  have hat := fun p => At_ev a.val p m
  have same : ∀ {x : D}, x = dk 200 z → ((tri x).1 == (tri (dk 200 z)).1 && ((tri x).2.1.toList == (tri (dk 200 z)).2.1.toList && ((tri x).2.2 == (tri (dk 200 z)).2.2))) = true := by
    intro x hx; rw [teq3, hx]; simp
  refine Ev.step (fun k => (by rw [florinlaw03_RoundBounds.j0, _root_.if_neg (by decide)])) ?_
  refine Ev.const (Valid_ev m) ?_
  by_cases hm : okM m = true
  · refine Ev.if_pos hm ?_
    have hm2 := of_decide_eq_true hm
    rw [held_mn]
    have h1 := hat p
    have h2 := hat (held p)
    rw [held_held] at h2
    refine Ev.bind h1 (Ev.bind h2 (Ev.if_pos (by rw [teq3]; simp) ?_))
    -- no increment
    have none : ∀ {n2 : Bool} {l2 : List UInt8} {e2 : Int} {i : D}, Val n2 l2 e2 i → i.e = 0 → (whN i).2 = false → Ev (fun k => round_Step.f k n0 (S l) e n2 (S l2) e2 m) (tri (dk 200 z)) := by
      intro n2 l2 e2 i hi h0 hw
      have h := Step_ev a.val hi m (by rw [h0]; omega) (by rw [h0]; omega)
      rw [_root_.if_neg (fun h => by rw [hw] at h; cases h.1)] at h
      exact h
    have v0 : Val false [] 0 D0 := ⟨Dig.nil, by simp, by rw [nvl_nil, nrm_zero]⟩
    refine Ev.bind (none v0 rfl (by decide)) (Ev.if_pos (same rfl) ?_)
    have hmin := Minus_dk hI.plc hvone
    have vmin := Val.dk hI.plc.neg
    have emin : dk 200 (-((1 * 10 ^ 200 : Nat) : Int)) = ⟨true, 1, 0⟩ := by
      have h3 := dk_minus hI.plc.hK hI.plc.hM hI.plc.hz
      rw [hone] at h3
      rw [← h3]
      show nrm true 1 0 = _
      rw [nrm_pos (by decide), show st 1 = (1, 0) from st_uniq (m := 1) (k := 0) (by decide)]
      rfl
    refine Ev.bind hmin (Ev.bind (none vmin (by rw [emin]) (by rw [emin]; decide)) (Ev.if_pos (same rfl) ?_))
    have hbig := Made_ev false [49, 48, 48, 48, 48, 48, 48, 48, 48, 49] (by decide) (by unfold Dig; decide) 0
    have ebig : nrm false 1000000001 0 = ⟨false, 1000000001, 0⟩ := by
      rw [nrm_pos (by decide), show st 1000000001 = (1000000001, 0) from st_uniq (m := 1000000001) (k := 0) (by decide)]
      rfl
    rw [show nvl [49, 48, 48, 48, 48, 48, 48, 48, 48, 49] = 1000000001 by decide] at hbig
    have lbig : (mkl 1000000001).length ≤ 10 := mkl_length_le.2 (by decide)
    have vbig : Val (nrm false 1000000001 0).neg (mkl (nrm false 1000000001 0).m) (nrm false 1000000001 0).e (nrm false 1000000001 0) := by
      refine ⟨dig_mkl _, ?_, by rw [nvl_mkl]; exact nrm_idem _ _ _⟩
      rw [ebig]
      show (mkl 1000000001).length ≤ _
      omega
    refine Ev.bind hbig (Ev.bind (none vbig (by rw [ebig]) (by rw [ebig]; decide)) (Ev.if_pos (same rfl) ?_))
    have hst := Step_dk (m := m) a.plc (by omega) a.val hI hm2.1 hm2.2
    have hat0 := At_dk (m := m) a.plc (by omega) a.val (p := 0) (by omega) (by omega) hm2.1 hm2.2
    rw [show 10 ^ ((0 : Int) + ((200 : Nat) : Int)).toNat = 1 * 10 ^ 200 by rw [show ((0 : Int) + ((200 : Nat) : Int)).toNat = 200 by decide, Nat.one_mul]] at hat0
    refine Ev.bind hst (Ev.bind hat0 (Ev.if_pos (by rw [teq3]; simp) ?_))
    have h50 := hat (-50)
    have e50 : (if okM m = true then atD m (dk 200 z) (held (-50)) else dk 200 z) = dk 200 z := by
      rw [_root_.if_pos hm]
      unfold atD
      rw [show held (-50) = -50 by decide, _root_.if_pos hde]
    rw [e50] at h50
    exact Ev.bind h50 (Ev.yes (same rfl))
  · have hm3 : okM m = false := Bool.eq_false_iff.2 hm
    refine Ev.if_neg hm ?_
    have h1 := hat p
    rw [_root_.if_neg hm] at h1
    refine Ev.bind h1 (Ev.if_pos (same rfl) ?_)
    have hsig : Ev (fun k => round_Sig.f k n0 (S l) e p m) (tri (dk 200 z)) := by
      unfold round_Sig.f
      have hg := Mag_ev n0 l a.val.len a.val.dig e
      rw [a.val.nrm] at hg
      refine Ev.bind hg ?_
      unfold magD
      by_cases h0 : (dk 200 z).m = 0
      · rw [_root_.if_pos h0]
        refine Ev.if_neg (by dsimp only; decide) ?_
        have hz0 := dk_m_zero.1 h0
        rw [hz0, dk_zero, tri_D0]
        exact Ev.now _
      · rw [_root_.if_neg h0]
        refine Ev.if_pos rfl ?_
        have h2 := hat (wrap64 ((wrap64 ((dk 200 z).e + ((mkl (dk 200 z).m).length : Int) - 1 + 1)) - mn (mx p 1) 30000))
        rw [_root_.if_neg hm] at h2
        exact Ev.bind h2 (Ev.now _)
    refine Ev.bind hsig (Ev.if_pos (same rfl) ?_)
    have h3 := st1 m
    rw [_root_.if_neg (fun h => hm h.2)] at h3
    exact Ev.bind h3 (Ev.yes (same rfl))
theorem pureRoundBounds (a0 : Bool) (l : List Int) (e : Int) (a1 a2 : Int) (h0 : l.length ≤ maxLen) (h1 : l.length * 1 ≤ 140737488351232) (hw : ∀ x ∈ l, (Lit.int .u8 x).wf = true) (he : (Lit.int .i64 e).wf = true) (w1 : (Lit.int .i64 a1).wf = true) (w2 : (Lit.int .i64 a2).wf = true) :
    ∃ k, florinlaw03_RoundBounds.f k a0 l e a1 a2 = some true := by
  refine Ev.rounds ?_
  unfold florinlaw03_RoundBounds.f
  refine Ev.bind head03 (Ev.if_pos rfl (Ev.const (Few_ev a0 l e 40 (by omega)) ?_))
  by_cases h : (l.length : Int) ≤ (40 : Nat) ∧ -((40 : Nat) : Int) ≤ e ∧ e ≤ (40 : Nat)
  case neg => exact Ev.if_neg (by simpa using h) (Ev.now _)
  refine Ev.if_pos (decide_eq_true h) ?_
  have hl : (digs l).length = l.length := digs_length l
  obtain ⟨Q, hQ⟩ : ∃ Q : Nat, Q = 600 := ⟨_, rfl⟩
  have a := mk_raw (K := 200) (M := Q) (neg := a0) (e := e) (digs_dig l) (by omega) (by omega) (by omega) (by omega) (by omega)
  have hd : -50 ≤ (dk 200 (raw 200 a0 (nvl (digs l)) e)).e ∧ (dk 200 (raw 200 a0 (nvl (digs l)) e)).e ≤ 1000 := by
    rw [← a.val.nrm]
    rcases Nat.eq_zero_or_pos (nvl (digs l)) with h0 | h0
    · rw [h0, nrm_zero]; decide
    · have hst := st_snd_lt h0 (nvl_lt (digs_dig l))
      rw [nrm_pos h0]
      dsimp only
      rw [held_of (x := e) (by omega) (by omega), held_of (by omega) (by omega)]
      omega
  obtain ⟨z, hz⟩ : ∃ z, raw 200 a0 (nvl (digs l)) e = z := ⟨_, rfl⟩
  rw [hz] at a hd
  have hone := Made_ev false [49] (by decide) (by unfold Dig; decide) 0
  rw [show nvl [49] = 1 by decide, nrm_units (M := Q) (K := 200) (N := 1) (p := 0) (by omega) (by omega) (by omega) (by rw [Nat.one_mul]; exact Nat.pow_lt_pow_right (by decide) (by omega)) (by omega), show ((0 : Int) + ((200 : Nat) : Int)).toNat = 200 by decide] at hone
  have hj := bounds_j0 hQ (p := a2) (m := a1) a hd.1 hd.2
  refine Ev.bind (Make_ev a0 l e (by omega) hw) (Ev.bind a.val.norm (Ev.bind hone (Ev.const (Valid_ev a1) ?_)))
  by_cases hge : a1 ≥ 0
  · refine Ev.if_pos hge ?_
    have e1 : (okM a1 != decide (a1 ≤ 6)) = false := by
      unfold okM
      rw [show decide (0 ≤ a1 ∧ a1 ≤ 6) = decide (a1 ≤ 6) from decide_eq_decide.2 (by omega)]
      simp
    rw [e1]
    exact hj
  · refine Ev.if_neg hge ?_
    have e1 : (okM a1 != false) = false := by
      unfold okM
      rw [decide_eq_false (by omega)]
      rfl
    rw [e1]
    exact hj
end Go.Proofs.YtoegmienlhgjnaaDoor.P
