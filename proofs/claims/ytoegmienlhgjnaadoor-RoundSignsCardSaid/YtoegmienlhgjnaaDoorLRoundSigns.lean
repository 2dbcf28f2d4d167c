import Derived.Test.YtoegmienlhgjnaaDoorD8
import Derived.Test.YtoegmienlhgjnaaDoorPx11
import Derived.Test.YtoegmienlhgjnaaDoorPx12
namespace Go.Proofs.YtoegmienlhgjnaaDoor.P
open Go.RowKit Go.Proofs.YtoegmienlhgjnaaDoorW.PrintWords Go.Proofs.YtoegmienlhgjnaaDoorW.PrintLast Go.Proofs.YtoegmienlhgjnaaDoorW.PrintMore Go.Proofs.YtoegmienlhgjnaaDoor.FM
set_option linter.unusedVariables false
set_option linter.unusedSimpArgs false

theorem cmpI_le0 {u v : Int} : cmpI u v ≤ 0 ↔ u ≤ v := by
  unfold cmpI
  repeat' split
  all_goals omega
theorem turned_ev (m : Int) : florinlaw03_turned.f m = some (FM.turned m) := by
  unfold florinlaw03_turned.f FM.turned
  by_cases h5 : m = 5
  · rw [_root_.if_pos h5, _root_.if_pos h5]
  · rw [_root_.if_neg h5, _root_.if_neg h5]
    by_cases h6 : m = 6
    · rw [_root_.if_pos h6, _root_.if_pos h6]
    · rw [_root_.if_neg h6, _root_.if_neg h6]
theorem signs_j0 {Q : Nat} (hQ : Q = 600) {n0 : Bool} {l : List UInt8} {e z p m : Int} (a : Mk 200 Q n0 l e z) (p0 : -60 ≤ p) (p1 : p ≤ 60) (m0 : 0 ≤ m) (m6 : m ≤ 6) :
    Ev (fun k => florinlaw03_RoundSigns.j0 k p m false n0 (S l) e (tri (dk 200 (rnd m z (10 ^ (p + ((200 : Nat) : Int)).toNat)))).1 (tri (dk 200 (rnd m z (10 ^ (p + ((200 : Nat) : Int)).toNat)))).2.1 (tri (dk 200 (rnd m z (10 ^ (p + ((200 : Nat) : Int)).toNat)))).2.2) true := by
  have hUp : 0 < 10 ^ (p + ((200 : Nat) : Int)).toNat := Nat.pow_pos (by decide)
  have hU : 10 ^ (p + ((200 : Nat) : Int)).toNat ≤ 10 ^ Q := Nat.pow_le_pow_right (by decide) (by omega)
  have lo := At_dk (m := 6) a.plc (by omega) a.val (p := p) (by omega) (by omega) (by decide) (by decide)
  have hi := At_dk (m := 5) a.plc (by omega) a.val (p := p) (by omega) (by omega) (by decide) (by decide)
  have ht0 : 0 ≤ FM.turned m ∧ FM.turned m ≤ 6 := by
    unfold FM.turned
    split
    · omega
    · split <;> omega
  have tn := At_dk (m := FM.turned m) a.plc.neg (by omega) (Val.dk a.plc.neg) (p := p) (by omega) (by omega) ht0.1 ht0.2
  obtain ⟨U, hUe⟩ : ∃ U, 10 ^ (p + ((200 : Nat) : Int)).toNat = U := ⟨_, rfl⟩
  rw [hUe] at hUp hU lo hi tn ⊢
  rw [rnd_turned] at tn
  have q6 : Plc (Q + 1) 200 (rnd 6 z U) := rnd_plc a.plc (by omega) hU
  have q5 : Plc (Q + 1) 200 (rnd 5 z U) := rnd_plc a.plc (by omega) hU
  have qm : Plc (Q + 1) 200 (rnd m z U) := rnd_plc a.plc (by omega) hU
  have az := a.plc.succ (by omega)
  obtain ⟨r1, r2, r3⟩ := rnd_lo_hi m z hUp
  have c1 := Cmp_dk (by omega) q6 az (Val.dk q6) a.val
  have c2 := Cmp_dk (by omega) az q5 a.val (Val.dk q5)
  have hmm := Minus_dk qm (Val.dk qm)
  refine Ev.step (fun k => (by rw [florinlaw03_RoundSigns.j0, _root_.if_neg (by decide)])) ?_
  refine Ev.bind lo ?_
  refine Ev.bind hi ?_
  refine Ev.bind (Minus_dk a.plc a.val) ?_
  refine Ev.const (turned_ev m) ?_
  refine Ev.bind tn ?_
  refine Ev.bind hmm ?_
  refine Ev.if_pos (by simp) ?_
  by_cases h6 : rnd m z U = rnd 6 z U
  · refine Ev.if_pos (by rw [teq3, h6]; simp) ?_
    refine Ev.bind c1 ?_
    refine Ev.if_pos (cmpI_le0.2 r1) ?_
    exact Ev.bind c2 (Ev.yes (decide_eq_true (cmpI_le0.2 r2)))
  · refine Ev.if_neg (by rw [teq3, decide_eq_true_eq, dk_inj]; exact h6) ?_
    have h5 : rnd m z U = rnd 5 z U := by
      rcases r3 with h | h
      · exact absurd h h6
      · exact h
    refine Ev.if_pos (by rw [teq3, h5]; simp) ?_
    refine Ev.bind c1 ?_
    refine Ev.if_pos (cmpI_le0.2 r1) ?_
    exact Ev.bind c2 (Ev.yes (decide_eq_true (cmpI_le0.2 r2)))
theorem pureRoundSigns (a0 : Bool) (l : List Int) (e : Int) (a1 a2 : Int) (h0 : l.length ≤ maxLen) (h1 : l.length * 1 ≤ 140737488351232) (hw : ∀ x ∈ l, (Lit.int .u8 x).wf = true) (he : (Lit.int .i64 e).wf = true) (w1 : (Lit.int .i64 a1).wf = true) (w2 : (Lit.int .i64 a2).wf = true) :
    ∃ k, florinlaw03_RoundSigns.f k a0 l e a1 a2 = some true := by
  refine Ev.rounds ?_
  unfold florinlaw03_RoundSigns.f
  refine Ev.bind head03 (Ev.if_pos rfl (Ev.const (Few_ev a0 l e 40 (by omega)) ?_))
  by_cases h : (l.length : Int) ≤ (40 : Nat) ∧ -((40 : Nat) : Int) ≤ e ∧ e ≤ (40 : Nat)
  case neg => exact Ev.if_neg (by simpa using h) (Ev.now _)
  refine Ev.if_pos (decide_eq_true h) ?_
  obtain ⟨m, hm, hm0, hm6⟩ := Mode_ev a2
  obtain ⟨p, hp, p0, p1⟩ := place_of a1 60 (by decide) (by decide)
  rw [hp]
  have hl : (digs l).length = l.length := digs_length l
  obtain ⟨Q, hQ⟩ : ∃ Q : Nat, Q = 600 := ⟨_, rfl⟩
  have a := mk_raw (K := 200) (M := Q) (neg := a0) (e := e) (digs_dig l) (by omega) (by omega) (by omega) (by omega) (by omega)
  obtain ⟨z, hz⟩ : ∃ z, raw 200 a0 (nvl (digs l)) e = z := ⟨_, rfl⟩
  rw [hz] at a
  have hat := At_dk (m := m) a.plc (by omega) a.val (p := p) (by omega) (by omega) hm0 hm6
  have hU := unit_inc (M := Q) (K := 200) (p := p) (by omega) (by omega) (by omega) (by omega)
  have hun := unit_ev (M := Q) (K := 200) (p := p) (by omega) (by omega) (by omega) (by omega)
  have hrd := rnd_RD hm0 hm6 z hU.pos
  have hj := signs_j0 hQ a p0 p1 hm0 hm6
  rw [Nat.one_mul] at hU hun hrd
  have hUp := hU.pos
  have hUle := inc_le hU
  obtain ⟨U, hUe⟩ : ∃ U, 10 ^ (p + ((200 : Nat) : Int)).toNat = U := ⟨_, rfl⟩
  rw [hUe] at hat hU hun hrd hj hUp hUle
  have qm : Plc (Q + 1) 200 (rnd m z U) := rnd_plc a.plc (by omega) hUle
  have az := a.plc.succ (by omega)
  have qd : Plc (Q + 1 + 1) 200 (z - rnd m z U) := by
    have := az.add qm.neg (by omega)
    rwa [show z + -rnd m z U = z - rnd m z U by omega] at this
  have qa := qd.abs
  have U2 : Plc (Q + 1 + 1) 200 (U : Int) := hU.plc.up (by omega) (by omega)
  have htw := Add_dk qa qa (Val.dk qa) (Val.dk qa)
  have qt := qa.add qa (by omega)
  have U3 := U2.succ (by omega)
  have c1 := Cmp_dk (by omega) qt U3 (Val.dk qt) (Val.dk U3)
  have c2 := Cmp_dk (by omega) qa U2 (Val.dk qa) (Val.dk U2)
  refine Ev.const hm (Ev.bind (Make_ev a0 l e (by omega) hw) (Ev.bind hat (Ev.bind (Sub_dk az qm a.val (Val.dk qm)) (Ev.bind (Abs_dk qd (Val.dk qd)) ?_))))
  have far : (z - rnd m z U).natAbs < U := by
    rcases hrd.2 with h | h
    · rw [← h]; simp; exact hUp
    · exact h.2.1
  have last : Ev (fun k => (florinlaw03_unit.f k p).bind fun bt => ((dec_Cmp.f k (tri (dk 200 ((z - rnd m z U).natAbs : Int))).1 (tri (dk 200 ((z - rnd m z U).natAbs : Int))).2.1 (tri (dk 200 ((z - rnd m z U).natAbs : Int))).2.2 bt.1 bt.2.1 bt.2.2).bind fun t => (florinlaw03_RoundSigns.j0 k p m (decide (t ≥ 0)) a0 (S (digs l)) e (tri (dk 200 (rnd m z U))).1 (tri (dk 200 (rnd m z U))).2.1 (tri (dk 200 (rnd m z U))).2.2))) true := by
    refine Ev.bind hun (Ev.bind c2 ?_)
    have hlt := (cmpI_lt0 (u := ((z - rnd m z U).natAbs : Int)) (v := (U : Int))).2 (by omega)
    rw [decide_eq_false (by omega)]
    exact hj
  by_cases hm2 : m ≤ 2
  · refine Ev.if_pos hm2 ?_
    refine Ev.bind (a := tri (dk 200 (((z - rnd m z U).natAbs : Int) + ((z - rnd m z U).natAbs : Int)))) (by unfold florinlaw03_twice.f; exact Ev.bind htw (Ev.now _)) ?_
    refine Ev.bind hun (Ev.bind c1 (Ev.if_neg ?_ last))
    intro hgt
    have hgt2 := cmpI_gt0.1 hgt
    rcases hrd.2 with h | ⟨_, _, _, _, _, _, g1, g2, g0⟩
    · rw [← h] at hgt2; simp at hgt2; omega
    · have : m = 0 ∨ m = 1 ∨ m = 2 := by omega
      rcases this with h | h | h
      · rcases g0 h with g | g <;> omega
      · rcases g1 h with g | g <;> omega
      · rcases g2 h with g | g <;> omega
  · exact Ev.if_neg hm2 last
end Go.Proofs.YtoegmienlhgjnaaDoor.P
