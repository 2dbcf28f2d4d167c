import Derived.Test.YtoegmienlhgjnaaDoorD8
import Derived.Test.YtoegmienlhgjnaaDoorPx22
namespace Go.Proofs.YtoegmienlhgjnaaDoor.P
open Go.RowKit Go.Proofs.YtoegmienlhgjnaaDoorW.PrintWords Go.Proofs.YtoegmienlhgjnaaDoorW.PrintLast Go.Proofs.YtoegmienlhgjnaaDoorW.PrintMore Go.Proofs.YtoegmienlhgjnaaDoor.FM
set_option linter.unusedVariables false
set_option linter.unusedSimpArgs false

theorem pureRoundStep (a0 : Bool) (l : List Int) (e : Int) (a1 a2 a3 : Int) (h0 : l.length ≤ maxLen) (h1 : l.length * 1 ≤ 140737488351232) (hw : ∀ x ∈ l, (Lit.int .u8 x).wf = true) (he : (Lit.int .i64 e).wf = true) (w1 : (Lit.int .i64 a1).wf = true) (w2 : (Lit.int .i64 a2).wf = true) (w3 : (Lit.int .i64 a3).wf = true) :
    ∃ k, florinlaw03_RoundStep.f k a0 l e a1 a2 a3 = some true := by
  refine Ev.rounds ?_
  unfold florinlaw03_RoundStep.f
  refine Ev.bind head03 (Ev.if_pos rfl (Ev.const (Few_ev a0 l e 30 (by omega)) ?_))
  by_cases h : (l.length : Int) ≤ (30 : Nat) ∧ -((30 : Nat) : Int) ≤ e ∧ e ≤ (30 : Nat)
  case neg => exact Ev.if_neg (by simpa using h) (Ev.now _)
  refine Ev.if_pos (decide_eq_true h) ?_
  obtain ⟨m, hm, hm0, hm6⟩ := Mode_ev a3
  obtain ⟨p, hp, p0, p1⟩ := place_of a2 20 (by decide) (by decide)
  obtain ⟨n, hn, hn2⟩ := low64 24 (by decide) a1 16777215 (by decide)
  replace hn2 : n < 16777216 := hn2
  rw [hp, hn, show wrap64 (1 + (n : Int)) = ((n + 1 : Nat) : Int) by rw [w64 (by omega) (by omega)]; omega]
  have hl : (digs l).length = l.length := digs_length l
  obtain ⟨Q, hQ⟩ : ∃ Q : Nat, Q = 600 := ⟨_, rfl⟩
  have a := mk_raw (K := 200) (M := Q) (neg := a0) (e := e) (digs_dig l) (by omega) (by omega) (by omega) (by omega) (by omega)
  obtain ⟨z, hz⟩ : ∃ z, raw 200 a0 (nvl (digs l)) e = z := ⟨_, rfl⟩
  rw [hz] at a
  have hlt : (n + 1) * 10 ^ (p + ((200 : Nat) : Int)).toNat < 10 ^ Q := by
    have h1 : n + 1 < 10 ^ 9 := by omega
    refine Nat.lt_of_lt_of_le (Nat.mul_lt_mul_of_pos_right h1 (Nat.pow_pos (by decide))) ?_
    rw [← Nat.pow_add]
    exact Nat.pow_le_pow_right (by decide) (by omega)
  have hU := inc_of (M := Q) (K := 200) (N := n + 1) (p := p) (by omega) (by omega) (by omega) (by omega) hlt
  have lN : (mkl (n + 1)).length ≤ 9 := mkl_length_le.2 (by omega)
  have hby := Made_tri false (n + 1) (by omega) p
  rw [nrm_units (M := Q) (K := 200) (by omega) (by omega) (by omega) hlt (by omega)] at hby
  have hst := Step_dk (m := m) a.plc (by omega) a.val hU hm0 hm6
  have hrd := rnd_RD hm0 hm6 z hU.pos
  have hro := Rounded_ev (m := m) a.val (a.plc.succ (by omega)) (rnd_plc (m := m) a.plc (by omega) (inc_le hU)) (inc_succ hU (by omega)) (by omega) (by omega) hm0 hm6 hrd
  have hmk := Make_ev a0 l e (by omega) hw
  refine Ev.const hm (Ev.bind (Of_ev (n + 1) (by omega)) (Ev.bind hby (Ev.bind hmk (Ev.bind hmk (Ev.bind hst (Ev.bind hro (Ev.now _)))))))
end Go.Proofs.YtoegmienlhgjnaaDoor.P
