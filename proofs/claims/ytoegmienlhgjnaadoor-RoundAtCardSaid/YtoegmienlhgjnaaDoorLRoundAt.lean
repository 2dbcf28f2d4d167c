import Derived.Test.YtoegmienlhgjnaaDoorD8
import Derived.Test.YtoegmienlhgjnaaDoorPx18
namespace Go.Proofs.YtoegmienlhgjnaaDoor.P
open Go.RowKit Go.Proofs.YtoegmienlhgjnaaDoorW.PrintWords Go.Proofs.YtoegmienlhgjnaaDoorW.PrintLast Go.Proofs.YtoegmienlhgjnaaDoorW.PrintMore Go.Proofs.YtoegmienlhgjnaaDoor.FM
set_option linter.unusedVariables false
set_option linter.unusedSimpArgs false

theorem pureRoundAt (a0 : Bool) (l : List Int) (e : Int) (a1 a2 : Int) (h0 : l.length ≤ maxLen) (h1 : l.length * 1 ≤ 140737488351232) (hw : ∀ x ∈ l, (Lit.int .u8 x).wf = true) (he : (Lit.int .i64 e).wf = true) (w1 : (Lit.int .i64 a1).wf = true) (w2 : (Lit.int .i64 a2).wf = true) :
    ∃ k, florinlaw03_RoundAt.f k a0 l e a1 a2 = some true := by
  refine Ev.rounds ?_
  unfold florinlaw03_RoundAt.f
  refine Ev.bind head03 (Ev.if_pos rfl (Ev.const (Few_ev a0 l e 40 (by omega)) ?_))
  by_cases h : (l.length : Int) ≤ (40 : Nat) ∧ -((40 : Nat) : Int) ≤ e ∧ e ≤ (40 : Nat)
  case neg => exact Ev.if_neg (by simpa using h) (Ev.now _)
  refine Ev.if_pos (decide_eq_true h) ?_
  obtain ⟨m, hm, hm0, hm6⟩ := Mode_ev a2
  obtain ⟨p, hp, p0, p1⟩ := place_of a1 60 (by decide) (by decide)
  rw [hp]
  have hl : (digs l).length = l.length := digs_length l
  obtain ⟨Q, hQ⟩ : ∃ Q : Nat, Q = 600 := ⟨_, rfl⟩
  have a := mk_raw (K := 200) (M := Q) (neg := a0) (e := e) (digs_dig l) (by omega) (by omega) (by omega) (by omega) (by omega)
  obtain ⟨z, hz⟩ : ∃ z, raw 200 a0 (nvl (digs l)) e = z := ⟨_, rfl⟩
  rw [hz] at a
  have hat := At_dk (m := m) a.plc (by omega) a.val (p := p) (by omega) (by omega) hm0 hm6
  rw [show 10 ^ (p + ((200 : Nat) : Int)).toNat = 1 * 10 ^ (p + ((200 : Nat) : Int)).toNat by rw [Nat.one_mul]] at hat
  have hU := unit_inc (M := Q) (K := 200) (p := p) (by omega) (by omega) (by omega) (by omega)
  have hun := unit_ev (M := Q) (K := 200) (p := p) (by omega) (by omega) (by omega) (by omega)
  have hrd := rnd_RD hm0 hm6 z hU.pos
  have hro := Rounded_ev (m := m) a.val (a.plc.succ (by omega)) (rnd_plc (m := m) a.plc (by omega) (inc_le hU)) (inc_succ hU (by omega)) (by omega) (by omega) hm0 hm6 hrd
  have hmk := Make_ev a0 l e (by omega) hw
  exact Ev.const hm (Ev.bind hmk (Ev.bind hmk (Ev.bind hat (Ev.bind hun (Ev.bind hro (Ev.now _))))))
end Go.Proofs.YtoegmienlhgjnaaDoor.P
