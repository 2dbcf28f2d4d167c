import Derived.Test.YtoegmienlhgjnaaDoorD8
import Derived.Test.YtoegmienlhgjnaaDoorMA
import Derived.Test.YtoegmienlhgjnaaDoorPx8
namespace Go.Proofs.YtoegmienlhgjnaaDoor.P
open Go.RowKit Go.Proofs.YtoegmienlhgjnaaDoorW.PrintWords Go.Proofs.YtoegmienlhgjnaaDoorW.PrintLast Go.Proofs.YtoegmienlhgjnaaDoorW.PrintMore Go.Proofs.YtoegmienlhgjnaaDoor.FM
set_option linter.unusedVariables false
set_option linter.unusedSimpArgs false

theorem pureRoundTwice (a0 : Bool) (l : List Int) (e : Int) (a1 a2 a3 : Int) (h0 : l.length ≤ maxLen) (h1 : l.length * 1 ≤ 140737488351232) (hw : ∀ x ∈ l, (Lit.int .u8 x).wf = true) (he : (Lit.int .i64 e).wf = true) (w1 : (Lit.int .i64 a1).wf = true) (w2 : (Lit.int .i64 a2).wf = true) (w3 : (Lit.int .i64 a3).wf = true) :
    ∃ k, florinlaw03_RoundTwice.f k a0 l e a1 a2 a3 = some true := by
  refine Ev.rounds ?_
  unfold florinlaw03_RoundTwice.f
  refine Ev.bind head03 (Ev.if_pos rfl (Ev.const (Few_ev a0 l e 40 (by omega)) ?_))
  by_cases h : (l.length : Int) ≤ (40 : Nat) ∧ -((40 : Nat) : Int) ≤ e ∧ e ≤ (40 : Nat)
  case neg => exact Ev.if_neg (by simpa using h) (Ev.now _)
  refine Ev.if_pos (decide_eq_true h) ?_
  obtain ⟨m', hm', hm0, hm3⟩ := u64_mod a3 4 (by decide) (by decide)
  obtain ⟨p, hp, p0, p1⟩ := place_of a1 60 (by decide) (by decide)
  obtain ⟨q, hq, hq2⟩ := low64 4 (by decide) a2 15 (by decide)
  replace hq2 : q < 16 := hq2
  rw [hm', hp, hq, w64 (x := 3 + m') (by omega) (by omega), w64 (x := p + q) (by omega) (by omega)]
  have hl : (digs l).length = l.length := digs_length l
  obtain ⟨Q, hQ⟩ : ∃ Q : Nat, Q = 600 := ⟨_, rfl⟩
  have a := mk_raw (K := 200) (M := Q) (neg := a0) (e := e) (digs_dig l) (by omega) (by omega) (by omega) (by omega) (by omega)
  obtain ⟨z, hz⟩ : ∃ z, raw 200 a0 (nvl (digs l)) e = z := ⟨_, rfl⟩
  rw [hz] at a
  have hat := At_dk (m := 3 + m') a.plc (by omega) a.val (p := p) (by omega) (by omega) (by omega) (by omega)
  have hpl : Plc (Q + 1) 200 (rnd (3 + m') z (10 ^ (p + ((200 : Nat) : Int)).toNat)) := rnd_plc a.plc (by omega) (Nat.pow_le_pow_right (by decide) (by omega))
  have hat2 := At_dk (m := 3 + m') hpl (by omega) (Val.dk hpl) (p := p + q) (by omega) (by omega) (by omega) (by omega)
  have hat3 := At_dk (m := 3 + m') a.plc (by omega) a.val (p := p + q) (by omega) (by omega) (by omega) (by omega)
  have e1 : 10 ^ (p + (q : Int) + ((200 : Nat) : Int)).toNat = 10 ^ (p + ((200 : Nat) : Int)).toNat * 10 ^ q := by rw [← Nat.pow_add]; congr 1; omega
  rw [e1] at hat2 hat3
  rw [rnd_twice (by omega) (by omega) z (Nat.pow_pos (by decide)) (Nat.pow_pos (by decide))] at hat2
  refine Ev.bind (Make_ev a0 l e (by omega) hw) (Ev.bind hat (Ev.bind hat2 (Ev.bind hat3 (Ev.yes ?_))))
  rw [teq3]; simp
end Go.Proofs.YtoegmienlhgjnaaDoor.P
