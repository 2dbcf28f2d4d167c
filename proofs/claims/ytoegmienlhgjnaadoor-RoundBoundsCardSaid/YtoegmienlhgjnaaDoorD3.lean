import Derived.Test.YtoegmienlhgjnaaDoorD2
import Derived.Test.YtoegmienlhgjnaaDoorPx2
import Derived.Test.YtoegmienlhgjnaaDoorPx4
import Derived.Test.YtoegmienlhgjnaaDoorPx5
import Derived.Test.YtoegmienlhgjnaaDoorPx7
namespace Go.Proofs.YtoegmienlhgjnaaDoor.P
open Go.RowKit Go.Proofs.YtoegmienlhgjnaaDoorW.PrintWords Go.Proofs.YtoegmienlhgjnaaDoorW.PrintLast Go.Proofs.YtoegmienlhgjnaaDoorW.PrintMore Go.Proofs.YtoegmienlhgjnaaDoor.FM
set_option linter.unusedVariables false
set_option linter.unusedSimpArgs false

/-- a decimal as it was made, or in its normal form: what it is -/
structure Val (neg : Bool) (l : List UInt8) (e : Int) (a : D) : Prop where
  dig : Dig l
  len : l.length ≤ 100000000
  nrm : FM.nrm neg (nvl l) e = a
theorem Val.few {neg : Bool} {l : List UInt8} {e : Int} {a : D} (h : Val neg l e a) : Few a := h.nrm ▸ few_dig h.len h.dig
theorem Val.norm {neg : Bool} {l : List UInt8} {e : Int} {a : D} (h : Val neg l e a) : Ev (fun k => dec_Dec_Norm.f k neg (S l) e) (tri a) := by
  have := Norm_ev neg l (by have := h.len; omega) h.dig e
  rwa [h.nrm] at this
theorem Val.again {neg : Bool} {l : List UInt8} {e : Int} {a : D} (h : Val neg l e a) : Val a.neg (mkl a.m) a.e a := by
  refine ⟨dig_mkl _, h.few.1, ?_⟩
  rw [nvl_mkl, ← h.nrm, nrm_idem]
/-- of few places -/
structure Plc (M K : Nat) (z : Int) : Prop where
  hK : K ≤ M
  hM : M ≤ 29000
  hz : z.natAbs < 10 ^ M
theorem Val.dk {M K : Nat} {z : Int} (h : Plc M K z) : Val (FM.dk K z).neg (mkl (FM.dk K z).m) (FM.dk K z).e (FM.dk K z) := by
  refine ⟨dig_mkl _, ?_, ?_⟩
  · rw [dk_m]
    have := mkl_length_le.2 (Nat.lt_of_le_of_lt (st_le z.natAbs) h.hz)
    have := h.hM
    omega
  · rw [nvl_mkl, dk_again h.hK h.hM h.hz, dk_neg, sg_of]
theorem Val.neg_eq {nb : Bool} {lb : List UInt8} {eb : Int} {K : Nat} {v : Int} (h : Val nb lb eb (FM.dk K v)) (hv : v ≠ 0) : nb = decide (v < 0) := by
  have h1 := congrArg D.neg h.nrm
  rw [nrm_neg, dk_neg] at h1
  have h2 : nvl lb ≠ 0 := by
    intro h0
    have h3 := h.nrm
    rw [h0, nrm_zero] at h3
    exact hv (dk_eq_D0.1 h3.symm)
  rw [decide_eq_true h2, Bool.and_true] at h1
  exact h1
theorem Val.sign {nb b : Bool} {lb : List UInt8} {eb : Int} {M K : Nat} {v : Int} (h : Val nb lb eb (FM.dk K v)) (hp : Plc M K v) : FM.nrm b (nvl lb) eb = FM.dk K (sg b v.natAbs) := by
  have h1 := nrm_again b nb (nvl lb) eb
  rw [h.nrm, dk_again hp.hK hp.hM hp.hz] at h1
  exact h1.symm
theorem Val.minus {nb : Bool} {lb : List UInt8} {eb : Int} {M K : Nat} {v : Int} (h : Val nb lb eb (FM.dk K v)) (hp : Plc M K v) : FM.nrm (!nb) (nvl lb) eb = FM.dk K (-v) := by
  rw [h.sign hp, sg_not]
  by_cases hv : v = 0
  · subst hv; rw [show (0 : Int).natAbs = 0 from rfl, sg_zero]
  · rw [h.neg_eq hv, sg_of]
theorem Plc.neg {M K : Nat} {z : Int} (h : Plc M K z) : Plc M K (-z) := ⟨h.hK, h.hM, by rw [Int.natAbs_neg]; exact h.hz⟩
theorem Plc.abs {M K : Nat} {z : Int} (h : Plc M K z) : Plc M K (z.natAbs : Int) := ⟨h.hK, h.hM, by rw [Int.natAbs_natCast]; exact h.hz⟩
theorem Plc.add {M K : Nat} {u v : Int} (h : Plc M K u) (h2 : Plc M K v) (hM : M + 1 ≤ 29000) : Plc (M + 1) K (u + v) :=
  ⟨Nat.le_succ_of_le h.hK, hM, by have := h.hz; have := h2.hz; rw [Nat.pow_succ]; omega⟩
theorem Plc.up {M M' K : Nat} {u : Int} (h : Plc M K u) (hle : M ≤ M') (hM : M' ≤ 29000) : Plc M' K u :=
  ⟨Nat.le_trans h.hK hle, hM, Nat.lt_of_lt_of_le h.hz (Nat.pow_le_pow_right (by decide) hle)⟩
theorem Minus_dk {nb : Bool} {lb : List UInt8} {eb : Int} {M K : Nat} {v : Int} (hv : Plc M K v) (hb : Val nb lb eb (FM.dk K v)) : Ev (fun k => dec_Dec_Minus.f k nb (S lb) eb) (tri (FM.dk K (-v))) := by
  have h := Minus_ev nb lb (by have := hb.len; omega) hb.dig eb
  rwa [hb.minus hv] at h
def cmpI (u v : Int) : Int := if u = v then 0 else if u < v then -1 else 1
theorem Few_ev (neg : Bool) (l : List Int) (e : Int) (n : Nat) (hn : n ≤ 1000) : florinlaw02_Raw_Few.f neg l e (n : Int) = some (decide ((l.length : Int) ≤ n ∧ -(n : Int) ≤ e ∧ e ≤ n)) := by
  unfold florinlaw02_Raw_Few.f
  rw [w64 (by omega) (by omega)]
  by_cases h1 : (l.length : Int) ≤ n
  · rw [_root_.if_pos h1]
    by_cases h2 : e ≥ -(n : Int)
    · rw [_root_.if_pos h2]
      congr 1
      apply decide_eq_decide.2
      omega
    · rw [_root_.if_neg h2, decide_eq_false (by omega)]
  · rw [_root_.if_neg h1, decide_eq_false (by omega)]
theorem Make_ev (neg : Bool) (l : List Int) (e : Int) (hl : l.length ≤ 100000000) (hw : ∀ x ∈ l, (Lit.int .u8 x).wf = true) : Ev (fun k => florinlaw02_Raw_Make.f k neg l e) (neg, S (digs l), e) := by
  unfold florinlaw02_Raw_Make.f
  exact Ev.bind (Digits_ev l (by omega) hw) (Ev.now _)
end Go.Proofs.YtoegmienlhgjnaaDoor.P
