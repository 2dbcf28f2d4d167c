import Derived.Test.YtoegmienlhgjnaaDoorD3
namespace Go.Proofs.YtoegmienlhgjnaaDoor.P
open Go.RowKit Go.Proofs.YtoegmienlhgjnaaDoorW.PrintWords Go.Proofs.YtoegmienlhgjnaaDoorW.PrintLast Go.Proofs.YtoegmienlhgjnaaDoorW.PrintMore Go.Proofs.YtoegmienlhgjnaaDoor.FM
set_option linter.unusedVariables false
set_option linter.unusedSimpArgs false

theorem ane3 (a b : D) : (!((tri a).1 == (tri b).1) || (!((tri a).2.1.toList == (tri b).2.1.toList) || (!((tri a).2.2 == (tri b).2.2)))) = decide (a ≠ b) := by
  rw [tri1, tri1, tri2, tri2, tri3, tri3, S_toList, S_toList]
  by_cases h : a = b
  · subst h; simp
  · rw [decide_eq_true h]
    by_cases h1 : a.neg = b.neg
    · by_cases h2 : a.m = b.m
      · have h3 : a.e ≠ b.e := fun h3 => h (by obtain ⟨_, _, _⟩ := a; obtain ⟨_, _, _⟩ := b; simp_all)
        simp [h3]
      · have h3 : mkl a.m ≠ mkl b.m := fun h => h2 (mkl_inj.1 h)
        simp [h3]
    · simp [h1]
/-- a decimal of few places, as a law makes it -/
structure Mk (K M : Nat) (neg : Bool) (l : List UInt8) (e : Int) (u : Int) : Prop where
  val : Val neg l e (FM.dk K u)
  plc : Plc M K u
  abs : nvl (l ++ zs (e + K).toNat) = u.natAbs
  sgn : u ≠ 0 → neg = decide (u < 0)
  len : l.length ≤ 1000
  lo : -(K : Int) ≤ e
  hi : e ≤ K
theorem mk_raw {K M : Nat} {neg : Bool} {l : List UInt8} {e : Int} (hd : Dig l) (hl : l.length ≤ K) (h0 : -(K : Int) ≤ e) (h1 : e ≤ K) (hK : 3 * K ≤ M) (hM : M ≤ 1000) : Mk K M neg l e (raw K neg (nvl l) e) := by
  have hn := nvl_lt hd
  have h := nrm_raw (K := K) (k := l.length) (M := M) (neg := neg) (e := e) (by omega) (by omega) (by omega) hn (by omega)
  refine ⟨⟨hd, by omega, h.1⟩, ⟨by omega, by omega, h.2⟩, ?_, ?_, by omega, h0, h1⟩
  · rw [nvl_append_zs]; unfold raw; rw [sg_natAbs]
  · intro hu
    unfold raw at hu ⊢
    have hpos : 0 < nvl l * 10 ^ (e + K).toNat := by
      rcases Nat.eq_zero_or_pos (nvl l * 10 ^ (e + K).toNat) with h | h
      · rw [h, sg_zero] at hu; exact absurd rfl hu
      · exact h
    exact (sg_neg hpos).symm
theorem dk_norm {K M : Nat} {z : Int} (h : Plc M K z) : FM.dk K z = nrm (FM.dk K z).neg (FM.dk K z).m (FM.dk K z).e := by
  rw [dk_again h.hK h.hM h.hz, dk_neg, sg_of]
theorem val_D0 (K : Nat) : Val false [] 0 (FM.dk K 0) := ⟨Dig.nil, by simp, by rw [nvl_nil, nrm_zero, dk_zero]⟩
end Go.Proofs.YtoegmienlhgjnaaDoor.P
