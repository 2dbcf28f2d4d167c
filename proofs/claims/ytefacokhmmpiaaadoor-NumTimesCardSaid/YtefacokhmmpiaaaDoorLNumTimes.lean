import Derived.Test.YtefacokhmmpiaaaDoorS6
import Derived.Test.YtefacokhmmpiaaaDoorPx3
namespace Go.Proofs.YtefacokhmmpiaaaDoor.P
open Go.RowKit Go.Proofs.YtefacokhmmpiaaaDoorW.PrintWords Go.Proofs.YtefacokhmmpiaaaDoorW.PrintLast Go.Proofs.YtefacokhmmpiaaaDoorW.PrintMore Go.Proofs.YtefacokhmmpiaaaDoor.FM
set_option linter.unusedVariables false
set_option linter.unusedSimpArgs false

theorem pureNumTimes : florinlaw01_NumTimes.Pure := by
  intro l0 a1 a2 h1 h2 hw _ _
  refine Ev.rounds ?_
  unfold florinlaw01_NumTimes.f
  refine Ev.bind head01 (Ev.if_pos rfl ?_)
  by_cases hl : (l0.length : Int) > 200
  · exact Ev.if_pos hl (Ev.now _)
  refine Ev.if_neg hl (Ev.bind (Digits_ev l0 (by omega) hw) ?_)
  have da := digs_dig l0
  have la : Sm (digs l0) := by rw [Sm, digs_length]; omega
  have la' : (digs l0).length ≤ 200 := by rw [digs_length]; omega
  obtain ⟨a, ha⟩ : ∃ a, digs l0 = a := ⟨_, rfl⟩
  rw [ha] at da la la' ⊢
  obtain ⟨m, hm, hm2⟩ : ∃ m : Nat, Go.bits .and .i64 a1 268435455 = m ∧ m < 268435456 := by
    rw [and64 28 (by decide) a1 _ (by decide)]
    exact ⟨(a1 % ((2 ^ 28 : Nat) : Int)).toNat, by omega, by omega⟩
  obtain ⟨n, hn, hn2⟩ : ∃ n : Nat, Go.bits .and .i64 a2 268435455 = n ∧ n < 268435456 := by
    rw [and64 28 (by decide) a2 _ (by decide)]
    exact ⟨(a2 % ((2 ^ 28 : Nat) : Int)).toNat, by omega, by omega⟩
  rw [hm, hn]
  have e1 : wrap64 ((m : Int) + (n : Int)) = ((m + n : Nat) : Int) := by rw [w64 (by omega) (by omega)]; omega
  have e2 : wrap64 ((m : Int) + 1) = ((m + 1 : Nat) : Int) := inc64 (by omega)
  rw [e1, e2]
  refine Ev.bind (Times_ev a la da 0 (by omega)) (Ev.if_pos (by rw [S_toList]; simp) ?_)
  refine Ev.bind (Times_ev a la da 1 (by omega)) (Ev.bind (Bare_ev a (by omega) da) (Ev.if_pos (by rw [Nat.mul_one]) ?_))
  refine Ev.bind (Times_ev a la da 10 (by omega)) (Ev.if_pos (by rw [S_size]; omega) ?_)
  have d0 : Dig (a ++ [48]) := da.append (by decide)
  rw [show S a ++ (⟨#[48]⟩ : ByteArray) = S (a ++ [48]) from S_append a [48]]
  refine Ev.bind (Bare_ev (a ++ [48]) (by simp; omega) d0) (Ev.if_pos (by rw [show nvl (a ++ [48]) = nvl a * 10 from by rw [nvl_snoc, Nat.mul_comm]; rfl]) ?_)
  have big : ∀ x : Nat, x < 600000000 → (mkl (nvl a * x)).length ≤ 200 + 9 := by
    intro x hx
    rw [mkl_length_le, Nat.pow_add]
    have h3 := nvl_lt da
    have h4 : 10 ^ a.length ≤ 10 ^ 200 := Nat.pow_le_pow_right (by omega) la'
    exact Nat.lt_of_le_of_lt (Nat.mul_le_mul_right x (Nat.le_of_lt (Nat.lt_of_lt_of_le h3 h4))) (Nat.mul_lt_mul_of_pos_left (by omega) (Nat.pow_pos (by omega)))
  refine Ev.bind (Times_ev a la da (m + n) (by omega)) (Ev.bind (Times_ev a la da m (by omega)) (Ev.bind (Times_ev a la da n (by omega)) ?_))
  have bm : Sm (mkl (nvl a * m)) := by have := big m (by omega); rw [Sm]; omega
  have bn : Sm (mkl (nvl a * n)) := by have := big n (by omega); rw [Sm]; omega
  refine Ev.bind (Add_ev _ _ bm bn (dig_mkl _) (dig_mkl _)) (Ev.if_pos (by rw [nvl_mkl, nvl_mkl, ← Nat.mul_add]) ?_)
  refine Ev.bind (Times_ev a la da (m + 1) (by omega)) (Ev.bind (Add_ev _ a bm la (dig_mkl _) da) (Ev.if_pos (by rw [nvl_mkl, Nat.mul_add, Nat.mul_one]) ?_))
  refine Ev.bind (Times_not a la (-1) (by omega)) (Ev.if_pos (by rw [S_toList]) ?_)
  refine Ev.bind (Times_not [49] (by decide) 1000000001 (by omega)) (Ev.if_pos (by rw [S_toList]) ?_)
  refine Ev.bind (Times_ev [49] (by decide) (by decide) 1000000000 (by omega)) ?_
  rw [mkl_lit [49, 48, 48, 48, 48, 48, 48, 48, 48, 48] (by decide) (by decide) (by unfold Bare; decide), S_toList]
  exact Ev.now _
end Go.Proofs.YtefacokhmmpiaaaDoor.P
