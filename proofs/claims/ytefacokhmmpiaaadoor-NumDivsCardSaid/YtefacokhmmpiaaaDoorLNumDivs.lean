import Derived.Test.YtefacokhmmpiaaaDoorS6
import Derived.Test.YtefacokhmmpiaaaDoorPx4
namespace Go.Proofs.YtefacokhmmpiaaaDoor.P
open Go.RowKit Go.Proofs.YtefacokhmmpiaaaDoorW.PrintWords Go.Proofs.YtefacokhmmpiaaaDoorW.PrintLast Go.Proofs.YtefacokhmmpiaaaDoorW.PrintMore Go.Proofs.YtefacokhmmpiaaaDoor.FM
set_option linter.unusedVariables false
set_option linter.unusedSimpArgs false

theorem pureNumDivs : florinlaw01_NumDivs.Pure := by
  intro l0 a1 h1 h2 hw _
  refine Ev.rounds ?_
  unfold florinlaw01_NumDivs.f
  refine Ev.bind head01 (Ev.if_pos rfl ?_)
  by_cases hl : (l0.length : Int) > 200
  · exact Ev.if_pos hl (Ev.now _)
  refine Ev.if_neg hl (Ev.bind (Digits_ev l0 (by omega) hw) ?_)
  have da := digs_dig l0
  have la : Sm (digs l0) := by rw [Sm, digs_length]; omega
  have la' : (digs l0).length ≤ 200 := by rw [digs_length]; omega
  obtain ⟨a, ha⟩ : ∃ a, digs l0 = a := ⟨_, rfl⟩
  rw [ha] at da la la' ⊢
  obtain ⟨x, hx, hx2⟩ := low64 29 (by decide) a1 536870911 (by decide)
  have hm : wrap64 (1 + Go.bits .and .i64 a1 536870911) = ((x + 1 : Nat) : Int) := by
    rw [hx, w64 (by omega) (by omega)]; omega
  rw [hm]
  clear hm hx
  have hx3 : x + 1 ≤ 1000000000 := by omega
  clear hx2
  obtain ⟨m, hm⟩ : ∃ m, x + 1 = m := ⟨_, rfl⟩
  rw [hm] at hx3 ⊢
  have hm1 : 1 ≤ m := by omega
  refine Ev.bind (Div_ev a la da m hm1 hx3) (Ev.bind (Div_not a la 0 (by omega)) (Ev.bind (Div_not a la 1000000001 (by omega)) ?_))
  have hA := nvl_lt da
  have hA2 : nvl a < 10 ^ 200 := Nat.lt_of_lt_of_le hA (Nat.pow_le_pow_right (by omega) la')
  have bq : Sm (mkl (nvl a / m)) := mkl_len_of (Nat.lt_of_le_of_lt (Nat.div_le_self _ _) hA2) (by omega)
  have bt' : nvl a / m * m ≤ nvl a := Nat.div_mul_le_self _ _
  have bt : Sm (mkl (nvl a / m * m)) := mkl_len_of (Nat.lt_of_le_of_lt bt' hA2) (by omega)
  have hr : nvl a % m < m := Nat.mod_lt _ hm1
  have br : Sm (mkl (nvl a % m)) := mkl_len_of (k := 10) (Nat.lt_of_lt_of_le hr (Nat.le_trans hx3 (by decide))) (by omega)
  refine Ev.bind (Bare_ev _ (by rw [Sm] at bq; omega) (dig_mkl _)) (Ev.if_pos (by rw [nvl_mkl]) (Ev.if_pos (by omega) (Ev.if_pos (by omega) ?_)))
  have e := Times_ev _ bq (dig_mkl _) m hx3
  rw [nvl_mkl] at e
  refine Ev.bind e (Ev.bind (Of_ev _ (by omega)) (Ev.bind (Add_ev _ _ bt br (dig_mkl _) (dig_mkl _)) (Ev.bind (Bare_ev a (by rw [Sm] at la; omega) da) ?_)))
  refine Ev.if_pos (by rw [nvl_mkl, nvl_mkl, Nat.mul_comm, Nat.div_add_mod]) (Ev.if_pos (by rw [S_toList]) (Ev.if_pos rfl (Ev.if_pos (by rw [S_toList]) (Ev.now _))))
end Go.Proofs.YtefacokhmmpiaaaDoor.P
