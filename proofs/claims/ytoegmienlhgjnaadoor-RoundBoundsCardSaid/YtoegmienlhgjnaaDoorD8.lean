import Derived.Test.YtoegmienlhgjnaaDoorD7
import Derived.Test.YtoegmienlhgjnaaDoorPx14
namespace Go.Proofs.YtoegmienlhgjnaaDoor.P
open Go.RowKit Go.Proofs.YtoegmienlhgjnaaDoorW.PrintWords Go.Proofs.YtoegmienlhgjnaaDoorW.PrintLast Go.Proofs.YtoegmienlhgjnaaDoorW.PrintMore Go.Proofs.YtoegmienlhgjnaaDoor.FM
set_option linter.unusedVariables false
set_option linter.unusedSimpArgs false

theorem tdv60 {r c : Int} (h1 : -c < r) (h2 : r < c) (hc : c ≤ 1000) : -c ≤ Int.tdiv r 2 ∧ Int.tdiv r 2 ≤ c ∧ -c ≤ r - Int.tdiv r 2 ∧ r - Int.tdiv r 2 ≤ c := by
  rcases Int.lt_or_le r 0 with h | h
  · obtain ⟨s, rfl⟩ : ∃ s : Int, r = -s := ⟨-r, by omega⟩
    rw [Int.neg_tdiv, Int.tdiv_eq_ediv_of_nonneg (by omega)]
    omega
  · rw [Int.tdiv_eq_ediv_of_nonneg h]
    omega
theorem place_of (a1 c : Int) (hc : 0 < c) (hc2 : c ≤ 1000) : ∃ p : Int, wrap64 ((Int.tmod a1 c) - (wrap64 (Int.tdiv (Int.tmod a1 c) 2))) = p ∧ -c ≤ p ∧ p ≤ c := by
  refine ⟨_, rfl, ?_⟩
  have h1 : -c < Int.tmod a1 c ∧ Int.tmod a1 c < c := ⟨Int.lt_tmod_of_pos a1 hc, Int.tmod_lt_of_pos a1 hc⟩
  obtain ⟨r, hr⟩ : ∃ r, Int.tmod a1 c = r := ⟨_, rfl⟩
  rw [hr] at h1 ⊢
  have h3 := tdv60 h1.1 h1.2 hc2
  rw [w64 (x := Int.tdiv r 2) (by omega) (by omega), w64 (by omega) (by omega)]
  exact ⟨h3.2.2.1, h3.2.2.2⟩
theorem u64_mod (a c : Int) (hc : 0 < c) (hc2 : c ≤ 1000) : ∃ m : Int, wrap64 (Int.tmod (IntKind.u64.wrap a) c) = m ∧ 0 ≤ m ∧ m < c := by
  have h0 : 0 ≤ IntKind.u64.wrap a := by rw [IntKind.wrap_u64]; omega
  obtain ⟨u, hu⟩ : ∃ u, IntKind.u64.wrap a = u := ⟨_, rfl⟩
  rw [hu] at h0 ⊢
  rw [Int.tmod_eq_emod_of_nonneg h0]
  have h1 := Int.emod_nonneg u (show c ≠ 0 by omega)
  have h2 := Int.emod_lt_of_pos u hc
  refine ⟨_, rfl, ?_⟩
  rw [w64 (by omega) (by omega)]
  exact ⟨h1, h2⟩
theorem dk_pow_m (K n j : Nat) (hn : 0 < n) : (dk K ((n * 10 ^ j : Nat) : Int)).m ≤ n := by
  rw [dk_m, Int.natAbs_natCast, st_mul_pow hn]
  exact st_le n
theorem nrm_units {M K N : Nat} {p : Int} (hK : K ≤ M) (hM : M ≤ 29000) (h0 : 0 ≤ p + K) (hN : N * 10 ^ (p + K).toNat < 10 ^ M) (hp : p ≤ 30000) : nrm false N p = dk K ((N * 10 ^ (p + K).toNat : Nat) : Int) := by
  rw [nrm_dk (K := K) h0 hp (by omega) (Nat.lt_of_lt_of_le hN (Nat.pow_le_pow_right (by decide) (by omega)))]
  rfl
theorem inc_of {M K N : Nat} {p : Int} (hK : K ≤ M) (hM : M ≤ 29000) (hN : 0 < N) (hN2 : N ≤ 1000000000) (hlt : N * 10 ^ (p + K).toNat < 10 ^ M) : Inc M K (N * 10 ^ (p + K).toNat) :=
  ⟨⟨hK, hM, by rw [Int.natAbs_natCast]; exact hlt⟩, Nat.mul_pos hN (Nat.pow_pos (by decide)), Nat.le_trans (dk_pow_m K N _ hN) hN2⟩
theorem unit_inc {M K : Nat} {p : Int} (hK : K ≤ M) (hM : M ≤ 29000) (h1 : p + K < M) (h0 : 0 ≤ p + K) : Inc M K (1 * 10 ^ (p + K).toNat) :=
  inc_of hK hM (by decide) (by decide) (by rw [Nat.one_mul]; exact Nat.pow_lt_pow_right (by decide) (by omega))
theorem rnd_plc {M K U : Nat} {z m : Int} (hz : Plc M K z) (hM : M + 1 ≤ 29000) (hU : U ≤ 10 ^ M) : Plc (M + 1) K (rnd m z U) := ⟨Nat.le_succ_of_le hz.hK, hM, rnd_lt hz.hz hU⟩
theorem inc_succ {M K U : Nat} (h : Inc M K U) (hM : M + 1 ≤ 29000) : Inc (M + 1) K U := ⟨h.plc.succ hM, h.pos, h.small⟩
theorem inc_le {M K U : Nat} (h : Inc M K U) : U ≤ 10 ^ M := by have := h.plc.hz; rw [Int.natAbs_natCast] at this; omega
theorem Step_dk {neg : Bool} {l : List UInt8} {e : Int} {K M U : Nat} {z m : Int} (hz : Plc M K z) (hM : 2 * M ≤ 28000) (hv : Val neg l e (dk K z)) (hU : Inc M K U) (hm0 : 0 ≤ m) (hm : m ≤ 6) :
    Ev (fun k => round_Step.f k neg (S l) e (tri (dk K (U : Int))).1 (tri (dk K (U : Int))).2.1 (tri (dk K (U : Int))).2.2 m) (tri (dk K (rnd m z U))) := by
  have hUz : (U : Int) ≠ 0 := by have := hU.pos; omega
  obtain ⟨i1, i2⟩ := dk_mod (K := K) hUz
  have ie1 := dk_e_ge K (U : Int)
  have ie2 := dk_e_lt hU.plc.hz hU.plc.hK
  have de1 := dk_e_ge K z
  have de2 := dk_e_lt hz.hz hz.hK
  have hKM := hz.hK
  have hUv := dk_val K (U : Int)
  rw [Int.natAbs_natCast] at hUv
  have h := Step_ev hv (Val.dk hU.plc) m (by omega) (by omega)
  have hw : (whN (dk K (U : Int))).2 = true ∧ okM m = true := by
    refine ⟨?_, decide_eq_true ⟨hm0, hm⟩⟩
    unfold whN
    have hs := hU.small
    rw [_root_.if_pos (by omega), dk_neg]
    rw [show decide ((U : Int) < 0) = false from decide_eq_false (by omega), Bool.not_false, Bool.true_and]
    exact decide_eq_true ⟨by omega, hs⟩
  rw [_root_.if_pos hw, stD_dk hz.hK (by omega) hz.hz (by omega) i2 (by rw [hUv]; exact inc_le hU), hUv] at h
  exact h
end Go.Proofs.YtoegmienlhgjnaaDoor.P
