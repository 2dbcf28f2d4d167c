import Derived.Test.YthkpmiajcmihjaaGreatDoorDB
import Derived.Test.YthkpmiajcmihjaaGreatDoorPx15
import Derived.Test.YthkpmiajcmihjaaGreatDoorPx16
import Derived.Test.YthkpmiajcmihjaaGreatDoorPx2
namespace Go.Proofs.YthkpmiajcmihjaaGreatDoor.P
open Go.RowKit Go.Proofs.YthkpmiajcmihjaaGreatDoorW.PrintWords Go.Proofs.YthkpmiajcmihjaaGreatDoorW.PrintLast Go.Proofs.YthkpmiajcmihjaaGreatDoorW.PrintMore Go.Proofs.YthkpmiajcmihjaaGreatDoor.FM
set_option linter.unusedVariables false
set_option linter.unusedSimpArgs false

theorem unit4_ev {Q K : Nat} (hQ : Q = 600) (hK : K = 200) {kd mn mx : Int} {i : D} {m mi : Int} {V : Nat} (hP : Pr K Q kd mn mx i m mi V) (hx : mx ≤ 15) {u : Int} (hu : Plc Q K u) (hz : u ≠ 0) (hs : kd = 1 → u ≠ 0 → mx ≤ nd u) :
    Inc Q K (Uf (decide (kd = 1)) mx.toNat (U0f K kd mx V) u) ∧ Ev (fun k => florinlaw04_unit.f k kd mn mx (tri i).1 (tri i).2.1 (tri i).2.2 m mi (tri (dk K u)).1 (tri (dk K u)).2.1 (tri (dk K u)).2.2) (tri (dk K ((Uf (decide (kd = 1)) mx.toNat (U0f K kd mx V) u : Nat) : Int))) := by
  have := hP.k0; have := hP.k2; have := hP.n0
  have hone : ∀ p : Int, 0 ≤ p + K → p + K < Q → Inc Q K (10 ^ (p + K).toNat) ∧ Ev (fun k => dec_Made.f k false (⟨#[49]⟩ : ByteArray) p) (tri (dk K ((10 ^ (p + K).toNat : Nat) : Int))) := by
    intro p h0 h1
    have hU := unit_inc (M := Q) (K := K) (p := p) (by omega) (by omega) (by omega) (by omega)
    have h := Made_ev false [49] (by decide) (by unfold Dig; decide) p
    rw [show nvl [49] = 1 by decide, nrm_units (M := Q) (K := K) (by omega) (by omega) h0 (by rw [Nat.one_mul]; exact Nat.pow_lt_pow_right (by decide) (by omega)) (by omega)] at h
    rw [Nat.one_mul] at hU h
    exact ⟨hU, h⟩
  unfold florinlaw04_unit.f Uf U0f
  by_cases h0 : kd = 0
  · rw [_root_.if_neg (by rw [decide_eq_true_eq]; omega), show (if kd = 0 then 10 ^ (-mx + (K : Int)).toNat else V) = 10 ^ (-mx + (K : Int)).toNat from _root_.if_pos h0]
    have hn2 := hP.n2 (by omega)
    obtain ⟨g1, g2⟩ := hone (-mx) (by omega) (by omega)
    refine ⟨g1, Ev.if_pos h0 ?_⟩
    rw [w64 (x := -mx) (by omega) (by omega)]
    exact Ev.bind g2 (Ev.now _)
  by_cases h1 : kd = 1
  · rw [_root_.if_pos (decide_eq_true h1)]
    have hn2 := hP.n2 (by omega)
    have hs1 := hP.sig h1
    have hnd := hs h1 hz
    have hnl := nd_le hu
    have hg := Mag_tri (dk K u) (Val.dk hu).few
    rw [← dk_norm hu, magD_dk, _root_.if_neg hz] at hg
    obtain ⟨g1, g2⟩ := hone ((nd u : Int) - K - 1 - mx + 1) (by omega) (by omega)
    rw [show ((nd u : Int) - K - 1 - mx + 1 + K).toNat = nd u - mx.toNat by omega] at g1 g2
    refine ⟨g1, Ev.if_neg h0 (Ev.if_pos h1 (Ev.bind hg ?_))⟩
    dsimp only
    rw [w64 (x := (nd u : Int) - K - 1 - mx) (by omega) (by omega), w64 (x := (nd u : Int) - K - 1 - mx + 1) (by omega) (by omega)]
    exact Ev.bind g2 (Ev.now _)
  · rw [_root_.if_neg (by rw [decide_eq_true_eq]; exact h1), show (if kd = 0 then 10 ^ (-mx + (K : Int)).toNat else V) = V from _root_.if_neg h0]
    obtain ⟨e1, e2, -⟩ := hP.inc (by omega)
    refine ⟨e2, Ev.if_neg h0 (Ev.if_neg h1 ?_)⟩
    rw [← e1]
    exact Ev.now _
theorem pureShowRounds (n1 : Bool) (l1 : List Int) (e1 : Int) (a0 a1 a2 a3 a4 a5 a6 : Int) (h0 : l1.length ≤ maxLen) (h1 : l1.length * 1 ≤ 140737488351232) (w1 : ∀ x ∈ l1, (Lit.int .u8 x).wf = true) (he : (Lit.int .i64 e1).wf = true)
    (x0 : (Lit.int .i64 a0).wf = true) (x1 : (Lit.int .i64 a1).wf = true) (x2 : (Lit.int .i64 a2).wf = true) (x3 : (Lit.int .i64 a3).wf = true) (x4 : (Lit.int .i64 a4).wf = true) (x5 : (Lit.int .i64 a5).wf = true) (x6 : (Lit.int .i64 a6).wf = true) :
    ∃ k, florinlaw04_ShowRounds.f k n1 l1 e1 a0 a1 a2 a3 a4 a5 a6 = some true := by
  refine Ev.rounds ?_
  unfold florinlaw04_ShowRounds.f
  refine Ev.bind head04 (Ev.if_pos rfl (Ev.const (Few_ev n1 l1 e1 30 (by omega)) ?_))
  by_cases h : (l1.length : Int) ≤ (30 : Nat) ∧ -((30 : Nat) : Int) ≤ e1 ∧ e1 ≤ (30 : Nat)
  case neg => exact Ev.if_neg (by simpa using h) (Ev.now _)
  refine Ev.if_pos (decide_eq_true h) ?_
  obtain ⟨Q, hQ⟩ : ∃ Q : Nat, Q = 600 := ⟨_, rfl⟩
  obtain ⟨K, hK⟩ : ∃ K : Nat, K = 200 := ⟨_, rfl⟩
  obtain ⟨kd, mn, mxx, i, m, mi, V, hP, b1, b2, b3, hpe⟩ := Prec_ev hQ a0 a1 a2 a3 a4 a5 a6
  have ka := digs_length l1
  rw [← hK] at hP
  have a := mk_raw (K := K) (M := Q) (neg := n1) (e := e1) (digs_dig l1) (by omega) (by omega) (by omega) (by omega) (by omega)
  have da : kd = 1 → raw K n1 (nvl (digs l1)) e1 ≠ 0 → mxx ≤ nd (raw K n1 (nvl (digs l1)) e1) := fun _ hz => by have := raw_nd (by omega) (by omega) hz; omega
  have ls := lst_small hP a.plc (by omega) (fun hz => raw_nd_30 (by omega) (by omega) hz) b2
  obtain ⟨u, hu⟩ : ∃ u, raw K n1 (nvl (digs l1)) e1 = u := ⟨_, rfl⟩
  rw [hu] at a da ls
  have m1 := Make_ev n1 l1 e1 (by omega) w1
  have hno := a.val.norm
  have hv := Val.dk a.plc
  have pa := shw_plc hP a.plc (by omega)
  have ap := fun r (hr : shw K kd mxx m V u = r) => Apply_dk hP a.plc (by omega) (by omega) hv da hr (hr ▸ pa)
  have ro := Round_dk hP a.plc (by omega) (by omega) hv da
  have hzero : u = 0 → shw K kd mxx m V u = 0 := fun h => by rw [h, shw_zero]
  have hun := fun hz => unit4_ev hQ hK hP b1 a.plc hz da
  have hrd : 0 < Uf (decide (kd = 1)) mxx.toNat (U0f K kd mxx V) u → RD u (shw K kd mxx m V u) (Uf (decide (kd = 1)) mxx.toNat (U0f K kd mxx V) u) m := fun hp => rnd_RD hP.m0 hP.m6 u hp
  obtain ⟨x, hx⟩ : ∃ x, shw K kd mxx m V u = x := ⟨_, rfl⟩
  have ap1 := ap x hx
  rw [hx] at pa ls ro hzero hrd
  have hn0 := hP.n0; have hi0 := hP.i0
  have hval := PValid_ev (kd := kd) (mn := mn) (mx := mxx) (m := m) (mi := mi) hP.val
  rw [hP.ok] at hval
  have v1 := Value_dk pa (a := mi.toNat) (b := lst K kd mn x) (by omega) (by omega) (by omega)
  have hzr := Zero_tri (dk K u) hv.few
  refine Ev.bind hpe (Ev.bind m1 (Ev.bind hno (Ev.bind ap1 (Ev.bind hval (Ev.if_pos rfl (Ev.if_pos rfl (Ev.bind v1 (Ev.bind ro ?_))))))))
  rw [ane3, decide_eq_false (fun h => h rfl)]
  refine Ev.step (fun k => (by rw [florinlaw04_ShowRounds.j0, _root_.if_neg (by decide)])) (Ev.bind hzr ?_)
  by_cases hz : u = 0
  · refine Ev.if_pos (decide_eq_true (dk_m_zero.2 hz)) (Ev.bind v1 (Ev.yes ?_))
    rw [hzero hz, dk_zero, tri_D0]
    dsimp only
    rw [S_toList]; rfl
  · refine Ev.if_neg (by rw [decide_eq_true_eq, dk_m_zero]; exact hz) (Ev.bind v1 ?_)
    obtain ⟨hU, hue⟩ := hun hz
    have hro := Rounded_ev (m := m) hv (a.plc.succ (by omega)) pa (inc_succ hU (by omega)) (by omega) (by omega) hP.m0 hP.m6 (hrd hU.pos)
    exact Ev.bind hue (Ev.bind hro (Ev.now _))
end Go.Proofs.YthkpmiajcmihjaaGreatDoor.P
