import Derived.Test.YtoegmienlhgjnaaDoorD8
import Derived.Test.YtoegmienlhgjnaaDoorPx20
namespace Go.Proofs.YtoegmienlhgjnaaDoor.P
open Go.RowKit Go.Proofs.YtoegmienlhgjnaaDoorW.PrintWords Go.Proofs.YtoegmienlhgjnaaDoorW.PrintLast Go.Proofs.YtoegmienlhgjnaaDoorW.PrintMore Go.Proofs.YtoegmienlhgjnaaDoor.FM
set_option linter.unusedVariables false
set_option linter.unusedSimpArgs false

theorem cmpI_rng (u v : Int) : -1 ≤ cmpI u v ∧ cmpI u v ≤ 1 := by
  unfold cmpI
  repeat' split
  all_goals omega
/-- the order of what is rounded doesn't turn -/
theorem cmp_mono {m u v : Int} {U : Nat} (h : u ≠ v) : 0 ≤ wrap64 (cmpI (rnd m u U) (rnd m v U) * cmpI u v) := by
  have hm : u ≤ v → rnd m u U ≤ rnd m v U := fun h => rnd_mono m h
  have hm2 : v ≤ u → rnd m v U ≤ rnd m u U := fun h => rnd_mono m h
  obtain ⟨x, hx⟩ : ∃ x, rnd m u U = x := ⟨_, rfl⟩
  obtain ⟨y, hy⟩ : ∃ y, rnd m v U = y := ⟨_, rfl⟩
  rw [hx, hy] at hm hm2 ⊢
  have key : cmpI x y * cmpI u v = 0 ∨ cmpI x y * cmpI u v = 1 := by
    unfold cmpI
    rw [_root_.if_neg h]
    by_cases h1 : u < v
    · rw [_root_.if_pos h1]
      have := hm (by omega)
      by_cases h2 : x = y
      · rw [_root_.if_pos h2]; left; rfl
      · rw [_root_.if_neg h2, _root_.if_pos (by omega)]; right; rfl
    · rw [_root_.if_neg h1]
      have := hm2 (by omega)
      by_cases h2 : x = y
      · rw [_root_.if_pos h2]; left; rfl
      · rw [_root_.if_neg h2, _root_.if_neg (by omega)]; right; rfl
  rcases key with h | h
  · rw [h, w64 (by omega) (by omega)]; omega
  · rw [h, w64 (by omega) (by omega)]; omega
theorem again_j0 (n1 n2 : Bool) (l1 l2 : List Int) (e1 e2 a2 a3 : Int) (h1 : l1.length ≤ 40) (h2 : l2.length ≤ 40) (w1 : ∀ x ∈ l1, (Lit.int .u8 x).wf = true) (w2 : ∀ x ∈ l2, (Lit.int .u8 x).wf = true) (c1 : -40 ≤ e1) (c2 : e1 ≤ 40) (c3 : -40 ≤ e2) (c4 : e2 ≤ 40) :
    Ev (fun k => florinlaw03_RoundAgain.j0 k a2 a3 false n1 l1 e1 n2 l2 e2) true := by
  obtain ⟨m, hm, hm0, hm6⟩ := Mode_ev a3
  obtain ⟨p, hp, p0, p1⟩ := place_of a2 60 (by decide) (by decide)
  have ka := digs_length l1
  have kb := digs_length l2
  obtain ⟨Q, hQ⟩ : ∃ Q : Nat, Q = 600 := ⟨_, rfl⟩
  have a := mk_raw (K := 200) (M := Q) (neg := n1) (e := e1) (digs_dig l1) (by omega) (by omega) (by omega) (by omega) (by omega)
  have b := mk_raw (K := 200) (M := Q) (neg := n2) (e := e2) (digs_dig l2) (by omega) (by omega) (by omega) (by omega) (by omega)
  obtain ⟨u, hu⟩ : ∃ u, raw 200 n1 (nvl (digs l1)) e1 = u := ⟨_, rfl⟩
  obtain ⟨v, hv⟩ : ∃ v, raw 200 n2 (nvl (digs l2)) e2 = v := ⟨_, rfl⟩
  rw [hu] at a
  rw [hv] at b
  have at1 := At_dk (m := m) a.plc (by omega) a.val (p := p) (by omega) (by omega) hm0 hm6
  have at2 := At_dk (m := m) b.plc (by omega) b.val (p := p) (by omega) (by omega) hm0 hm6
  have hU : 10 ^ (p + ((200 : Nat) : Int)).toNat ≤ 10 ^ Q := Nat.pow_le_pow_right (by decide) (by omega)
  have r1 : Plc (Q + 1) 200 (rnd m u (10 ^ (p + ((200 : Nat) : Int)).toNat)) := rnd_plc a.plc (by omega) hU
  have r2 : Plc (Q + 1) 200 (rnd m v (10 ^ (p + ((200 : Nat) : Int)).toNat)) := rnd_plc b.plc (by omega) hU
  have at3 := At_dk (m := m) r1 (by omega) (Val.dk r1) (p := p) (by omega) (by omega) hm0 hm6
  rw [rnd_idem] at at3
  have hlt : 25 * 10 ^ (p + ((200 : Nat) : Int)).toNat < 10 ^ Q := by
    refine Nat.lt_of_lt_of_le (Nat.mul_lt_mul_of_pos_right (show 25 < 10 ^ 2 by decide) (Nat.pow_pos (by decide))) ?_
    rw [← Nat.pow_add]
    exact Nat.pow_le_pow_right (by decide) (by omega)
  have hI := inc_of (M := Q) (K := 200) (N := 25) (p := p) (by omega) (by omega) (by decide) (by decide) hlt
  have hby := Made_ev false [50, 53] (by decide) (by unfold Dig; decide) p
  rw [show nvl [50, 53] = 25 by decide, nrm_units (M := Q) (K := 200) (by omega) (by omega) (by omega) hlt (by omega)] at hby
  obtain ⟨U, hUe⟩ : ∃ U, 10 ^ (p + ((200 : Nat) : Int)).toNat = U := ⟨_, rfl⟩
  obtain ⟨V, hVe⟩ : ∃ V, 25 * 10 ^ (p + ((200 : Nat) : Int)).toNat = V := ⟨_, rfl⟩
  rw [hVe] at hI hby
  rw [hUe] at at1 at2 r1 r2 at3
  have st1 := Step_dk (m := m) a.plc (by omega) a.val hI hm0 hm6
  have st2 := Step_dk (m := m) b.plc (by omega) b.val hI hm0 hm6
  have s1 : Plc (Q + 1) 200 (rnd m u V) := rnd_plc a.plc (by omega) (inc_le hI)
  have s2 : Plc (Q + 1) 200 (rnd m v V) := rnd_plc b.plc (by omega) (inc_le hI)
  have st3 := Step_dk (m := m) s1 (by omega) (Val.dk s1) (inc_succ hI (by omega)) hm0 hm6
  rw [rnd_idem] at st3
  have hc := Cmp_dk (by omega) a.plc b.plc a.val b.val
  have hc1 := Cmp_dk (by omega) r1 r2 (Val.dk r1) (Val.dk r2)
  have hc2 := Cmp_dk (by omega) s1 s2 (Val.dk s1) (Val.dk s2)
  refine Ev.step (fun k => (by rw [florinlaw03_RoundAgain.j0, _root_.if_neg (by decide), hp])) ?_
  refine Ev.const hm ?_
  refine Ev.bind (Make_ev n1 l1 e1 (by omega) w1) ?_
  refine Ev.bind (Make_ev n2 l2 e2 (by omega) w2) ?_
  refine Ev.bind at1 ?_
  refine Ev.bind at2 ?_
  refine Ev.bind hby ?_
  refine Ev.bind st1 ?_
  refine Ev.bind st2 ?_
  refine Ev.bind hc ?_
  refine Ev.bind at3 ?_
  refine Ev.if_neg (by rw [ane3]; simp) ?_
  refine Ev.bind st3 ?_
  rw [ane3, show decide (dk 200 (rnd m u V) ≠ dk 200 (rnd m u V)) = false by simp]
  refine Ev.step (fun k => (by rw [florinlaw03_RoundAgain.j1, _root_.if_neg (by decide)])) ?_
  by_cases h0 : cmpI u v = 0
  · have huv := cmpI_eq0.1 h0
    refine Ev.if_pos h0 (Ev.if_pos (by rw [teq3, huv]; simp) (Ev.yes ?_))
    rw [teq3, huv]; simp
  · have huv : u ≠ v := fun h => h0 (cmpI_eq0.2 h)
    refine Ev.if_neg h0 (Ev.bind hc1 (Ev.if_pos (cmp_mono huv) (Ev.bind hc2 (Ev.yes (decide_eq_true (cmp_mono huv))))))
theorem pureRoundAgain (n1 : Bool) (l1 : List Int) (e1 : Int) (n2 : Bool) (l2 : List Int) (e2 : Int) (a2 a3 : Int) (m1 : l1.length ≤ maxLen) (y1 : l1.length * 1 ≤ 140737488351232) (w1 : ∀ x ∈ l1, (Lit.int .u8 x).wf = true) (f1 : (Lit.int .i64 e1).wf = true)
    (m2 : l2.length ≤ maxLen) (y2 : l2.length * 1 ≤ 140737488351232) (w2 : ∀ x ∈ l2, (Lit.int .u8 x).wf = true) (f2 : (Lit.int .i64 e2).wf = true) (g2 : (Lit.int .i64 a2).wf = true) (g3 : (Lit.int .i64 a3).wf = true) : ∃ k, florinlaw03_RoundAgain.f k n1 l1 e1 n2 l2 e2 a2 a3 = some true := by
  refine Ev.rounds ?_
  unfold florinlaw03_RoundAgain.f
  have yes : Ev (fun k => florinlaw03_RoundAgain.j0 k a2 a3 true n1 l1 e1 n2 l2 e2) true := Ev.step (f := fun _ => some true) (fun k => by rw [florinlaw03_RoundAgain.j0, _root_.if_pos rfl]) (Ev.now _)
  refine Ev.bind head03 (Ev.if_pos rfl (Ev.const (Few_ev n1 l1 e1 40 (by omega)) ?_))
  by_cases h : (l1.length : Int) ≤ (40 : Nat) ∧ -((40 : Nat) : Int) ≤ e1 ∧ e1 ≤ (40 : Nat)
  case neg => exact Ev.if_neg (by simpa using h) yes
  refine Ev.if_pos (decide_eq_true h) (Ev.const (Few_ev n2 l2 e2 40 (by omega)) ?_)
  by_cases h2 : (l2.length : Int) ≤ (40 : Nat) ∧ -((40 : Nat) : Int) ≤ e2 ∧ e2 ≤ (40 : Nat)
  · rw [decide_eq_true h2]
    exact again_j0 n1 n2 l1 l2 e1 e2 a2 a3 (by omega) (by omega) w1 w2 (by omega) (by omega) (by omega) (by omega)
  · rw [decide_eq_false h2]
    exact yes
end Go.Proofs.YtoegmienlhgjnaaDoor.P
