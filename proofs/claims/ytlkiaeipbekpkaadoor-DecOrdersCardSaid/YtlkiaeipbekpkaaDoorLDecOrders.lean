import Derived.Test.YtlkiaeipbekpkaaDoorD4
import Derived.Test.YtlkiaeipbekpkaaDoorPx26
namespace Go.Proofs.YtlkiaeipbekpkaaDoor.P
open Go.RowKit Go.Proofs.YtlkiaeipbekpkaaDoorW.PrintWords Go.Proofs.YtlkiaeipbekpkaaDoorW.PrintLast Go.Proofs.YtlkiaeipbekpkaaDoorW.PrintMore Go.Proofs.YtlkiaeipbekpkaaDoor.FM
set_option linter.unusedVariables false
set_option linter.unusedSimpArgs false

theorem cmpI_swap (u v : Int) : cmpI u v = -cmpI v u := by
  unfold cmpI
  repeat' split
  all_goals omega
theorem cmpI_range (u v : Int) : -1 ≤ cmpI u v ∧ cmpI u v ≤ 1 := by
  unfold cmpI
  repeat' split
  all_goals omega
theorem cmpI_zero {u v : Int} : cmpI u v = 0 ↔ u = v := by
  unfold cmpI
  constructor
  · intro h
    split at h
    · assumption
    · split at h <;> omega
  · intro h; rw [_root_.if_pos h]
theorem cmpI_neg (u v : Int) : cmpI (-u) (-v) = -cmpI u v := by
  unfold cmpI
  repeat' split
  all_goals omega
theorem cmpI_add (u v w : Int) : cmpI (u + w) (v + w) = cmpI u v := by
  unfold cmpI
  repeat' split
  all_goals omega
theorem cmpI_le {u v : Int} : cmpI u v ≤ 0 ↔ u ≤ v := by
  unfold cmpI
  repeat' split
  all_goals omega
theorem orders_j2 {M : Nat} {n1 n2 : Bool} {l1 l2 : List UInt8} {e1 e2 u v : Int} (hM : M + 1 ≤ 1000) (a : Mk 50 M n1 l1 e1 u) (b : Mk 50 M n2 l2 e2 v) :
    Ev (fun k => florinlaw02_DecOrders.j2 k false n1 (S l1) e1 n2 (S l2) e2) true := by
  have a1 := Abs_dk a.plc a.val
  have b1 := Abs_dk b.plc b.val
  obtain ⟨x, dx, lx, vx, hx⟩ := Places_dk a.plc.abs (by omega) (by omega)
  obtain ⟨y, dy, ly, vy, hy⟩ := Places_dk b.plc.abs (by omega) (by omega)
  rw [Int.natAbs_natCast] at vx vy
  have hc := Cmp_ev x y (by unfold Sm; omega) (by unfold Sm; omega) dx dy
  rw [vx, vy] at hc
  have hc2 := Cmp_dk (by omega) a.plc.abs b.plc.abs (Val.dk a.plc.abs) (Val.dk b.plc.abs)
  have z0 : Plc M 50 0 := ⟨a.plc.hK, a.plc.hM, Nat.pow_pos (by decide)⟩
  have hc3 := Cmp_dk (by omega) a.plc.abs z0 (Val.dk a.plc.abs) (val_D0 50)
  have hm := Minus_dk a.plc a.val
  have hm2 := Minus_dk a.plc.neg (Val.dk a.plc.neg)
  rw [Int.neg_neg] at hm2
  refine Ev.step (fun k => (by rw [florinlaw02_DecOrders.j2, _root_.if_neg (by decide)])) ?_
  refine Ev.bind a1 (Ev.bind hx (Ev.bind b1 (Ev.bind hy (Ev.bind hc (Ev.bind a1 (Ev.bind b1 (Ev.bind hc2 ?_)))))))
  refine Ev.if_pos ?_ (Ev.bind hm (Ev.bind hm2 (Ev.bind a.val.norm (Ev.if_pos (by simp) (Ev.bind a1 (Ev.bind hc3 (Ev.bind a.val.norm (Ev.yes ?_))))))))
  · unfold cmpI cmpN
    repeat' split
    all_goals omega
  · apply beq_iff_eq.2
    rw [tri2, S_size, dk_m]
    by_cases hu : u = 0
    · subst hu
      rw [show (0 : Int).natAbs = 0 from rfl, st_zero, mkl_zero]; rfl
    · have hp : 0 < (st u.natAbs).1 := st_pos (by omega)
      have hl : 0 < (mkl (st u.natAbs).1).length := by
        rcases Nat.eq_zero_or_pos (mkl (st u.natAbs).1).length with h | h
        · have := List.eq_nil_of_length_eq_zero h
          rw [mkl_eq_nil] at this
          omega
        · exact h
      unfold cmpI mn
      rw [_root_.if_neg (by omega), _root_.if_neg (by omega)]
      split <;> omega
theorem orders_j1 {M : Nat} {n1 n2 n3 : Bool} {l1 l2 l3 : List UInt8} {e1 e2 e3 u v w : Int} (hM : M + 1 ≤ 1000) (a : Mk 50 M n1 l1 e1 u) (b : Mk 50 M n2 l2 e2 v) (c : Mk 50 M n3 l3 e3 w) :
    Ev (fun k => florinlaw02_DecOrders.j1 k (cmpI u v) false n1 (S l1) e1 n2 (S l2) e2 n3 (S l3) e3) true := by
  have hj := orders_j2 hM a b
  have h1 := Cmp_dk (by omega) b.plc c.plc b.val c.val
  have h2 := Cmp_dk (by omega) a.plc c.plc a.val c.val
  refine Ev.step (fun k => (by rw [florinlaw02_DecOrders.j1, _root_.if_neg (by decide)])) ?_
  by_cases g1 : cmpI u v ≤ 0
  · refine Ev.if_pos g1 (Ev.bind h1 ?_)
    by_cases g2 : cmpI v w ≤ 0
    · refine Ev.if_pos g2 (Ev.bind h2 ?_)
      have g3 : cmpI u w ≤ 0 := cmpI_le.2 (Int.le_trans (cmpI_le.1 g1) (cmpI_le.1 g2))
      rw [decide_eq_false (by omega)]
      exact hj
    · exact Ev.if_neg g2 hj
  · exact Ev.if_neg g1 hj
theorem eq3b (a b : D) : ((tri a).1 == (tri b).1 && ((tri a).2.1.toList == (tri b).2.1.toList && ((tri a).2.2 == (tri b).2.2))) = decide (a = b) := by
  have h := ane3 a b
  rw [← Bool.not_and, ← Bool.not_and] at h
  have h2 := congrArg (!·) h
  simp only [Bool.not_not] at h2
  rw [h2]
  by_cases hh : a = b <;> simp [hh]
theorem orders_j0 (n1 n2 n3 : Bool) (l1 l2 l3 : List Int) (e1 e2 e3 : Int) (h1 : l1.length ≤ 50) (h2 : l2.length ≤ 50) (h3 : l3.length ≤ 50) (w1 : ∀ x ∈ l1, (Lit.int .u8 x).wf = true) (w2 : ∀ x ∈ l2, (Lit.int .u8 x).wf = true) (w3 : ∀ x ∈ l3, (Lit.int .u8 x).wf = true)
    (a1 : -50 ≤ e1) (a2 : e1 ≤ 50) (b1 : -50 ≤ e2) (b2 : e2 ≤ 50) (c1 : -50 ≤ e3) (c2 : e3 ≤ 50) : Ev (fun k => florinlaw02_DecOrders.j0 k false n1 l1 e1 n2 l2 e2 n3 l3 e3) true := by
  have ka := digs_length l1
  have kb := digs_length l2
  have kc := digs_length l3
  have a := mk_raw (K := 50) (M := 200) (neg := n1) (e := e1) (digs_dig l1) (by omega) (by omega) (by omega) (by omega) (by omega)
  have b := mk_raw (K := 50) (M := 200) (neg := n2) (e := e2) (digs_dig l2) (by omega) (by omega) (by omega) (by omega) (by omega)
  have c := mk_raw (K := 50) (M := 200) (neg := n3) (e := e3) (digs_dig l3) (by omega) (by omega) (by omega) (by omega) (by omega)
  obtain ⟨u, hu⟩ : ∃ u, raw 50 n1 (nvl (digs l1)) e1 = u := ⟨_, rfl⟩
  obtain ⟨v, hv⟩ : ∃ v, raw 50 n2 (nvl (digs l2)) e2 = v := ⟨_, rfl⟩
  obtain ⟨w, hw⟩ : ∃ w, raw 50 n3 (nvl (digs l3)) e3 = w := ⟨_, rfl⟩
  rw [hu] at a
  rw [hv] at b
  rw [hw] at c
  have r1 := cmpI_range u v
  have r2 := cmpI_range v u
  refine Ev.step (fun k => (by rw [florinlaw02_DecOrders.j0, _root_.if_neg (by decide)])) ?_
  refine Ev.bind (Make_ev n1 l1 e1 (by omega) w1) (Ev.bind (Make_ev n2 l2 e2 (by omega) w2) (Ev.bind (Make_ev n3 l3 e3 (by omega) w3) ?_))
  dsimp only
  refine Ev.bind (Cmp_dk (by omega) a.plc b.plc a.val b.val) (Ev.bind (Cmp_dk (by omega) b.plc a.plc b.val a.val) ?_)
  refine Ev.if_pos (by rw [w64 (by omega) (by omega)]; exact cmpI_swap u v) (Ev.bind a.val.norm (Ev.bind b.val.norm (Ev.if_neg ?_ ?_)))
  · rw [eq3b]
    have e1 : (cmpI u v == 0) = decide (FM.dk 50 u = FM.dk 50 v) := by
      by_cases h : u = v
      · rw [h, decide_eq_true rfl]; exact beq_iff_eq.2 (cmpI_zero.2 rfl)
      · rw [decide_eq_false (fun h2 => h (dk_inj.1 h2))]; exact beq_eq_false_iff_ne.2 (fun h2 => h (cmpI_zero.1 h2))
    rw [e1]; simp
  · have hs1 := a.plc.add c.plc (by omega)
    have hs2 := b.plc.add c.plc (by omega)
    have hcm := Cmp_dk (by omega) a.plc.neg b.plc.neg (Val.dk a.plc.neg) (Val.dk b.plc.neg)
    rw [cmpI_neg] at hcm
    have hca := Cmp_dk (by omega) hs1 hs2 (Val.dk hs1) (Val.dk hs2)
    rw [cmpI_add] at hca
    refine Ev.bind (Minus_dk a.plc a.val) (Ev.bind (Minus_dk b.plc b.val) (Ev.bind hcm (Ev.if_pos (by rw [w64 (by omega) (by omega)]) ?_)))
    refine Ev.bind (Add_dk a.plc c.plc a.val c.val) (Ev.bind (Add_dk b.plc c.plc b.val c.val) (Ev.bind hca ?_))
    rw [bne_self_eq_false]
    exact orders_j1 (by omega) a b c
theorem pureDecOrders (n1 : Bool) (l1 : List Int) (e1 : Int) (n2 : Bool) (l2 : List Int) (e2 : Int) (n3 : Bool) (l3 : List Int) (e3 : Int)
    (m1 : l1.length ≤ maxLen) (y1 : l1.length * 1 ≤ 140737488351232) (w1 : ∀ x ∈ l1, (Lit.int .u8 x).wf = true) (f1 : (Lit.int .i64 e1).wf = true)
    (m2 : l2.length ≤ maxLen) (y2 : l2.length * 1 ≤ 140737488351232) (w2 : ∀ x ∈ l2, (Lit.int .u8 x).wf = true) (f2 : (Lit.int .i64 e2).wf = true)
    (m3 : l3.length ≤ maxLen) (y3 : l3.length * 1 ≤ 140737488351232) (w3 : ∀ x ∈ l3, (Lit.int .u8 x).wf = true) (f3 : (Lit.int .i64 e3).wf = true) : ∃ k, florinlaw02_DecOrders.f k n1 l1 e1 n2 l2 e2 n3 l3 e3 = some true := by
  refine Ev.rounds ?_
  unfold florinlaw02_DecOrders.f
  have yes : Ev (fun k => florinlaw02_DecOrders.j0 k true n1 l1 e1 n2 l2 e2 n3 l3 e3) true := Ev.step (f := fun _ => some true) (fun k => by rw [florinlaw02_DecOrders.j0, _root_.if_pos rfl]) (Ev.now _)
  refine Ev.bind head02 (Ev.if_pos rfl (Ev.const (Few_ev n1 l1 e1 50 (by omega)) ?_))
  by_cases h : (l1.length : Int) ≤ (50 : Nat) ∧ -((50 : Nat) : Int) ≤ e1 ∧ e1 ≤ (50 : Nat)
  case neg => exact Ev.if_neg (by simpa using h) yes
  refine Ev.if_pos (decide_eq_true h) (Ev.const (Few_ev n2 l2 e2 50 (by omega)) ?_)
  by_cases h2 : (l2.length : Int) ≤ (50 : Nat) ∧ -((50 : Nat) : Int) ≤ e2 ∧ e2 ≤ (50 : Nat)
  case neg => exact Ev.if_neg (by simpa using h2) yes
  refine Ev.if_pos (decide_eq_true h2) (Ev.const (Few_ev n3 l3 e3 50 (by omega)) ?_)
  by_cases h3 : (l3.length : Int) ≤ (50 : Nat) ∧ -((50 : Nat) : Int) ≤ e3 ∧ e3 ≤ (50 : Nat)
  · rw [decide_eq_true h3]
    exact orders_j0 n1 n2 n3 l1 l2 l3 e1 e2 e3 (by omega) (by omega) (by omega) w1 w2 w3 (by omega) (by omega) (by omega) (by omega) (by omega) (by omega)
  · rw [decide_eq_false h3]
    exact yes
end Go.Proofs.YtlkiaeipbekpkaaDoor.P
