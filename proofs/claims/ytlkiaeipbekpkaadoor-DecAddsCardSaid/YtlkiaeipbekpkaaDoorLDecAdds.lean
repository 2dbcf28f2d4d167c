import Derived.Test.YtlkiaeipbekpkaaDoorD4
import Derived.Test.YtlkiaeipbekpkaaDoorPx24
import Derived.Test.YtlkiaeipbekpkaaDoorPx7
namespace Go.Proofs.YtlkiaeipbekpkaaDoor.P
open Go.RowKit Go.Proofs.YtlkiaeipbekpkaaDoorW.PrintWords Go.Proofs.YtlkiaeipbekpkaaDoorW.PrintLast Go.Proofs.YtlkiaeipbekpkaaDoorW.PrintMore Go.Proofs.YtlkiaeipbekpkaaDoor.FM
set_option linter.unusedVariables false
set_option linter.unusedSimpArgs false

theorem adds_j2 {M : Nat} {n1 n2 : Bool} {l1 l2 : List UInt8} {e1 e2 u v : Int} (hM : M + 1 ≤ 1000) (a : Mk 60 M n1 l1 e1 u) (b : Mk 60 M n2 l2 e2 v) (hu : u ≠ 0) (hv : v ≠ 0) :
    Ev (fun k => florinlaw02_DecAdds.j2 k (S (l1 ++ zs (e1 + (60 : Nat)).toNat)) (S (l2 ++ zs (e2 + (60 : Nat)).toNat)) false n1 (S l1) e1 n2 (S l2) e2 (tri (FM.dk 60 (u + v))).1 (tri (FM.dk 60 (u + v))).2.1 (tri (FM.dk 60 (u + v))).2.2) true := by
  have hs : Plc (M + 1) 60 (u + v) := a.plc.add b.plc (by omega)
  obtain ⟨x, dx, lx, vx, hx⟩ := Places_dk hs (by omega) (by omega)
  have s1 := a.sgn hu
  have s2 := b.sgn hv
  have hneg : (tri (FM.dk 60 (u + v))).1 = decide (u + v < 0) := by rw [tri1, dk_neg]
  obtain ⟨p, hp⟩ : ∃ p, l1 ++ zs (e1 + (60 : Nat)).toNat = p := ⟨_, rfl⟩
  obtain ⟨q, hq⟩ : ∃ q, l2 ++ zs (e2 + (60 : Nat)).toNat = q := ⟨_, rfl⟩
  have vp : nvl p = u.natAbs := by rw [← hp]; exact a.abs
  have vq : nvl q = v.natAbs := by rw [← hq]; exact b.abs
  have dp : Dig p := by rw [← hp]; exact a.val.dig.append (dig_zs _)
  have dq : Dig q := by rw [← hq]; exact b.val.dig.append (dig_zs _)
  have lp : Sm p := by have := a.len; have := a.hi; rw [← hp]; unfold Sm; rw [List.length_append, zs_length]; omega
  have lq : Sm q := by have := b.len; have := b.hi; rw [← hq]; unfold Sm; rw [List.length_append, zs_length]; omega
  have lxx : Sm x := by unfold Sm; omega
  have lpow : ∀ n : Nat, n < 10 ^ (M + 1) → Sm (mkl n) := fun n hn => mkl_len_of hn (by omega)
  have hz := hs.hz
  rw [hp, hq]
  refine Ev.step (fun k => (by rw [florinlaw02_DecAdds.j2, _root_.if_neg (by decide)])) ?_
  have cmp0 : ∀ n : Nat, n = (u + v).natAbs → (cmpN (nvl x) (nvl (mkl n)) : Int) = 0 := by
    intro n hn
    rw [nvl_mkl, vx, hn]; unfold cmpN; simp
  by_cases hsame : n1 = n2
  · have hsum : nvl p + nvl q = (u + v).natAbs := by
      rw [vp, vq]
      rw [s1, s2] at hsame
      have := decide_eq_decide.1 hsame
      omega
    refine Ev.if_pos (by rw [hsame]; simp) (Ev.bind hx (Ev.bind (Add_ev p q lp lq dp dq) (Ev.bind (Cmp_ev x _ lxx (lpow _ (by rw [hsum]; exact hz)) dx (dig_mkl _)) ?_)))
    refine Ev.if_pos (cmp0 _ hsum) (Ev.yes ?_)
    rw [hneg, s1]
    rw [s1, s2] at hsame
    have := decide_eq_decide.1 hsame
    rw [show decide (u + v < 0) = decide (u < 0) from decide_eq_decide.2 (by omega)]
    simp
  · refine Ev.if_neg (by simpa using hsame) (Ev.bind (Cmp_ev p q lp lq dp dq) ?_)
    have hdif : ¬ (u < 0 ↔ v < 0) := by
      intro h
      apply hsame
      rw [s1, s2]; exact decide_eq_decide.2 h
    rw [vp, vq]
    by_cases heq : u.natAbs = v.natAbs
    · have h0 : u + v = 0 := by omega
      refine Ev.if_pos (by rw [heq]; unfold cmpN; simp) (Ev.yes ?_)
      rw [h0, dk_zero, tri_D0, S_toList]; rfl
    · refine Ev.if_neg (by unfold cmpN; split; · omega
                           split <;> omega) ?_
      by_cases hle : v.natAbs ≤ u.natAbs
      · have hd : nvl p - nvl q = (u + v).natAbs := by rw [vp, vq]; omega
        refine Ev.bind (Sub_ev p q lp lq dp dq (by rw [vp, vq]; exact hle)) (Ev.if_pos rfl (Ev.if_pos ?_ (Ev.bind hx (Ev.bind (Cmp_ev x _ lxx (lpow _ (by rw [hd]; exact hz)) dx (dig_mkl _)) (Ev.yes ?_)))))
        · rw [hneg, s1, show decide (u + v < 0) = decide (u < 0) from decide_eq_decide.2 (by omega)]; simp
        · rw [cmp0 _ hd]; rfl
      · have hd : nvl q - nvl p = (u + v).natAbs := by rw [vp, vq]; omega
        refine Ev.bind (Sub_less p q lp lq dp dq (by rw [vp, vq]; omega)) (Ev.if_neg (by dsimp only; decide) (Ev.bind (Sub_ev q p lq lp dq dp (by rw [vp, vq]; omega)) (Ev.if_pos ?_ (Ev.bind hx (Ev.bind (Cmp_ev x _ lxx (lpow _ (by rw [hd]; exact hz)) dx (dig_mkl _)) (Ev.yes ?_))))))
        · rw [hneg, s2, show decide (u + v < 0) = decide (v < 0) from decide_eq_decide.2 (by omega)]; simp
        · rw [cmp0 _ hd]; rfl
theorem adds_j1 {M : Nat} {n1 n2 : Bool} {l1 l2 : List UInt8} {e1 e2 u v : Int} (hM : M + 1 ≤ 1000) (a : Mk 60 M n1 l1 e1 u) (b : Mk 60 M n2 l2 e2 v) :
    Ev (fun k => florinlaw02_DecAdds.j1 k false n1 (S l1) e1 n2 (S l2) e2 (tri (FM.dk 60 (u + v))).1 (tri (FM.dk 60 (u + v))).2.1 (tri (FM.dk 60 (u + v))).2.2) true := by
  have p1 := Places_ev n1 l1 e1 60 (by have := a.len; omega) (by have := a.hi; omega) (by omega) (by have := a.lo; omega)
  have p2 := Places_ev n2 l2 e2 60 (by have := b.len; omega) (by have := b.hi; omega) (by omega) (by have := b.lo; omega)
  have q1 : (l1 ++ zs (e1 + (60 : Nat)).toNat).length ≤ 10000 := by have := a.len; have := a.hi; rw [List.length_append, zs_length]; omega
  have q2 : (l2 ++ zs (e2 + (60 : Nat)).toNat).length ≤ 10000 := by have := b.len; have := b.hi; rw [List.length_append, zs_length]; omega
  have t1 := Trim_dig (l1 ++ zs (e1 + (60 : Nat)).toNat) (by omega) (a.val.dig.append (dig_zs _))
  have t2 := Trim_dig (l2 ++ zs (e2 + (60 : Nat)).toNat) (by omega) (b.val.dig.append (dig_zs _))
  rw [a.abs] at t1
  rw [b.abs] at t2
  have yes : ∀ x y, Ev (fun k => florinlaw02_DecAdds.j2 k x y true n1 (S l1) e1 n2 (S l2) e2 (tri (FM.dk 60 (u + v))).1 (tri (FM.dk 60 (u + v))).2.1 (tri (FM.dk 60 (u + v))).2.2) true := fun x y =>
    Ev.step (f := fun _ => some true) (fun k => by rw [florinlaw02_DecAdds.j2, _root_.if_pos rfl]) (Ev.now _)
  refine Ev.step (fun k => (by rw [florinlaw02_DecAdds.j1, _root_.if_neg (by decide)])) ?_
  refine Ev.bind p1 (Ev.bind p2 (Ev.bind t1 ?_))
  rw [S_toList]
  by_cases hu : u = 0
  · exact Ev.if_pos (mkl_eq_nil.2 (by omega)) (yes _ _)
  refine Ev.if_neg (fun h => hu (by have := mkl_eq_nil.1 h; omega)) (Ev.bind t2 ?_)
  rw [S_toList]
  by_cases hv : v = 0
  · rw [show (mkl v.natAbs == ([] : List UInt8)) = true by rw [hv]; simp]
    exact yes _ _
  · rw [show (mkl v.natAbs == ([] : List UInt8)) = false from beq_eq_false_iff_ne.2 (fun h => hv (by have := mkl_eq_nil.1 h; omega))]
    exact adds_j2 hM a b hu hv
theorem adds_j0 (n1 n2 : Bool) (l1 l2 : List Int) (e1 e2 : Int) (h1 : l1.length ≤ 60) (h2 : l2.length ≤ 60) (w1 : ∀ x ∈ l1, (Lit.int .u8 x).wf = true) (w2 : ∀ x ∈ l2, (Lit.int .u8 x).wf = true) (a1 : -60 ≤ e1) (a2 : e1 ≤ 60) (b1 : -60 ≤ e2) (b2 : e2 ≤ 60) :
    Ev (fun k => florinlaw02_DecAdds.j0 k false n1 l1 e1 n2 l2 e2) true := by
  have ka := digs_length l1
  have kb := digs_length l2
  have a := mk_raw (K := 60) (M := 200) (neg := n1) (e := e1) (digs_dig l1) (by omega) (by omega) (by omega) (by omega) (by omega)
  have b := mk_raw (K := 60) (M := 200) (neg := n2) (e := e2) (digs_dig l2) (by omega) (by omega) (by omega) (by omega) (by omega)
  obtain ⟨u, hu⟩ : ∃ u, raw 60 n1 (nvl (digs l1)) e1 = u := ⟨_, rfl⟩
  obtain ⟨v, hv⟩ : ∃ v, raw 60 n2 (nvl (digs l2)) e2 = v := ⟨_, rfl⟩
  rw [hu] at a
  rw [hv] at b
  have hs := a.plc.add b.plc (by omega)
  have hb := b.plc.up (show 200 ≤ 201 by omega) (by omega)
  have ha := a.plc.up (show 200 ≤ 201 by omega) (by omega)
  have z0 : Plc 200 60 0 := ⟨by omega, by omega, Nat.pow_pos (by decide)⟩
  have nn : (mkl (FM.dk 60 (u + v)).m).length ≤ 1000000 := by
    rw [dk_m]
    have := mkl_length_le.2 (Nat.lt_of_le_of_lt (st_le (u + v).natAbs) hs.hz)
    omega
  have hnorm : Ev (fun k => florinlaw02_normal.f k (tri (FM.dk 60 (u + v))).1 (tri (FM.dk 60 (u + v))).2.1 (tri (FM.dk 60 (u + v))).2.2) true := by
    have h := normal_ev (FM.dk 60 (u + v)).neg (FM.dk 60 (u + v)).m (FM.dk 60 (u + v)).e nn
    rwa [← dk_norm hs] at h
  refine Ev.step (fun k => (by rw [florinlaw02_DecAdds.j0, _root_.if_neg (by decide)])) ?_
  refine Ev.bind (Make_ev n1 l1 e1 (by omega) w1) (Ev.bind (Make_ev n2 l2 e2 (by omega) w2) ?_)
  dsimp only
  refine Ev.bind (Add_dk a.plc b.plc a.val b.val) (Ev.bind hnorm (Ev.if_pos rfl ?_))
  have hc := Add_dk b.plc a.plc b.val a.val
  rw [Int.add_comm v u] at hc
  refine Ev.bind hc (Ev.if_neg (by rw [ane3]; simp) ?_)
  have hsub := Sub_dk hs hb (Val.dk hs) b.val
  rw [show u + v - v = u by omega] at hsub
  refine Ev.bind hsub (Ev.bind a.val.norm (Ev.if_neg (by rw [ane3]; simp) ?_))
  have hd : Plc 201 60 (v - u) := by
    have := b.plc.add a.plc.neg (by omega)
    rwa [show v + -u = v - u by omega] at this
  have hmin := Minus_dk hd (Val.dk hd)
  rw [show -(v - u) = u - v by omega] at hmin
  refine Ev.bind (Sub_dk a.plc b.plc a.val b.val) (Ev.bind (Sub_dk b.plc a.plc b.val a.val) (Ev.bind hmin (Ev.if_neg (by rw [ane3]; simp) ?_)))
  have h0 := Add_dk a.plc z0 a.val (val_D0 60)
  rw [Int.add_zero] at h0
  refine Ev.bind h0 (Ev.bind a.val.norm ?_)
  rw [ane3, show decide (FM.dk 60 u ≠ FM.dk 60 u) = false by simp]
  exact adds_j1 (by omega) a b
theorem pureDecAdds (n1 : Bool) (l1 : List Int) (e1 : Int) (n2 : Bool) (l2 : List Int) (e2 : Int) (m1 : l1.length ≤ maxLen) (y1 : l1.length * 1 ≤ 140737488351232) (w1 : ∀ x ∈ l1, (Lit.int .u8 x).wf = true) (f1 : (Lit.int .i64 e1).wf = true)
    (m2 : l2.length ≤ maxLen) (y2 : l2.length * 1 ≤ 140737488351232) (w2 : ∀ x ∈ l2, (Lit.int .u8 x).wf = true) (f2 : (Lit.int .i64 e2).wf = true) : ∃ k, florinlaw02_DecAdds.f k n1 l1 e1 n2 l2 e2 = some true := by
  refine Ev.rounds ?_
  unfold florinlaw02_DecAdds.f
  have yes : Ev (fun k => florinlaw02_DecAdds.j0 k true n1 l1 e1 n2 l2 e2) true := Ev.step (f := fun _ => some true) (fun k => by rw [florinlaw02_DecAdds.j0, _root_.if_pos rfl]) (Ev.now _)
  refine Ev.bind head02 (Ev.if_pos rfl (Ev.const (Few_ev n1 l1 e1 60 (by omega)) ?_))
  by_cases h : (l1.length : Int) ≤ (60 : Nat) ∧ -((60 : Nat) : Int) ≤ e1 ∧ e1 ≤ (60 : Nat)
  case neg => exact Ev.if_neg (by simpa using h) yes
  refine Ev.if_pos (decide_eq_true h) (Ev.const (Few_ev n2 l2 e2 60 (by omega)) ?_)
  by_cases h2 : (l2.length : Int) ≤ (60 : Nat) ∧ -((60 : Nat) : Int) ≤ e2 ∧ e2 ≤ (60 : Nat)
  · rw [decide_eq_true h2]
    exact adds_j0 n1 n2 l1 l2 e1 e2 (by omega) (by omega) w1 w2 (by omega) (by omega) (by omega) (by omega)
  · rw [decide_eq_false h2]
    exact yes
end Go.Proofs.YtlkiaeipbekpkaaDoor.P
