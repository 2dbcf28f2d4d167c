import Derived.Test.YthkpmiajcmihjaaDoorDB
import Derived.Test.YthkpmiajcmihjaaDoorPx18
import Derived.Test.YthkpmiajcmihjaaDoorPx21
import Derived.Test.YthkpmiajcmihjaaDoorPx22
namespace Go.Proofs.YthkpmiajcmihjaaDoor.P
open Go.RowKit Go.Proofs.YthkpmiajcmihjaaDoorW.PrintWords Go.Proofs.YthkpmiajcmihjaaDoorW.PrintLast Go.Proofs.YthkpmiajcmihjaaDoorW.PrintMore Go.Proofs.YthkpmiajcmihjaaDoor.FM
set_option linter.unusedVariables false
set_option linter.unusedSimpArgs false

/-- the order doesn't turn -/
theorem cmp_keeps {x y u v : Int} (hm : u ≤ v → x ≤ y) (hm2 : v ≤ u → y ≤ x) : 0 ≤ wrap64 (cmpI x y * cmpI u v) := by
  have key : cmpI x y * cmpI u v = 0 ∨ cmpI x y * cmpI u v = 1 := by
    unfold cmpI
    by_cases h : u = v
    · rw [show (if u = v then (0 : Int) else if u < v then -1 else 1) = 0 from _root_.if_pos h]; left; exact Int.mul_zero _
    rw [show (if u = v then (0 : Int) else if u < v then -1 else 1) = (if u < v then -1 else 1) from _root_.if_neg h]
    by_cases h1 : u < v
    · rw [_root_.if_pos h1]
      have := hm (by omega)
      by_cases h2 : x = y
      · rw [_root_.if_pos h2]; left; rfl
      · rw [_root_.if_neg h2, _root_.if_pos (by omega)]; right; rfl
    · rw [_root_.if_neg h1]
      have := hm2 (by omega)
      by_cases h2 : x = y
      · rw [_root_.if_pos h2]; left; rfl
      · rw [_root_.if_neg h2, _root_.if_neg (by omega)]; right; rfl
  rcases key with h | h
  · rw [h, w64 (by omega) (by omega)]; omega
  · rw [h, w64 (by omega) (by omega)]; omega
theorem again4_j0 (n1 n2 : Bool) (l1 l2 : List Int) (e1 e2 a0 a1 a2 a3 a4 a5 a6 : Int) (h1 : l1.length ≤ 30) (h2 : l2.length ≤ 30) (w1 : ∀ x ∈ l1, (Lit.int .u8 x).wf = true) (w2 : ∀ x ∈ l2, (Lit.int .u8 x).wf = true) (c1 : -30 ≤ e1) (c2 : e1 ≤ 30) (c3 : -30 ≤ e2) (c4 : e2 ≤ 30) :
    Ev (fun k => florinlaw04_ShowAgain.j0 k false n1 l1 e1 n2 l2 e2 a0 a1 a2 a3 a4 a5 a6) true := by
  refine Ev.step (fun k => (by rw [florinlaw04_ShowAgain.j0, _root_.if_neg (by decide)])) ?_
  obtain ⟨Q, hQ⟩ : ∃ Q : Nat, Q = 600 := ⟨_, rfl⟩
  obtain ⟨kd, mn, mx, i, m, mi, V, hP, b1, b2, b3, hpe⟩ := Prec_ev hQ a0 a1 a2 a3 a4 a5 a6
  have ka := digs_length l1
  have kb := digs_length l2
  have a := mk_raw (K := 200) (M := Q) (neg := n1) (e := e1) (digs_dig l1) (by omega) (by omega) (by omega) (by omega) (by omega)
  have b := mk_raw (K := 200) (M := Q) (neg := n2) (e := e2) (digs_dig l2) (by omega) (by omega) (by omega) (by omega) (by omega)
  have da : kd = 1 → raw 200 n1 (nvl (digs l1)) e1 ≠ 0 → mx ≤ nd (raw 200 n1 (nvl (digs l1)) e1) := fun _ hz => by have := raw_nd (by omega) (by decide) hz; omega
  have db : kd = 1 → raw 200 n2 (nvl (digs l2)) e2 ≠ 0 → mx ≤ nd (raw 200 n2 (nvl (digs l2)) e2) := fun _ hz => by have := raw_nd (by omega) (by decide) hz; omega
  obtain ⟨u, hu⟩ : ∃ u, raw 200 n1 (nvl (digs l1)) e1 = u := ⟨_, rfl⟩
  obtain ⟨v, hv⟩ : ∃ v, raw 200 n2 (nvl (digs l2)) e2 = v := ⟨_, rfl⟩
  rw [hu] at a da
  rw [hv] at b db
  have m1 := Make_ev n1 l1 e1 (by omega) w1
  have m2 := Make_ev n2 l2 e2 (by omega) w2
  have pa := shw_plc hP a.plc (by omega)
  have pb := shw_plc hP b.plc (by omega)
  have hsg : decide (kd = 1) = true → 1 ≤ mx.toNat := fun h => by have := hP.sig (of_decide_eq_true h); have := hP.n2 (by have := of_decide_eq_true h; omega); omega
  have na := shw_nd (V := V) hP da
  have hid : shw 200 kd mx m V (shw 200 kd mx m V u) = shw 200 kd mx m V u := shown_idem m m u hsg
  have hmo1 : u ≤ v → shw 200 kd mx m V u ≤ shw 200 kd mx m V v := fun h => shown_mono m hsg h
  have hmo2 : v ≤ u → shw 200 kd mx m V v ≤ shw 200 kd mx m V u := fun h => shown_mono m hsg h
  have ap := fun r (hr : shw 200 kd mx m V u = r) => Apply_dk hP a.plc (by omega) (by omega) a.val da hr (hr ▸ pa)
  have bp := fun r (hr : shw 200 kd mx m V v = r) => Apply_dk hP b.plc (by omega) (by omega) b.val db hr (hr ▸ pb)
  have huv : u = v → shw 200 kd mx m V u = shw 200 kd mx m V v := fun h => by rw [h]
  have hva := Val.dk pa
  obtain ⟨x, hx⟩ : ∃ x, shw 200 kd mx m V u = x := ⟨_, rfl⟩
  obtain ⟨y, hy⟩ : ∃ y, shw 200 kd mx m V v = y := ⟨_, rfl⟩
  have ap1 := ap x hx
  have bp1 := bp y hy
  rw [hx] at pa na hid hmo1 hmo2 huv hva
  rw [hy] at pb hmo1 hmo2 huv
  have ap2 := Apply_dk (hP.up (Nat.le_succ _) (by omega)) pa (by omega) (by omega) hva na hid (pa.succ (by omega))
  have lx := lst_le (kd := kd) (mn := mn) pa (by omega)
  have ly := lst_le (kd := kd) (mn := mn) pb (by omega)
  have v1 := Value_dk pa (a := mi.toNat) (b := lst 200 kd mn x) (by omega) (by omega) (by omega)
  have v2 := Value_dk pb (a := mi.toNat) (b := lst 200 kd mn y) (by omega) (by omega) (by omega)
  have cc := Cmp_dk (by omega) a.plc b.plc a.val b.val
  have cr := Cmp_dk (by omega) pa pb (Val.dk pa) (Val.dk pb)
  have last : Ev (fun k => (show_Vis_Value.f k (dk 200 x).neg (S (visI mi.toNat (dk 200 x) (visF (lst 200 kd mn x) (dk 200 x)))) (S (visF (lst 200 kd mn x) (dk 200 x)))).bind fun bt586 => ((show_Vis_Value.f k (dk 200 y).neg (S (visI mi.toNat (dk 200 y) (visF (lst 200 kd mn y) (dk 200 y)))) (S (visF (lst 200 kd mn y) (dk 200 y)))).bind fun bt589 => ((dec_Cmp.f k bt586.1 bt586.2.1 bt586.2.2 bt589.1 bt589.2.1 bt589.2.2).bind fun t592 => (some (decide ((wrap64 (t592 * cmpI u v)) ≥ 0)))))) true := by
    refine Ev.bind v1 (Ev.bind v2 (Ev.bind cr (Ev.yes (decide_eq_true ?_))))
    exact cmp_keeps hmo1 hmo2
  refine Ev.bind hpe (Ev.bind m1 (Ev.bind m2 (Ev.bind ap1 (Ev.bind bp1 (Ev.bind v1 (Ev.bind ap2 (Ev.bind cc ?_)))))))
  dsimp only
  refine Ev.step (fun k => (by rw [florinlaw04_ShowAgain.j1])) ?_
  refine Ev.if_pos rfl (Ev.if_pos rfl (Ev.if_pos rfl (Ev.if_pos (by simp) ?_)))
  by_cases h0 : u = v
  · refine Ev.if_pos (cmpI_eq0.2 h0) (Ev.if_pos ?_ last)
    rw [huv h0]; simp
  · exact Ev.if_neg (fun h => h0 (cmpI_eq0.1 h)) last
theorem pureShowAgain (n1 : Bool) (l1 : List Int) (e1 : Int) (n2 : Bool) (l2 : List Int) (e2 : Int) (a0 a1 a2 a3 a4 a5 a6 : Int) (h0 : l1.length ≤ maxLen) (h1 : l1.length * 1 ≤ 140737488351232) (w1 : ∀ x ∈ l1, (Lit.int .u8 x).wf = true) (he : (Lit.int .i64 e1).wf = true)
    (h2 : l2.length ≤ maxLen) (h3 : l2.length * 1 ≤ 140737488351232) (w2 : ∀ x ∈ l2, (Lit.int .u8 x).wf = true) (he2 : (Lit.int .i64 e2).wf = true) (x0 : (Lit.int .i64 a0).wf = true) (x1 : (Lit.int .i64 a1).wf = true) (x2 : (Lit.int .i64 a2).wf = true) (x3 : (Lit.int .i64 a3).wf = true) (x4 : (Lit.int .i64 a4).wf = true) (x5 : (Lit.int .i64 a5).wf = true) (x6 : (Lit.int .i64 a6).wf = true) :
    ∃ k, florinlaw04_ShowAgain.f k n1 l1 e1 n2 l2 e2 a0 a1 a2 a3 a4 a5 a6 = some true := by
  refine Ev.rounds ?_
  unfold florinlaw04_ShowAgain.f
  have yes : Ev (fun k => florinlaw04_ShowAgain.j0 k true n1 l1 e1 n2 l2 e2 a0 a1 a2 a3 a4 a5 a6) true := Ev.step (f := fun _ => some true) (fun k => by rw [florinlaw04_ShowAgain.j0, _root_.if_pos rfl]) (Ev.now _)
  refine Ev.bind head04 (Ev.if_pos rfl (Ev.const (Few_ev n1 l1 e1 30 (by omega)) ?_))
  by_cases h : (l1.length : Int) ≤ (30 : Nat) ∧ -((30 : Nat) : Int) ≤ e1 ∧ e1 ≤ (30 : Nat)
  case neg => exact Ev.if_neg (by simpa using h) yes
  refine Ev.if_pos (decide_eq_true h) (Ev.const (Few_ev n2 l2 e2 30 (by omega)) ?_)
  by_cases h' : (l2.length : Int) ≤ (30 : Nat) ∧ -((30 : Nat) : Int) ≤ e2 ∧ e2 ≤ (30 : Nat)
  case neg => rw [decide_eq_false h']; exact yes
  rw [decide_eq_true h']
  exact again4_j0 n1 n2 l1 l2 e1 e2 a0 a1 a2 a3 a4 a5 a6 (by omega) (by omega) w1 w2 (by omega) (by omega) (by omega) (by omega)
end Go.Proofs.YthkpmiajcmihjaaDoor.P
