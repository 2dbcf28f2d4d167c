import Derived.Test.YthkpmiajcmihjaaDoorDB
import Derived.Test.YthkpmiajcmihjaaDoorPx16
namespace Go.Proofs.YthkpmiajcmihjaaDoor.P
open Go.RowKit Go.Proofs.YthkpmiajcmihjaaDoorW.PrintWords Go.Proofs.YthkpmiajcmihjaaDoorW.PrintLast Go.Proofs.YthkpmiajcmihjaaDoorW.PrintMore Go.Proofs.YthkpmiajcmihjaaDoor.FM
set_option linter.unusedVariables false
set_option linter.unusedSimpArgs false

theorem visI_one {a : Nat} (h : 1 ≤ a) (d : D) (p p' : List UInt8) : visI a d p = visI a d p' := by
  have h1 : zs (a - (mkl (wholeN d.m d.e)).length) ++ mkl (wholeN d.m d.e) ≠ [] := by
    intro h2
    have := congrArg List.length h2
    rw [List.length_append, zs_length, List.length_nil] at this
    omega
  unfold visI
  rw [show (if zs (a - (mkl (wholeN d.m d.e)).length) ++ mkl (wholeN d.m d.e) = [] ∧ p = [] then [48] else zs (a - (mkl (wholeN d.m d.e)).length) ++ mkl (wholeN d.m d.e)) = zs (a - (mkl (wholeN d.m d.e)).length) ++ mkl (wholeN d.m d.e) from _root_.if_neg (fun h => h1 h.1), _root_.if_neg (fun h => h1 h.1)]
theorem visF_more (b b' : Nat) (h : b' = b ∨ b' = b + 1) (d : D) : visF b' d = visF b d ∨ visF b' d = visF b d ++ [48] := by
  unfold visF
  rcases h with h | h
  · left; rw [h]
  · rcases Nat.lt_or_ge b (partL d.m d.e).length with h2 | h2
    · left
      rw [show b' - (partL d.m d.e).length = b - (partL d.m d.e).length by omega]
    · right
      rw [show b' - (partL d.m d.e).length = (b - (partL d.m d.e).length) + 1 by omega, List.append_assoc]
      congr 1
      rw [zs_add]; rfl
theorem more_j0 {Q : Nat} (hQ : Q = 600) {kd mn mx : Int} {i : D} {m mi : Int} {V : Nat} (hP : Pr 200 Q kd mn mx i m mi V) (hP2 : Pr 200 Q kd (mn + 1) mx i m mi V) (b1 : mx ≤ 15) (b2 : mn ≤ 8) (b3 : mi ≤ 7) (b4 : 1 ≤ mi) (n1 : Bool) (l1 : List Int) (e1 : Int) (h1 : l1.length ≤ 30) (w1 : ∀ x ∈ l1, (Lit.int .u8 x).wf = true) (c1 : -30 ≤ e1) (c2 : e1 ≤ 30) :
    Ev (fun k => florinlaw04_ShowMore.j0 k false n1 l1 e1 kd mn mx (tri i).1 (tri i).2.1 (tri i).2.2 m mi) true := by
  have hw : wrap64 (mn + 1) = mn + 1 := by have := hP.n0; exact w64 (by omega) (by omega)
  refine Ev.step (fun k => (by rw [florinlaw04_ShowMore.j0, _root_.if_neg (by decide), hw])) ?_
  have ka := digs_length l1
  have a := mk_raw (K := 200) (M := Q) (neg := n1) (e := e1) (digs_dig l1) (by omega) (by omega) (by omega) (by omega) (by omega)
  have da : kd = 1 → raw 200 n1 (nvl (digs l1)) e1 ≠ 0 → mx ≤ nd (raw 200 n1 (nvl (digs l1)) e1) := fun _ hz => by have := raw_nd (by omega) (by decide) hz; omega
  obtain ⟨u, hu⟩ : ∃ u, raw 200 n1 (nvl (digs l1)) e1 = u := ⟨_, rfl⟩
  rw [hu] at a da
  have m1 := Make_ev n1 l1 e1 (by omega) w1
  have pa := shw_plc hP a.plc (by omega)
  have ap := fun r (hr : shw 200 kd mx m V u = r) => Apply_dk hP a.plc (by omega) (by omega) a.val da hr (hr ▸ pa)
  have bp := fun r (hr : shw 200 kd mx m V u = r) => Apply_dk hP2 a.plc (by omega) (by omega) a.val da hr (hr ▸ pa)
  obtain ⟨x, hx⟩ : ∃ x, shw 200 kd mx m V u = x := ⟨_, rfl⟩
  have ap1 := ap x hx
  have bp1 := bp x hx
  rw [hx] at pa
  have lx := lst_le (kd := kd) (mn := mn) pa (by omega)
  have hn0 := hP.n0
  have hl : lst 200 kd (mn + 1) x = lst 200 kd mn x ∨ lst 200 kd (mn + 1) x = lst 200 kd mn x + 1 := by
    unfold lst
    split <;> omega
  have hF := visF_more _ _ hl (dk 200 x)
  have hI := visI_one (a := mi.toNat) (by omega) (dk 200 x) (visF (lst 200 kd (mn + 1) x) (dk 200 x)) (visF (lst 200 kd mn x) (dk 200 x))
  have hFl : (visF (lst 200 kd mn x) (dk 200 x)).length ≤ 1000000 := by
    rw [visF_length]
    have := (Val.dk pa).few.2.1
    omega
  have fin : Ev (fun k => florinlaw04_ShowMore.j1 k true) true := Ev.step (f := fun _ => some true) (fun k => by rw [florinlaw04_ShowMore.j1]) (Ev.now _)
  refine Ev.bind m1 (Ev.bind ap1 (Ev.bind m1 (Ev.bind bp1 (Ev.if_pos rfl (Ev.if_pos rfl (Ev.if_pos (by simp) ?_))))))
  dsimp only
  rw [hI]
  refine Ev.if_pos rfl ?_
  rw [S_toList, S_toList]
  rcases hF with hF | hF
  · exact Ev.if_pos hF fin
  · refine Ev.if_neg (by rw [hF]; intro h; have := congrArg List.length h; simp at this) ?_
    refine Ev.if_pos (by rw [S_size]; omega) ?_
    rw [show ((S (visF (lst 200 kd mn x) (dk 200 x)) ++ (⟨#[48]⟩ : ByteArray)).toList) = visF (lst 200 kd mn x) (dk 200 x) ++ [48] by rw [show (⟨#[48]⟩ : ByteArray) = S [48] from rfl, S_append, S_toList]]
    rw [hF, show (visF (lst 200 kd mn x) (dk 200 x) ++ [48] == visF (lst 200 kd mn x) (dk 200 x) ++ [48]) = true by simp]
    exact fin
theorem pureShowMore (n1 : Bool) (l1 : List Int) (e1 : Int) (a0 a1 a2 a3 a4 a5 a6 : Int) (h0 : l1.length ≤ maxLen) (h1 : l1.length * 1 ≤ 140737488351232) (w1 : ∀ x ∈ l1, (Lit.int .u8 x).wf = true) (he : (Lit.int .i64 e1).wf = true)
    (x0 : (Lit.int .i64 a0).wf = true) (x1 : (Lit.int .i64 a1).wf = true) (x2 : (Lit.int .i64 a2).wf = true) (x3 : (Lit.int .i64 a3).wf = true) (x4 : (Lit.int .i64 a4).wf = true) (x5 : (Lit.int .i64 a5).wf = true) (x6 : (Lit.int .i64 a6).wf = true) :
    ∃ k, florinlaw04_ShowMore.f k n1 l1 e1 a0 a1 a2 a3 a4 a5 a6 = some true := by
  refine Ev.rounds ?_
  unfold florinlaw04_ShowMore.f
  refine Ev.bind head04 (Ev.if_pos rfl (Ev.const (Few_ev n1 l1 e1 30 (by omega)) ?_))
  by_cases h : (l1.length : Int) ≤ (30 : Nat) ∧ -((30 : Nat) : Int) ≤ e1 ∧ e1 ≤ (30 : Nat)
  case neg => exact Ev.if_neg (by simpa using h) (Ev.now _)
  refine Ev.if_pos (decide_eq_true h) ?_
  obtain ⟨Q, hQ⟩ : ∃ Q : Nat, Q = 600 := ⟨_, rfl⟩
  obtain ⟨kd, mn, mxx, i, m, mi, V, hP, b1, b2, b3, hpe⟩ := Prec_ev hQ a0 a1 a2 a3 a4 a5 a6
  refine Ev.bind hpe ?_
  dsimp only
  have hi0 := hP.i0
  obtain ⟨mj, hmj⟩ : ∃ mj, mx mi 1 = mj := ⟨_, rfl⟩
  have hmj1 : 1 ≤ mj ∧ mj ≤ 7 := by rw [← hmj]; unfold mx; split <;> omega
  have hP1 : Pr 200 Q kd mn mxx i m mj V := ⟨hP.k0, hP.k2, hP.m0, hP.m6, by omega, by omega, hP.n0, hP.n1, hP.n2, hP.x1, hP.sig, hP.inc, hP.non⟩
  have hn0 := hP.n0
  have go : (kd ≠ 2 → mn < mxx) → Ev (fun k => florinlaw04_ShowMore.j0 k false n1 l1 e1 kd mn mxx (tri i).1 (tri i).2.1 (tri i).2.2 m mj) true := fun hlt =>
    more_j0 hQ hP1 ⟨hP.k0, hP.k2, hP.m0, hP.m6, by omega, by omega, by omega, by omega, fun hk => by have := hlt hk; omega, hP.x1, fun _ => by omega, hP.inc, hP.non⟩ b1 b2 hmj1.2 hmj1.1 n1 l1 e1 (by omega) w1 (by omega) (by omega)
  rw [hmj]
  by_cases hk : kd = 2
  · exact Ev.if_pos hk (go (fun h => absurd hk h))
  · refine Ev.if_neg hk ?_
    by_cases hlt : mn ≥ mxx
    · rw [decide_eq_true hlt]
      exact Ev.step (f := fun _ => some true) (fun k => by rw [florinlaw04_ShowMore.j0, _root_.if_pos rfl]) (Ev.now _)
    · rw [decide_eq_false hlt]
      exact go (fun _ => by omega)
end Go.Proofs.YthkpmiajcmihjaaDoor.P
