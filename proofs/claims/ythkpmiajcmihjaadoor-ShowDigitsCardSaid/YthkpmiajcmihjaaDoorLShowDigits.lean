import Derived.Test.YthkpmiajcmihjaaDoorDB
import Derived.Test.YthkpmiajcmihjaaDoorPx14
import Derived.Test.YthkpmiajcmihjaaDoorPx15
namespace Go.Proofs.YthkpmiajcmihjaaDoor.P
open Go.RowKit Go.Proofs.YthkpmiajcmihjaaDoorW.PrintWords Go.Proofs.YthkpmiajcmihjaaDoorW.PrintLast Go.Proofs.YthkpmiajcmihjaaDoorW.PrintMore Go.Proofs.YthkpmiajcmihjaaDoor.FM
set_option linter.unusedVariables false
set_option linter.unusedSimpArgs false

theorem trimEnd_ev (l : List UInt8) (hl : l.length ≤ 1000000000) : Ev (fun k => florinlaw04_trimEnd.f k (S l)) (S (tr l)) := by
  unfold florinlaw04_trimEnd.f
  obtain ⟨n, hn⟩ : ∃ n, l.length = n := ⟨_, rfl⟩
  induction n generalizing l with
  | zero =>
    obtain rfl := List.eq_nil_of_length_eq_zero hn
    refine Ev.step (fun k => (by rw [florinlaw04_trimEnd.l0])) ?_
    exact Ev.if_neg (by rw [S_size]; decide) (Ev.now _)
  | succ n ih =>
    rcases List.eq_nil_or_concat l with h | ⟨u, c, h⟩
    · rw [h] at hn; cases hn
    rw [List.concat_eq_append] at h
    have hul : u.length = n := by rw [h, List.length_append] at hn; simp at hn; exact hn
    refine Ev.step (fun k => (by rw [florinlaw04_trimEnd.l0])) ?_
    rw [S_size, hn]
    have hw : wrap64 (((n + 1 : Nat) : Int) - 1) = (n : Int) := by rw [w64 (by omega) (by omega)]; omega
    rw [hw]
    refine Ev.if_pos (by omega) (Ev.if_pos (by omega) (Ev.if_pos (by omega) ?_))
    have hb : bt (S l) (n : Int) = (c.toNat : Int) := by
      rw [bt_S, h]
      congr 2
      rw [List.getD_eq_getElem?_getD, Int.toNat_natCast, ← hul, List.getElem?_append_right (Nat.le_refl _)]
      simp
    rw [hb]
    by_cases hc : c = 48
    · refine Ev.if_pos (by rw [hc]; decide) (Ev.if_pos (by omega) ?_)
      rw [S_extract, Int.toNat_natCast, List.drop_zero, h, ← hul, List.take_left, hc, tr_snoc_zero]
      exact ih u (by omega) hul
    · refine Ev.if_neg (by intro h2; apply hc; apply UInt8.toNat_inj.1; have : c.toNat = 48 := by omega
                           rw [this]; rfl) ?_
      rw [h, tr_snoc hc]
      exact Ev.now _
/-- what is told in the end -/
def endB (kd n t f : Int) : Bool := if f = n then (if kd = 2 then true else decide (f ≤ 200)) else false
theorem digits_loop4 {kd mn t mi : Int} {n : Bool} {b : ByteArray} {x m : Int} {vn : Bool} {vi : ByteArray} (Z F : List UInt8) (q : Nat) (hF : F = zs q ++ Z) (hZ : Z.head? ≠ some 48) (hl : F.length ≤ 1000) (h0 : 0 ≤ mn) (h1 : mn ≤ 100)
    (hlen : (F.length : Int) = max (mn + q) ((tr F).length : Int)) (hmn : F.length ≤ 200) :
    ∀ d j : Nat, j + d = q → Ev (fun k => florinlaw04_ShowDigits.l0 k (1 - (j : Int)) (j : Int) kd mn t n b x m mi vn vi (S F)) true := by
  have hte := trimEnd_ev F (by omega)
  have hlt := (tr_eq F).2
  have hq : q ≤ F.length := by rw [hF, List.length_append, zs_length]; omega
  have fin : Ev (fun k => (florinlaw04_trimEnd.f k (S F)).bind fun t353 => (if ((S F).size : Int) = (mx (mx (wrap64 (mn - (wrap64 ((1 - (q : Int)) - 1)))) 0) (t353.size : Int)) then (if kd = 2 then (some true) else (some (decide (((S F).size : Int) ≤ 200)))) else (some false))) true := by
    refine Ev.bind hte ?_
    rw [S_size, S_size, w64 (x := 1 - (q : Int) - 1) (by omega) (by omega), w64 (by omega) (by omega)]
    rw [show mx (mn - (1 - (q : Int) - 1)) 0 = mn + q by unfold mx; split <;> omega]
    refine Ev.if_pos (by rw [hlen]; unfold mx; split <;> omega) ?_
    by_cases hk : kd = 2
    · exact Ev.if_pos hk (Ev.now _)
    · exact Ev.if_neg hk (Ev.yes (decide_eq_true (by omega)))
  intro d
  induction d with
  | zero =>
    intro j hj
    obtain rfl : j = q := by omega
    refine Ev.step (fun k => (by rw [florinlaw04_ShowDigits.l0])) ?_
    by_cases h : (j : Int) < ((S F).size : Int)
    · refine Ev.if_pos h (Ev.if_pos (by omega) (Ev.if_neg ?_ fin))
      rw [bt_S, Int.toNat_natCast, hF, List.getD_eq_getElem?_getD, List.getElem?_append_right (by rw [zs_length]; exact Nat.le_refl _), zs_length, Nat.sub_self]
      rw [S_size, hF, List.length_append, zs_length] at h
      cases Z with
      | nil => simp at h
      | cons c r =>
        simp only [List.getElem?_cons_zero, Option.getD_some]
        intro h2
        apply hZ
        rw [List.head?_cons]
        congr 1
        apply UInt8.toNat_inj.1
        have : c.toNat = 48 := by omega
        rw [this]; rfl
    · exact Ev.if_neg h fin
  | succ d ih =>
    intro j hj
    refine Ev.step (fun k => (by rw [florinlaw04_ShowDigits.l0])) ?_
    refine Ev.if_pos (by rw [S_size]; omega) (Ev.if_pos (by omega) (Ev.if_pos ?_ ?_))
    · rw [bt_S, Int.toNat_natCast, hF, List.getD_eq_getElem?_getD, List.getElem?_append_left (by rw [zs_length]; omega)]
      unfold zs
      rw [List.getElem?_replicate, _root_.if_pos (by omega)]
      rfl
    · rw [w64 (x := 1 - (j : Int) - 1) (by omega) (by omega), w64 (x := (j : Int) + 1) (by omega) (by omega)]
      have h := ih (j + 1) (by omega)
      rw [show 1 - ((j + 1 : Nat) : Int) = 1 - (j : Int) - 1 by omega, show ((j + 1 : Nat) : Int) = (j : Int) + 1 by omega] at h
      exact h
theorem tr_visF {K M : Nat} {r : Int} (hrp : Plc M K r) (b : Nat) : tr (visF b (dk K r)) = partL (dk K r).m (dk K r).e := by
  unfold visF
  rw [tr_append_zs]
  apply tr_of_last
  by_cases h : (dk K r).e < 0
  · by_cases hz : r = 0
    · rw [hz, dk_zero] at h; cases h
    · exact partL_last h (dk_mod hz).1
  · unfold partL
    rw [_root_.if_pos (by omega)]
    simp
theorem digits_j1 {kd mn t mi : Int} {n : Bool} {b : ByteArray} {x m : Int} {vn : Bool} {vi : ByteArray} {K M : Nat} {r : Int} (hrp : Plc M K r) (hK : K = 200) (h0 : 0 ≤ mn) (h1 : mn ≤ 100) (k1 : kd = 1 → 1 ≤ mn) (hlst : lst K kd mn r ≤ 190) :
    Ev (fun k => florinlaw04_ShowDigits.j1 k (S (mkl (wholeN (dk K r).m (dk K r).e))) false kd mn t n b x m mi vn vi (S (visF (lst K kd mn r) (dk K r))) (tri (dk K r)).1 (tri (dk K r)).2.1 (tri (dk K r)).2.2) true := by
  have hde := dk_e_ge K r
  have hV := Val.dk hrp
  have hFl := visF_length (lst K kd mn r) (dk K r)
  have htl : (tr (visF (lst K kd mn r) (dk K r))).length = (-(dk K r).e).toNat := by rw [tr_visF hrp, partL_length]
  have hwl := wholeN_len_le hV.few
  have hte := trimEnd_ev (visF (lst K kd mn r) (dk K r)) (by omega)
  have hzr := Zero_tri (dk K r) hV.few
  have hmag := magD_dk (K := K) (z := r)
  have hml := magD_le hrp
  have last : ∀ y : Int, y = (lst K kd mn r : Int) → Ev (fun k => (florinlaw04_trimEnd.f k (S (visF (lst K kd mn r) (dk K r)))).bind fun t352 => (if ((S (visF (lst K kd mn r) (dk K r))).size : Int) = (mx y (t352.size : Int)) then (if kd = 2 then (some true) else (some (decide (((S (visF (lst K kd mn r) (dk K r))).size : Int) ≤ 200)))) else (some false))) true := by
    intro y hy
    refine Ev.bind hte ?_
    rw [S_size, S_size, hFl, htl]
    refine Ev.if_pos (by rw [hy]; unfold mx; split <;> omega) ?_
    by_cases hk : kd = 2
    · exact Ev.if_pos hk (Ev.now _)
    · exact Ev.if_neg hk (Ev.yes (decide_eq_true (by omega)))
  refine Ev.step (fun k => (by rw [florinlaw04_ShowDigits.j1, _root_.if_neg (by decide)])) ?_
  by_cases hk : kd = 1
  case neg =>
    refine Ev.if_neg hk (last _ ?_)
    unfold lst; rw [_root_.if_neg hk]; omega
  refine Ev.if_pos hk ?_
  have hk1 := k1 hk
  have hlv : lst K kd mn r = (mn - 1 - (magD (dk K r)).1).toNat := by unfold lst; rw [_root_.if_pos hk]
  rw [S_size]
  by_cases hr0 : r = 0
  · rw [_root_.if_pos hr0] at hmag
    have hD : dk K r = D0 := by rw [hr0, dk_zero]
    have hw : wholeN (dk K r).m (dk K r).e = 0 := by rw [hD]; decide
    rw [hw, mkl_zero]
    refine Ev.if_pos rfl (Ev.bind hzr (Ev.if_pos (decide_eq_true (by rw [hD]; rfl)) (last _ ?_)))
    rw [hlv, hmag, w64 (by omega) (by omega)]
    unfold mx; dsimp only; split <;> omega
  rw [_root_.if_neg hr0] at hmag
  have hdm := dk_mod (K := K) hr0
  have hmg := dk_mag (K := K) hr0
  by_cases hw : wholeN (dk K r).m (dk K r).e = 0
  · obtain ⟨w1, w2⟩ := (wholeN_zero hdm.2).1 hw
    refine Ev.if_pos (by rw [hw, mkl_zero]; rfl) (Ev.bind hzr (Ev.if_neg (by rw [decide_eq_true_eq]; omega) ?_))
    have hp := partL_small w1 w2
    have hF : visF (lst K kd mn r) (dk K r) = zs ((-(dk K r).e).toNat - (mkl (dk K r).m).length) ++ (mkl (dk K r).m ++ zs (lst K kd mn r - (partL (dk K r).m (dk K r).e).length)) := by
      rw [← List.append_assoc, ← hp]; rfl
    have hne : mkl (dk K r).m ≠ [] := by rw [Ne, mkl_eq_nil]; omega
    have hh : (mkl (dk K r).m ++ zs (lst K kd mn r - (partL (dk K r).m (dk K r).e).length)).head? ≠ some 48 := by
      have hb := bare_mkl (dk K r).m
      unfold Bare at hb
      cases hm : mkl (dk K r).m with
      | nil => exact absurd hm hne
      | cons c rest => rw [hm] at hb; exact hb
    have h := digits_loop4 (kd := kd) (mn := mn) (t := t) (mi := mi) (n := n) (b := b) (x := x) (m := m) (vn := vn) (vi := vi) _ _ _ hF hh (by omega) h0 h1 (by
      rw [hFl, htl, hlv, hmag]; dsimp only; omega) (by omega) _ 0 (Nat.zero_add _)
    exact h
  · have hwn := wholeN_len hdm.2 hw
    have hpos : (mkl (wholeN (dk K r).m (dk K r).e)).length ≠ 0 := by
      intro h
      have := List.eq_nil_of_length_eq_zero h
      rw [mkl_eq_nil] at this
      exact hw this
    refine Ev.if_neg (by omega) (last _ ?_)
    rw [hlv, hmag, w64 (by omega) (by omega)]
    unfold mx; dsimp only; split <;> omega
theorem digits_j0 {kd mn t mi : Int} {n : Bool} {b : ByteArray} {x m : Int} {vn : Bool} {K M : Nat} {r : Int} (hrp : Plc M K r) (hK : K = 200) (h0 : 0 ≤ mn) (h1 : mn ≤ 100) (k1 : kd = 1 → 1 ≤ mn) (hlst : lst K kd mn r ≤ 190) (i0 : 0 ≤ mi) (i1 : mi ≤ 100) :
    Ev (fun k => florinlaw04_ShowDigits.j0 k false kd mn t n b x m mi vn (S (visI mi.toNat (dk K r) (visF (lst K kd mn r) (dk K r)))) (S (visF (lst K kd mn r) (dk K r))) (tri (dk K r)).1 (tri (dk K r)).2.1 (tri (dk K r)).2.2) true := by
  have j1 := fun vi => digits_j1 (vn := vn) (vi := vi) (t := t) (mi := mi) (n := n) (b := b) (x := x) (m := m) hrp hK h0 h1 k1 hlst
  have hwl := wholeN_len_le (Val.dk hrp).few
  have hIl : (visI mi.toNat (dk K r) (visF (lst K kd mn r) (dk K r))).length ≤ 100040000 := by
    unfold visI
    split
    · decide
    · rw [List.length_append, zs_length]; omega
  have ht := Trim_dig _ (Nat.le_trans hIl (by decide)) (dig_visI mi.toNat (dk K r) (visF (lst K kd mn r) (dk K r)))
  rw [nvl_visI] at ht
  refine Ev.step (fun k => (by rw [florinlaw04_ShowDigits.j0, _root_.if_neg (by decide)])) (Ev.bind ht ?_)
  rw [S_size, S_size]
  by_cases hs : zs (mi.toNat - (mkl (wholeN (dk K r).m (dk K r).e)).length) ++ mkl (wholeN (dk K r).m (dk K r).e) = [] ∧ visF (lst K kd mn r) (dk K r) = []
  · have hI : visI mi.toNat (dk K r) (visF (lst K kd mn r) (dk K r)) = [48] := by unfold visI; rw [_root_.if_pos hs]
    have hl0 := congrArg List.length hs.1
    rw [List.length_append, zs_length, List.length_nil] at hl0
    rw [hI]
    refine Ev.if_neg (by unfold mx; simp; split <;> omega) (Ev.if_pos (by unfold mx; split <;> omega) (Ev.if_pos (by rw [S_toList]) ?_))
    rw [S_toList, show (!(visF (lst K kd mn r) (dk K r) == ([] : List UInt8))) = false by rw [hs.2]; rfl]
    exact j1 _
  · have hI : visI mi.toNat (dk K r) (visF (lst K kd mn r) (dk K r)) = zs (mi.toNat - (mkl (wholeN (dk K r).m (dk K r).e)).length) ++ mkl (wholeN (dk K r).m (dk K r).e) := by unfold visI; rw [_root_.if_neg hs]
    refine Ev.if_pos ?_ (j1 _)
    rw [hI, List.length_append, zs_length]
    unfold mx; split <;> omega
theorem pureShowDigits (n1 : Bool) (l1 : List Int) (e1 : Int) (a0 a1 a2 a3 a4 a5 a6 : Int) (h0 : l1.length ≤ maxLen) (h1 : l1.length * 1 ≤ 140737488351232) (w1 : ∀ x ∈ l1, (Lit.int .u8 x).wf = true) (he : (Lit.int .i64 e1).wf = true)
    (x0 : (Lit.int .i64 a0).wf = true) (x1 : (Lit.int .i64 a1).wf = true) (x2 : (Lit.int .i64 a2).wf = true) (x3 : (Lit.int .i64 a3).wf = true) (x4 : (Lit.int .i64 a4).wf = true) (x5 : (Lit.int .i64 a5).wf = true) (x6 : (Lit.int .i64 a6).wf = true) :
    ∃ k, florinlaw04_ShowDigits.f k n1 l1 e1 a0 a1 a2 a3 a4 a5 a6 = some true := by
  refine Ev.rounds ?_
  unfold florinlaw04_ShowDigits.f
  refine Ev.bind head04 (Ev.if_pos rfl (Ev.const (Few_ev n1 l1 e1 30 (by omega)) ?_))
  by_cases h : (l1.length : Int) ≤ (30 : Nat) ∧ -((30 : Nat) : Int) ≤ e1 ∧ e1 ≤ (30 : Nat)
  case neg => exact Ev.if_neg (by simpa using h) (Ev.now _)
  refine Ev.if_pos (decide_eq_true h) ?_
  obtain ⟨Q, hQ⟩ : ∃ Q : Nat, Q = 600 := ⟨_, rfl⟩
  obtain ⟨K, hK⟩ : ∃ K : Nat, K = 200 := ⟨_, rfl⟩
  obtain ⟨kd, mn, mxx, i, m, mi, V, hP, b1, b2, b3, hpe⟩ := Prec_ev hQ a0 a1 a2 a3 a4 a5 a6
  have ka := digs_length l1
  rw [← hK] at hP
  have a := mk_raw (K := K) (M := Q) (neg := n1) (e := e1) (digs_dig l1) (by omega) (by omega) (by omega) (by omega) (by omega)
  have da : kd = 1 → raw K n1 (nvl (digs l1)) e1 ≠ 0 → mxx ≤ nd (raw K n1 (nvl (digs l1)) e1) := fun _ hz => by have := raw_nd (by omega) (by omega) hz; omega
  have ls := lst_small hP a.plc (by omega) (fun hz => raw_nd_30 (by omega) (by omega) hz) b2
  obtain ⟨u, hu⟩ : ∃ u, raw K n1 (nvl (digs l1)) e1 = u := ⟨_, rfl⟩
  rw [hu] at a da ls
  have m1 := Make_ev n1 l1 e1 (by omega) w1
  have pa := shw_plc hP a.plc (by omega)
  have ap := fun r (hr : shw K kd mxx m V u = r) => Apply_dk hP a.plc (by omega) (by omega) a.val da hr (hr ▸ pa)
  have ro := Round_dk hP a.plc (by omega) (by omega) a.val da
  obtain ⟨x, hx⟩ : ∃ x, shw K kd mxx m V u = x := ⟨_, rfl⟩
  have ap1 := ap x hx
  rw [hx] at pa ls ro
  have hn0 := hP.n0; have hn1 := hP.n1
  have hi0 := hP.i0
  have j0 := digits_j0 (vn := (dk K x).neg) (t := mxx) (n := (tri i).1) (b := (tri i).2.1) (x := (tri i).2.2) (m := m) pa hK hn0 hn1 hP.sig ls hi0 (by omega)
  have hwl := wholeN_len_le (Val.dk pa).few
  have hIl : (visI mi.toNat (dk K x) (visF (lst K kd mn x) (dk K x))).length ≤ 100040000 := by
    unfold visI
    split
    · decide
    · rw [List.length_append, zs_length]; omega
  have hFl : (visF (lst K kd mn x) (dk K x)).length ≤ 1000000 := by rw [visF_length]; have := dk_e_ge K x; omega
  have hne : visI mi.toNat (dk K x) (visF (lst K kd mn x) (dk K x)) ++ visF (lst K kd mn x) (dk K x) ≠ [] := by
    intro h2
    obtain ⟨h3, h4⟩ := List.append_eq_nil_iff.1 h2
    unfold visI at h3
    split at h3
    · cases h3
    · rename_i h5; exact h5 ⟨h3, h4⟩
  have dI := dig_visI mi.toNat (dk K x) (visF (lst K kd mn x) (dk K x))
  have dF := dig_visF (lst K kd mn x) (dk K x)
  have is1 := Is_ev _ (Nat.le_trans hIl (by decide))
  have is2 := Is_ev _ (Nat.le_trans hFl (by decide))
  rw [decide_eq_true dI] at is1
  rw [decide_eq_true dF] at is2
  refine Ev.bind hpe (Ev.bind m1 (Ev.bind ap1 (Ev.bind m1 (Ev.bind ro (Ev.if_pos rfl (Ev.bind is1 (Ev.if_pos rfl (Ev.bind is2 (Ev.if_pos rfl (Ev.if_pos (by rw [S_size, S_size]; omega) ?_))))))))))
  dsimp only
  rw [S_append, S_toList]
  refine Ev.if_neg hne ?_
  rw [tri1, show ((dk K x).neg != (dk K x).neg) = false by simp]
  exact j0
end Go.Proofs.YthkpmiajcmihjaaDoor.P
