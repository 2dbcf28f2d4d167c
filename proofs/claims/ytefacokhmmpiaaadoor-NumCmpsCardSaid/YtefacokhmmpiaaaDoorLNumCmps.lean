import Derived.Test.YtefacokhmmpiaaaDoorS6
import Derived.Test.YtefacokhmmpiaaaDoorPx10
namespace Go.Proofs.YtefacokhmmpiaaaDoor.P
open Go.RowKit Go.Proofs.YtefacokhmmpiaaaDoorW.PrintWords Go.Proofs.YtefacokhmmpiaaaDoorW.PrintLast Go.Proofs.YtefacokhmmpiaaaDoorW.PrintMore Go.Proofs.YtefacokhmmpiaaaDoor.FM
set_option linter.unusedVariables false
set_option linter.unusedSimpArgs false

theorem cmps_end (a b : List UInt8) (la' : a.length ≤ 200) (lb' : b.length ≤ 200) (da : Dig a) (db : Dig b) (m : Int) : Ev (fun k => florinlaw01_NumCmps.j3 k m (S a) (S b) (cmpN (nvl a) (nvl b))) true := by
  obtain ⟨x, hx, hx2⟩ := low64 5 (by decide) m 31 (by decide)
  have hx3 : x < 32 := hx2
  have ez : num_Zeros.f (x : Int) = some (S (zs x)) := by
    have := Zeros_ev (x : Int)
    rw [Int.toNat_natCast, Nat.min_eq_left (by omega)] at this
    exact this
  refine Ev.step (fun k => (by rw [florinlaw01_NumCmps.j3, hx])) ?_
  have lz : Sm (zs x) := sm_le (n := 40) (by rw [zs_length]; omega) (by omega)
  have la : Sm a := sm_le la' (by omega)
  have lb : Sm b := sm_le lb' (by omega)
  refine Ev.const ez (Ev.if_pos (by rw [S_size, zs_length]) ?_)
  have e1 := Cmp_ev (zs x) [] lz (by decide) (dig_zs x) Dig.nil
  rw [nvl_zs] at e1
  refine Ev.bind e1 (Ev.if_pos rfl (Ev.if_pos (by rw [S_size, S_size, zs_length]; omega) ?_))
  rw [S_append, S_append]
  have e2 := Cmp_ev (zs x ++ a) b (sm_le (n := 300) (by rw [List.length_append, zs_length]; omega) (by omega)) lb ((dig_zs x).append da) db
  have e3 := Cmp_ev a (zs x ++ b) la (sm_le (n := 300) (by rw [List.length_append, zs_length]; omega) (by omega)) da ((dig_zs x).append db)
  rw [nvl_zs_append] at e2 e3
  refine Ev.bind e2 (Ev.if_pos rfl (Ev.if_pos (by rw [S_size, S_size, zs_length]; omega) (Ev.bind e3 (Ev.if_pos rfl ?_))))
  refine Ev.const (Zeros_ev (-3)) (Ev.yes ?_)
  rw [S_toList]; rfl
/-- what the digits from a place on tell -/
def firstD : List UInt8 → List UInt8 → Int
  | c :: a, d :: b => if c < d then -1 else if d < c then 1 else firstD a b
  | _, _ => 0
theorem firstD_cmp : ∀ (a b : List UInt8), Dig a → Dig b → a.length = b.length → firstD a b = cmpN (nvl a) (nvl b)
  | [], [], _, _, _ => by simp [firstD, cmpN]
  | [], _ :: _, _, _, h => by simp at h
  | _ :: _, [], _, _, h => by simp at h
  | c :: a, d :: b, ha, hb, h => by
    rw [dig_cons] at ha hb
    have hl : a.length = b.length := by simpa using h
    unfold firstD
    by_cases h1 : c < d
    · have := head_lt ha.2 hl ha.1.1 (UInt8.lt_iff_toNat_lt.1 h1)
      rw [_root_.if_pos h1]; unfold cmpN; rw [_root_.if_pos this]
    · rw [_root_.if_neg h1]
      by_cases h2 : d < c
      · have := head_lt hb.2 hl.symm hb.1.1 (UInt8.lt_iff_toNat_lt.1 h2)
        rw [_root_.if_pos h2]; unfold cmpN; rw [_root_.if_neg (by omega), _root_.if_pos this]
      · have hcd : c = d := by
          apply UInt8.toNat_inj.1
          rw [UInt8.lt_iff_toNat_lt] at h1 h2
          omega
        subst hcd
        rw [_root_.if_neg h2, firstD_cmp a b ha.2 hb.2 hl]
        unfold cmpN
        rw [nvl_cons, nvl_cons, hl]
        repeat' split
        all_goals omega
theorem cmps_loop (a b : List UInt8) (la' : a.length ≤ 200) (hlen : a.length = b.length) (m : Int) (w : Int) (E : Ev (fun k => florinlaw01_NumCmps.j3 k m (S a) (S b) w) true) (d : Nat) : ∀ (i : Nat) (c : Int), i + d = a.length →
    (c = 0 → firstD (a.drop i) (b.drop i) = w) → (c ≠ 0 → c = w) → Ev (fun k => florinlaw01_NumCmps.l0 k m (S a) (S b) c (i : Int)) true := by
  induction d with
  | zero =>
    intro i c hi h0 h1
    have hw : c = w := by
      by_cases hc : c = 0
      · rw [← h0 hc, List.drop_of_length_le (by omega), hc]; rfl
      · exact h1 hc
    subst hw
    refine Ev.step (f := fun k => florinlaw01_NumCmps.j2 k m (S a) (S b) c (i : Int) false) (fun k => ?_) ?_
    · rw [florinlaw01_NumCmps.l0, S_size, _root_.if_neg (by omega)]
    · refine Ev.step (f := fun k => florinlaw01_NumCmps.j3 k m (S a) (S b) c) (fun k => ?_) E
      rw [florinlaw01_NumCmps.j2, _root_.if_neg (by decide)]
  | succ d ih =>
    intro i c hi h0 h1
    have hlt : i < a.length := by omega
    have hltb : i < b.length := by omega
    refine Ev.step (f := fun k => florinlaw01_NumCmps.j2 k m (S a) (S b) c (i : Int) (c == 0)) (fun k => ?_) ?_
    · rw [florinlaw01_NumCmps.l0, S_size, _root_.if_pos (by omega)]
    · by_cases hc : c = 0
      · subst hc
        have ha : bt (S a) (i : Int) = (a[i].toNat : Int) := by
          rw [bt_S, Int.toNat_natCast, List.getD_eq_getElem?_getD, List.getElem?_eq_getElem hlt]; rfl
        have hb : bt (S b) (i : Int) = (b[i].toNat : Int) := by
          rw [bt_S, Int.toNat_natCast, List.getD_eq_getElem?_getD, List.getElem?_eq_getElem hltb]; rfl
        have hf := h0 rfl
        rw [(List.getElem_cons_drop hlt).symm, (List.getElem_cons_drop hltb).symm] at hf
        unfold firstD at hf
        simp only [UInt8.lt_iff_toNat_lt] at hf
        have hrun : ∀ k, florinlaw01_NumCmps.j2 (k + 1) m (S a) (S b) 0 (i : Int) ((0 : Int) == 0) = florinlaw01_NumCmps.l0 k m (S a) (S b) (if a[i].toNat < b[i].toNat then -1 else if b[i].toNat < a[i].toNat then 1 else 0) ((i + 1 : Nat) : Int) := by
          intro k
          rw [florinlaw01_NumCmps.j2, _root_.if_pos (show ((0 : Int) == 0) = true from rfl), S_size, S_size, _root_.if_pos (by omega), _root_.if_pos (by omega), _root_.if_pos (by omega), ha, hb, inc64 (by omega)]
          by_cases h2 : a[i].toNat < b[i].toNat
          · rw [_root_.if_pos (by omega), _root_.if_neg (by omega), _root_.if_pos h2]
          · rw [_root_.if_neg (by omega)]
            by_cases h3 : b[i].toNat < a[i].toNat
            · rw [_root_.if_pos (by omega), _root_.if_neg h2, _root_.if_pos h3]
            · rw [_root_.if_neg (by omega), _root_.if_neg h2, _root_.if_neg h3]
        refine Ev.step hrun ?_
        refine ih (i + 1) _ (by omega) ?_ ?_
        · by_cases h2 : a[i].toNat < b[i].toNat
          · rw [_root_.if_pos h2]; intro h; omega
          · rw [_root_.if_neg h2] at hf ⊢
            by_cases h3 : b[i].toNat < a[i].toNat
            · rw [_root_.if_pos h3]; intro h; omega
            · rw [_root_.if_neg h3] at hf ⊢; exact fun _ => hf
        · by_cases h2 : a[i].toNat < b[i].toNat
          · rw [_root_.if_pos h2] at hf ⊢; exact fun _ => hf
          · rw [_root_.if_neg h2] at hf ⊢
            by_cases h3 : b[i].toNat < a[i].toNat
            · rw [_root_.if_pos h3] at hf ⊢; exact fun _ => hf
            · rw [_root_.if_neg h3]; intro h; omega
      · have hw := h1 hc
        subst hw
        refine Ev.step (f := fun k => florinlaw01_NumCmps.j3 k m (S a) (S b) c) (fun k => ?_) E
        rw [florinlaw01_NumCmps.j2, beq_eq_false_iff_ne.2 hc, _root_.if_neg (by decide)]
theorem pureNumCmps : florinlaw01_NumCmps.Pure := by
  intro l0 l1 m h1 h2 hw h3 h4 hw1 _
  refine Ev.rounds ?_
  unfold florinlaw01_NumCmps.f
  refine Ev.bind head01 (Ev.if_pos rfl ?_)
  have fin : Ev (fun k => florinlaw01_NumCmps.j0 k l0 l1 m true) true := by
    refine Ev.step (f := fun k => some true) (fun k => ?_) (Ev.now _)
    rw [florinlaw01_NumCmps.j0, _root_.if_pos rfl]
  by_cases hl : (l0.length : Int) > 200
  · exact Ev.if_pos hl fin
  refine Ev.if_neg hl ?_
  by_cases hl1 : (l1.length : Int) > 200
  · rw [decide_eq_true hl1]; exact fin
  rw [decide_eq_false hl1]
  refine Ev.step (fun k => (by rw [florinlaw01_NumCmps.j0, _root_.if_neg (by decide)])) ?_
  have da := digs_dig l0
  have la' : (digs l0).length ≤ 200 := by rw [digs_length]; omega
  have db := digs_dig l1
  have lb' : (digs l1).length ≤ 200 := by rw [digs_length]; omega
  refine Ev.bind (Digits_ev l0 (by omega) hw) (Ev.bind (Bare_ev _ (by omega) da) (Ev.bind (Digits_ev l1 (by omega) hw1) (Ev.bind (Bare_ev _ (by omega) db) ?_)))
  have ka : (mkl (nvl (digs l0))).length ≤ 200 := by rw [mkl_length_le]; exact Nat.lt_of_lt_of_le (nvl_lt da) (Nat.pow_le_pow_right (by omega) la')
  have kb : (mkl (nvl (digs l1))).length ≤ 200 := by rw [mkl_length_le]; exact Nat.lt_of_lt_of_le (nvl_lt db) (Nat.pow_le_pow_right (by omega) lb')
  obtain ⟨x, hx⟩ : ∃ x, nvl (digs l0) = x := ⟨_, rfl⟩
  obtain ⟨y, hy⟩ : ∃ y, nvl (digs l1) = y := ⟨_, rfl⟩
  rw [hx] at ka ⊢
  rw [hy] at kb ⊢
  have E := cmps_end (mkl x) (mkl y) ka kb (dig_mkl x) (dig_mkl y) m
  rw [nvl_mkl, nvl_mkl] at E
  simp only [S_size]
  by_cases h5 : (mkl x).length < (mkl y).length
  · refine Ev.if_pos (by omega) ?_
    have := len_lt h5
    rw [show cmpN x y = -1 by unfold cmpN; rw [_root_.if_pos this]] at E
    exact E
  · refine Ev.if_neg (by omega) ?_
    by_cases h6 : (mkl y).length < (mkl x).length
    · refine Ev.if_pos (by omega) ?_
      have := len_lt h6
      rw [show cmpN x y = 1 by unfold cmpN; rw [_root_.if_neg (by omega), _root_.if_pos this]] at E
      exact E
    · refine Ev.if_neg (by omega) ?_
      have hf := firstD_cmp (mkl x) (mkl y) (dig_mkl x) (dig_mkl y) (by omega)
      rw [nvl_mkl, nvl_mkl] at hf
      exact cmps_loop (mkl x) (mkl y) ka (by omega) m (cmpN x y) E (mkl x).length 0 0 (by omega) (fun _ => hf) (fun h => absurd rfl h)
end Go.Proofs.YtefacokhmmpiaaaDoor.P
