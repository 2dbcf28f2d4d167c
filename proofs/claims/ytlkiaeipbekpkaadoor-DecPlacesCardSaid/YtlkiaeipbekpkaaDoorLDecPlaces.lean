import Derived.Test.YtlkiaeipbekpkaaDoorD3
import Derived.Test.YtlkiaeipbekpkaaDoorPx11
import Derived.Test.YtlkiaeipbekpkaaDoorPx12
import Derived.Test.YtlkiaeipbekpkaaDoorPx2
import Derived.Test.YtlkiaeipbekpkaaDoorPx5
namespace Go.Proofs.YtlkiaeipbekpkaaDoor.P
open Go.RowKit Go.Proofs.YtlkiaeipbekpkaaDoorW.PrintWords Go.Proofs.YtlkiaeipbekpkaaDoorW.PrintLast Go.Proofs.YtlkiaeipbekpkaaDoorW.PrintMore Go.Proofs.YtlkiaeipbekpkaaDoor.FM
set_option linter.unusedVariables false
set_option linter.unusedSimpArgs false

theorem pne3 (a b : D) : (!((tri a).1 == (tri b).1) || (!((tri a).2.1.toList == (tri b).2.1.toList) || (!((tri a).2.2 == (tri b).2.2)))) = decide (a ≠ b) := by
  rw [tri1, tri1, tri2, tri2, tri3, tri3, S_toList, S_toList]
  by_cases h : a = b
  · subst h; simp
  · rw [decide_eq_true h]
    by_cases h1 : a.neg = b.neg
    · by_cases h2 : a.m = b.m
      · have h3 : a.e ≠ b.e := fun h3 => h (by obtain ⟨_, _, _⟩ := a; obtain ⟨_, _, _⟩ := b; simp_all)
        simp [h3]
      · have h3 : mkl a.m ≠ mkl b.m := fun h => h2 (mkl_inj.1 h)
        simp [h3]
    · simp [h1]
/-- a decimal in its normal form, of few digits -/
structure Nf (d : D) : Prop where
  idem : nrm d.neg d.m d.e = d
  few : Few d
  len : (mkl d.m).length ≤ 1000
theorem Nf.plain {d : D} (h : Nf d) : Ev (fun r => dec_Dec_Plain.f r (tri d).1 (tri d).2.1 (tri d).2.2) (S (plainL d)) := by
  have := Plain_tri d h.few
  rwa [h.idem] at this
theorem Nf.mag {d : D} (h : Nf d) : Ev (fun r => dec_Dec_Mag.f r (tri d).1 (tri d).2.1 (tri d).2.2) (magD d) := by
  have := Mag_tri d h.few
  rwa [h.idem] at this
theorem mkl_first {m : Nat} (h : 0 < m) : ∃ c t, mkl m = c :: t ∧ (c.toNat : Int) ≠ 48 := by
  cases hc : mkl m with
  | nil => rw [mkl_eq_nil] at hc; omega
  | cons c t =>
    refine ⟨c, t, rfl, fun h2 => ?_⟩
    have hb := bare_mkl m
    rw [hc] at hb
    unfold Bare at hb
    apply hb
    have h3 : c = 48 := by
      apply UInt8.toNat_inj.1
      have : (48 : UInt8).toNat = 48 := rfl
      omega
    rw [h3]; rfl
theorem places_l0 {d : D} (h : Nf d) (hm : 0 < d.m) (he : d.e < 0) (hle : (mkl d.m).length ≤ (-d.e).toNat) (n : Nat) : ∀ i : Nat, i + n = (-d.e).toNat - (mkl d.m).length →
    Ev (fun k => florinlaw02_DecPlaces.l0 k (S (partL d.m d.e)) (S (plainL d)) (d.e + (mkl d.m).length - 1) true (-(i : Int)) (tri d).1 (tri d).2.1 (tri d).2.2) true := by
  have hp := partL_small he hle
  have hlen := partL_length d.m d.e
  have hf := h.few.2
  obtain ⟨c, t, hct, hc48⟩ := mkl_first hm
  have hpos : 0 < (mkl d.m).length := by rw [hct]; simp
  induction n with
  | zero =>
    intro i hi
    have hlt : i < (partL d.m d.e).length := by omega
    have hb : ¬ bt (S (partL d.m d.e)) (wrap64 (-(-(i : Int)))) = 48 := by
      rw [w64 (by omega) (by omega), Int.neg_neg, bt_S, Int.toNat_natCast, hp, List.getD_eq_getElem?_getD, List.getElem?_append_right (by rw [zs_length]; omega), zs_length, show i - ((-d.e).toNat - (mkl d.m).length) = 0 by omega, hct]
      exact hc48
    refine Ev.step (fun k => (by rw [florinlaw02_DecPlaces.l0])) ?_
    refine Ev.if_pos (by rw [w64 (by omega) (by omega), S_size]; omega) (Ev.if_pos (by rw [w64 (by omega) (by omega)]; omega) (Ev.if_neg hb ?_))
    refine Ev.bind h.plain (Ev.if_pos (by rw [S_toList]) (Ev.if_pos rfl (Ev.yes ?_)))
    apply beq_iff_eq.2
    rw [w64 (by omega) (by omega)]; omega
  | succ n ih =>
    intro i hi
    have hb : bt (S (partL d.m d.e)) (wrap64 (-(-(i : Int)))) = 48 := by
      rw [w64 (by omega) (by omega), Int.neg_neg, bt_S, Int.toNat_natCast, hp, List.getD_eq_getElem?_getD, List.getElem?_append_left (by rw [zs_length]; omega)]
      unfold zs
      rw [List.getElem?_replicate, _root_.if_pos (by omega)]; rfl
    have hw : wrap64 (-(i : Int) - 1) = -((i + 1 : Nat) : Int) := by rw [w64 (by omega) (by omega)]; omega
    refine Ev.step (fun k => (by rw [florinlaw02_DecPlaces.l0, hw])) ?_
    refine Ev.if_pos (by rw [w64 (by omega) (by omega), S_size]; omega) (Ev.if_pos (by rw [w64 (by omega) (by omega)]; omega) (Ev.if_pos hb ?_))
    exact ih (i + 1) (by omega)
theorem plainL_D0 : plainL D0 = [48] := by
  have h1 : wholeN D0.m D0.e = 0 := by decide
  have h2 : partL D0.m D0.e = [] := rfl
  unfold plainL
  rw [h1, h2, mkl_zero]
  rfl
theorem places_j3 {d : D} (h : Nf d) (h0 : d.m = 0 → d = D0) : Ev (fun k => florinlaw02_DecPlaces.j3 k (S (mkl (wholeN d.m d.e))) (S (partL d.m d.e)) (S (plainL d)) (tri d).1 (tri d).2.1 (tri d).2.2) true := by
  refine Ev.step (fun k => (by rw [florinlaw02_DecPlaces.j3])) (Ev.bind h.mag (Ev.bind (Zero_tri d h.few) ?_))
  have hlen := h.len
  have hf := h.few.2
  by_cases hz : d.m = 0
  · have hd := h0 hz
    have hpl := h.plain
    unfold magD
    rw [_root_.if_pos hz, decide_eq_true hz]
    refine Ev.if_pos rfl (Ev.if_neg (by dsimp only; decide) (Ev.if_pos rfl (Ev.bind hpl ?_)))
    rw [hd, plainL_D0, S_toList]
    refine Ev.if_pos rfl ?_
    have hs := String_small false [] (by decide) Dig.nil 0 (by rw [nvl_nil, nrm_zero]; decide) (by rw [nvl_nil, nrm_zero]; decide)
    rw [nvl_nil, nrm_zero] at hs
    rw [tri_D0]
    refine Ev.bind hs (Ev.yes ?_)
    rw [S_toList]; rfl
  · have hm : 0 < d.m := by omega
    unfold magD
    rw [_root_.if_neg hz, decide_eq_false hz]
    refine Ev.if_neg (by decide) ?_
    rw [S_toList]
    by_cases hw : mkl (wholeN d.m d.e) = []
    · have hw2 := (wholeN_zero hm).1 (mkl_eq_nil.1 hw)
      refine Ev.if_pos hw ?_
      have := places_l0 h hm hw2.1 hw2.2 ((-d.e).toNat - (mkl d.m).length) 0 (by omega)
      exact this
    · refine Ev.if_neg hw (Ev.bind h.plain (Ev.if_pos rfl (Ev.if_pos rfl (Ev.yes ?_))))
      have hl := wholeN_len (e := d.e) hm (fun h => hw (mkl_eq_nil.2 h))
      apply beq_iff_eq.2
      rw [S_size, w64 (by omega) (by omega)]
      dsimp only
      omega
theorem places_j0 {d : D} (h : Nf d) (h0 : d.m = 0 → d = D0) : Ev (fun k => florinlaw02_DecPlaces.j0 k (S (mkl (wholeN d.m d.e))) (S (partL d.m d.e)) false (tri d).1 (tri d).2.1 (tri d).2.2) true := by
  have hj3 := places_j3 h h0
  have hpl : plainL d = (if d.neg = true then [45] else []) ++ ((if mkl (wholeN d.m d.e) = [] then [48] else mkl (wholeN d.m d.e)) ++ (if partL d.m d.e = [] then [] else 46 :: partL d.m d.e)) := by
    unfold plainL; rw [List.append_assoc]
  have lw : (mkl (wholeN d.m d.e)).length ≤ 100030000 := wholeN_len_le h.few
  have lp := partL_length d.m d.e
  have hf := h.few.2
  have c0 : ((⟨#[48]⟩ : ByteArray)) = S [48] := rfl
  have cp : ((⟨#[46]⟩ : ByteArray)) = S [46] := rfl
  have cm : ((⟨#[45]⟩ : ByteArray)) = S [45] := rfl
  rw [hpl] at hj3
  obtain ⟨w, hw⟩ : ∃ w, mkl (wholeN d.m d.e) = w := ⟨_, rfl⟩
  obtain ⟨p, hp⟩ : ∃ p, partL d.m d.e = p := ⟨_, rfl⟩
  rw [hw] at hj3 lw ⊢
  rw [hp] at hj3 lp ⊢
  have j2 : ∀ T : List UInt8, T.length ≤ 100100000 → T = (if w = [] then [48] else w) ++ (if p = [] then [] else 46 :: p) → Ev (fun k => florinlaw02_DecPlaces.j2 k (S w) (S p) (S T) (tri d).1 (tri d).2.1 (tri d).2.2) true := by
    intro T hT hTe
    rw [← hTe] at hj3
    refine Ev.step (fun k => (by rw [florinlaw02_DecPlaces.j2, tri1, cm, S_append])) ?_
    by_cases hn : d.neg = true
    · rw [_root_.if_pos hn] at hj3
      rw [hn]
      refine Ev.if_pos rfl (Ev.if_pos (by rw [S_size]; omega) ?_)
      rw [tri1, hn] at hj3
      exact hj3
    · have hn2 : d.neg = false := Bool.eq_false_iff.2 hn
      rw [_root_.if_neg hn, List.nil_append, tri1, hn2] at hj3
      rw [hn2]
      exact Ev.if_neg (by decide) hj3
  have j1 : ∀ W : List UInt8, W.length ≤ 100030000 → W = (if w = [] then [48] else w) → Ev (fun k => florinlaw02_DecPlaces.j1 k (S w) (S p) (S W) (tri d).1 (tri d).2.1 (tri d).2.2) true := by
    intro W hW hWe
    refine Ev.step (fun k => (by rw [florinlaw02_DecPlaces.j1, S_toList, cp, S_append, S_append])) ?_
    by_cases hp0 : p = []
    · refine Ev.if_pos hp0 (j2 W (by omega) ?_)
      rw [_root_.if_pos hp0, List.append_nil]; exact hWe
    · refine Ev.if_neg hp0 (Ev.if_pos (by rw [S_size]; omega) (Ev.if_pos (by rw [S_size, S_size, List.length_append, List.length_singleton]; omega) (j2 _ ?_ ?_)))
      · rw [List.length_append, List.length_append, List.length_singleton]; omega
      · rw [_root_.if_neg hp0, ← hWe]; simp
  refine Ev.step (fun k => (by rw [florinlaw02_DecPlaces.j0, _root_.if_neg (by decide), S_toList, c0])) ?_
  by_cases hw0 : w = []
  · exact Ev.if_pos hw0 (j1 [48] (by simp) (by rw [_root_.if_pos hw0]))
  · exact Ev.if_neg hw0 (j1 w lw (by rw [_root_.if_neg hw0]))
theorem pureDecPlaces (a0 : Bool) (l : List Int) (e : Int) (h0 : l.length ≤ maxLen) (h1 : l.length * 1 ≤ 140737488351232) (hw : ∀ x ∈ l, (Lit.int .u8 x).wf = true) (he : (Lit.int .i64 e).wf = true) :
    ∃ k, florinlaw02_DecPlaces.f k a0 l e = some true := by
  refine Ev.rounds ?_
  unfold florinlaw02_DecPlaces.f
  refine Ev.bind head02 (Ev.if_pos rfl (Ev.const (Few_ev a0 l e 80 (by omega)) ?_))
  by_cases h : (l.length : Int) ≤ (80 : Nat) ∧ -((80 : Nat) : Int) ≤ e ∧ e ≤ (80 : Nat)
  case neg => exact Ev.if_neg (by simpa using h) (Ev.now _)
  refine Ev.if_pos (decide_eq_true h) ?_
  have hl : (digs l).length = l.length := digs_length l
  have hd := digs_dig l
  have hlen : (mkl (nvl (digs l))).length ≤ 80 := by have := mkl_length_le.2 (nvl_lt hd); omega
  refine Ev.bind (Make_ev a0 l e (by omega) hw) (Ev.bind (Norm_ev a0 (digs l) (by omega) hd e) (Ev.bind (Make_ev a0 l e (by omega) hw) (Ev.bind (Parts_ev a0 (digs l) (by omega) hd e) ?_)))
  have hN : Nf (nrm a0 (nvl (digs l)) e) := ⟨nrm_idem _ _ _, few_dig (by omega) hd, by rw [nrm_m]; have := mkl_length_mono (st_le (nvl (digs l))); omega⟩
  have hD : (nrm a0 (nvl (digs l)) e).m = 0 → nrm a0 (nvl (digs l)) e = D0 := fun h => by rw [nrm_m_zero.1 h, nrm_zero]
  have hmod : 0 < (nrm a0 (nvl (digs l)) e).m → (nrm a0 (nvl (digs l)) e).m % 10 ≠ 0 := fun h => nrm_mod a0 (Nat.pos_of_ne_zero fun h2 => by rw [nrm_m_zero.2 h2] at h; exact absurd h (by decide)) e
  obtain ⟨d, hdd⟩ : ∃ d, nrm a0 (nvl (digs l)) e = d := ⟨_, rfl⟩
  rw [hdd] at hN hD hmod ⊢
  have hf := hN.few.2
  have lw := wholeN_len_le hN.few
  have lp := partL_length d.m d.e
  have ht : Ev (fun k => num_Trim.f k (S (mkl (wholeN d.m d.e)))) (S (mkl (wholeN d.m d.e))) := by
    have := Trim_dig (mkl (wholeN d.m d.e)) (by omega) (dig_mkl _)
    rwa [nvl_mkl] at this
  refine Ev.bind ht (Ev.if_pos rfl ?_)
  have hm : Ev (fun k => dec_Made.f k d.neg (S (mkl (wholeN d.m d.e) ++ partL d.m d.e)) (-((partL d.m d.e).length : Int))) (tri d) := by
    have h := Made_ev d.neg (mkl (wholeN d.m d.e) ++ partL d.m d.e) (by rw [List.length_append]; omega) ((dig_mkl _).append (dig_partL _ _)) (-((partL d.m d.e).length : Int))
    rw [whole_part, nrm_shift (by omega) (by omega), show (-((partL d.m d.e).length : Int) + (d.e.toNat : Int)) = d.e by omega, hN.idem] at h
    exact h
  have hj0 := places_j0 hN hD
  dsimp only
  by_cases hp : ((S (partL d.m d.e)).size : Int) > 0
  · rw [S_size] at hp
    have heneg : d.e < 0 := by omega
    have hdm : 0 < d.m := by
      rcases Nat.eq_zero_or_pos d.m with h0 | h0
      · rw [hD h0] at heneg; exact absurd heneg (by decide)
      · exact h0
    refine Ev.if_pos hp (Ev.if_pos ?_ (Ev.if_pos ?_ (Ev.if_neg ?_ (Ev.if_pos (by rw [S_size, S_size]; omega) ?_))))
    · rw [S_size, w64 (by omega) (by omega)]; omega
    · rw [S_size, w64 (by omega) (by omega)]; omega
    · rw [S_size, w64 (by omega) (by omega), bt_S]
      intro h
      apply partL_last heneg (hmod hdm)
      rw [List.getLast?_eq_getElem?]
      rw [List.getD_eq_getElem?_getD, show (((partL d.m d.e).length : Int) - 1).toNat = (partL d.m d.e).length - 1 by omega, List.getElem?_eq_getElem (by omega)] at h
      rw [List.getElem?_eq_getElem (by omega)]
      congr 1
      apply UInt8.toNat_inj.1
      have : (48 : UInt8).toNat = 48 := rfl
      have h4 : (((partL d.m d.e)[(partL d.m d.e).length - 1]'(by omega)).toNat : Int) = 48 := h
      omega
    · rw [S_append, S_size]
      refine Ev.bind hm ?_
      rw [pne3, show decide (d ≠ d) = false by simp]
      exact hj0
  · refine Ev.if_neg hp (Ev.if_pos (by rw [S_size, S_size]; omega) ?_)
    rw [S_append, S_size]
    refine Ev.bind hm ?_
    rw [pne3, show decide (d ≠ d) = false by simp]
    exact hj0
end Go.Proofs.YtlkiaeipbekpkaaDoor.P
