import Derived.Test.YtlkiaeipbekpkaaDoorD3
import Derived.Test.YtlkiaeipbekpkaaDoorPx16
import Derived.Test.YtlkiaeipbekpkaaDoorPx17
import Derived.Test.YtlkiaeipbekpkaaDoorPx2
import Derived.Test.YtlkiaeipbekpkaaDoorPx3
namespace Go.Proofs.YtlkiaeipbekpkaaDoor.P
open Go.RowKit Go.Proofs.YtlkiaeipbekpkaaDoorW.PrintWords Go.Proofs.YtlkiaeipbekpkaaDoorW.PrintLast Go.Proofs.YtlkiaeipbekpkaaDoorW.PrintMore Go.Proofs.YtlkiaeipbekpkaaDoor.FM
set_option linter.unusedVariables false
set_option linter.unusedSimpArgs false

theorem hin_digs {s W R : List UInt8} (hW : W ≠ []) (dW : Dig W) (hs : ∀ x ∈ s, ¬ (48 ≤ x.toNat ∧ x.toNat ≤ 57)) : hin s (W ++ R) = false := by
  cases W with
  | nil => exact absurd rfl hW
  | cons c t =>
    rw [List.cons_append, hin_cons]
    exact decide_eq_false (fun h => hs c h (dW c List.mem_cons_self))
/-- the power as it is written -/
def pwL (pw up : Bool) (sg Z : List UInt8) : List UInt8 := if pw = true then (if up = true then 69 else 101) :: (sg ++ Z) else []
def wrL (neg : Bool) (W P : List UInt8) (pt : Bool) (PW : List UInt8) : List UInt8 := (if neg = true then [45] else []) ++ (W ++ ((if pt = true then 46 :: P else []) ++ PW))
theorem hin_pw (s : List UInt8) (pw up : Bool) (sg Z : List UInt8) (h1 : (69 : UInt8) ∉ s) (h2 : (101 : UInt8) ∉ s) : hin s (pwL pw up sg Z) = false := by
  unfold pwL
  cases pw with
  | false => rfl
  | true =>
    rw [_root_.if_pos rfl, hin_cons]
    cases up with
    | true => exact decide_eq_false h1
    | false => exact decide_eq_false h2
theorem parses_parts (neg pt pw up : Bool) (W P sg Z : List UInt8) (dW : Dig W) (dP : Dig P) (dZ : Dig Z) (hW : W ≠ []) (hsg : sg = [] ∨ sg = [43] ∨ sg = [45]) (hZ : Z ≠ []) :
    hin [45] (wrL neg W P pt (pwL pw up sg Z)) = neg ∧ qW (wrL neg W P pt (pwL pw up sg Z)) = W ∧ hin [46] (qr1 (wrL neg W P pt (pwL pw up sg Z))) = pt ∧ qP (wrL neg W P pt (pwL pw up sg Z)) = (if pt = true then P else []) ∧
    exX (qr2 (wrL neg W P pt (pwL pw up sg Z))) = pw ∧ exD (qr2 (wrL neg W P pt (pwL pw up sg Z))) = (if pw = true then Z else []) ∧ exR (qr2 (wrL neg W P pt (pwL pw up sg Z))) = [] ∧
    exN (qr2 (wrL neg W P pt (pwL pw up sg Z))) = (pw && decide (sg = [45])) := by
  have n45 : ∀ R, hin [45] (W ++ R) = false := fun R => hin_digs hW dW (by decide)
  have e1 : hin [45] (wrL neg W P pt (pwL pw up sg Z)) = neg := by
    unfold wrL
    cases neg with
    | true => rfl
    | false => exact n45 _
  have e2 : qr0 (wrL neg W P pt (pwL pw up sg Z)) = W ++ ((if pt = true then 46 :: P else []) ++ pwL pw up sg Z) := by
    unfold qr0
    rw [e1]
    unfold wrL
    cases neg with
    | true => rfl
    | false => rfl
  have hR : hin [48, 49, 50, 51, 52, 53, 54, 55, 56, 57] ((if pt = true then 46 :: P else []) ++ pwL pw up sg Z) = false := by
    cases pt with
    | true => rfl
    | false => exact hin_pw _ pw up sg Z (by decide) (by decide)
  have e3 := dg_append dW hR
  have e4 : qW (wrL neg W P pt (pwL pw up sg Z)) = W := by unfold qW; rw [e2]; exact e3.1
  have e5 : qr1 (wrL neg W P pt (pwL pw up sg Z)) = (if pt = true then 46 :: P else []) ++ pwL pw up sg Z := by unfold qr1; rw [e2]; exact e3.2
  have e6 : hin [46] (qr1 (wrL neg W P pt (pwL pw up sg Z))) = pt := by
    rw [e5]
    cases pt with
    | true => rfl
    | false => exact hin_pw _ pw up sg Z (by decide) (by decide)
  have hpw := hin_pw [48, 49, 50, 51, 52, 53, 54, 55, 56, 57] pw up sg Z (by decide) (by decide)
  have e7 : qP (wrL neg W P pt (pwL pw up sg Z)) = (if pt = true then P else []) ∧ qr2 (wrL neg W P pt (pwL pw up sg Z)) = pwL pw up sg Z := by
    unfold qP qr2
    rw [e6, e5]
    cases pt with
    | true =>
      rw [_root_.if_pos rfl, _root_.if_pos rfl, _root_.if_pos rfl, List.cons_append, List.tail_cons]
      exact dg_append dP hpw
    | false => exact ⟨rfl, rfl⟩
  have e8 : exX (pwL pw up sg Z) = pw := by
    unfold exX pwL
    cases pw with
    | false => rfl
    | true => cases up <;> rfl
  have n45z : hin [43, 45] Z = false := by
    have := hin_digs (s := [43, 45]) (R := []) hZ dZ (by decide)
    rwa [List.append_nil] at this
  have e9 : exS (sg ++ Z) = Z := by
    unfold exS
    rcases hsg with rfl | rfl | rfl
    · rw [List.nil_append, n45z, _root_.if_neg (by decide)]
    · rfl
    · rfl
  have ez : dg Z = Z ∧ dr Z = [] := by
    have := dg_append (rest := []) dZ rfl
    rwa [List.append_nil] at this
  refine ⟨e1, e4, e6, e7.1, ?_, ?_, ?_, ?_⟩
  · rw [e7.2]; exact e8
  · rw [e7.2]
    unfold exD
    rw [e8]
    cases pw with
    | false => rfl
    | true =>
      rw [_root_.if_pos rfl, _root_.if_pos rfl]
      unfold pwL
      rw [_root_.if_pos rfl, List.tail_cons, e9]
      exact ez.1
  · rw [e7.2]
    unfold exR
    rw [e8]
    cases pw with
    | false => rfl
    | true =>
      rw [_root_.if_pos rfl]
      unfold pwL
      rw [_root_.if_pos rfl, List.tail_cons, e9]
      exact ez.2
  · rw [e7.2]
    unfold exN
    rw [e8]
    cases pw with
    | false => rfl
    | true =>
      rw [Bool.true_and, Bool.true_and]
      unfold pwL
      rw [_root_.if_pos rfl, List.tail_cons]
      rcases hsg with rfl | rfl | rfl
      · have := hin_digs (s := [45]) (R := []) hZ dZ (by decide)
        rw [List.append_nil] at this
        rw [List.nil_append, this]; rfl
      · rfl
      · rfl
theorem write_l0 (x : List UInt8) (n : Nat) (hx : x.length ≤ 100000) (hn : n ≤ 100000) (b0 : Bool) (l1 l2 : List Int) (b3 : Bool) (i4 i5 i6 : Int) (b7 : Bool) (z : Nat) (hz : z ≤ 3) (hbits : Go.bits .and .i64 (i6 / 2) 3 = (z : Int)) (d : Nat) : ∀ j : Nat, j + d = z →
    Ev (fun k => florinlaw02_Text_Write.l0 k (S (x ++ zs j)) (n : Int) (j : Int) b0 l1 l2 b3 i4 i5 i6 b7) (S (x ++ zs z ++ (if n = 0 then [48] else mkl n))) := by
  have c0 : ((⟨#[48]⟩ : ByteArray)) = S [48] := rfl
  induction d with
  | zero =>
    intro j hj
    have hj2 : j = z := by omega
    rw [hj2]
    have hl : (mkl n).length ≤ 6 := mkl_length_le.2 (by omega)
    refine Ev.step (fun k => (by rw [florinlaw02_Text_Write.l0, hbits, _root_.if_neg (by omega), c0, S_append])) (Ev.bind (Of_ev n (by omega)) ?_)
    rw [S_toList]
    by_cases h0 : n = 0
    · refine Ev.if_pos (mkl_eq_nil.2 h0) (Ev.if_pos (by rw [S_size, List.length_append, zs_length]; omega) ?_)
      rw [_root_.if_pos h0]
      exact Ev.now _
    · refine Ev.if_neg (fun h => h0 (mkl_eq_nil.1 h)) (Ev.if_pos (by rw [S_size, S_size, List.length_append, zs_length]; omega) ?_)
      rw [_root_.if_neg h0, S_append]
      exact Ev.now _
  | succ d ih =>
    intro j hj
    have hw : wrap64 ((j : Int) + 1) = ((j + 1 : Nat) : Int) := by rw [w64 (by omega) (by omega)]; rfl
    have e0 : S (x ++ zs j ++ [48]) = S (x ++ zs (j + 1)) := by rw [List.append_assoc, zs_add j 1]; rfl
    refine Ev.step (fun k => (by rw [florinlaw02_Text_Write.l0, hbits, _root_.if_pos (by omega), c0, S_append, hw, e0])) ?_
    exact Ev.if_pos (by rw [S_size, List.length_append, zs_length]; omega) (ih (j + 1) (by omega))
/-- the text that is written -/
theorem Write_ev (b0 : Bool) (l1 l2 : List Int) (b3 : Bool) (i4 i5 i6 : Int) (b7 : Bool) (h1 : l1.length ≤ 1100) (h2 : l2.length ≤ 1100) (w1 : ∀ x ∈ l1, (Lit.int .u8 x).wf = true) (w2 : ∀ x ∈ l2, (Lit.int .u8 x).wf = true) (h4 : -11000 ≤ i4) (h5 : i4 ≤ 11000) :
    ∃ (up : Bool) (sg Z : List UInt8), Dig Z ∧ Z ≠ [] ∧ Z.length ≤ 20 ∧ nvl Z = i4.natAbs ∧ (sg = [] ∨ sg = [43] ∨ sg = [45]) ∧ (sg = [45] ↔ i4 < 0) ∧
      Ev (fun k => florinlaw02_Text_Write.f k b0 l1 l2 b3 i4 i5 i6 b7) (S (wrL b0 (digs l1) (digs l2) b3 (pwL b7 up sg Z))) := by
  obtain ⟨u, hu, hu2⟩ := low64 1 (by decide) i6 1 (by decide)
  obtain ⟨z, hz, hz2⟩ := low64 2 (by decide) (i6 / 2) 3 (by decide)
  obtain ⟨s, hs, hs2⟩ := low64 1 (by decide) i5 1 (by decide)
  replace hu2 : u < 2 := hu2
  replace hz2 : z < 4 := hz2
  replace hs2 : s < 2 := hs2
  have la := digs_length l1
  have lb := digs_length l2
  have ce : ((⟨#[101]⟩ : ByteArray)) = S [101] := rfl
  have cE : ((⟨#[69]⟩ : ByteArray)) = S [69] := rfl
  have cm : ((⟨#[45]⟩ : ByteArray)) = S [45] := rfl
  have cp : ((⟨#[43]⟩ : ByteArray)) = S [43] := rfl
  have cd : ((⟨#[46]⟩ : ByteArray)) = S [46] := rfl
  have c_ : ((⟨#[]⟩ : ByteArray)) = S [] := rfl
  obtain ⟨sg, hsg⟩ : ∃ sg : List UInt8, (if i4 < 0 then [45] else if s = 1 then [43] else []) = sg := ⟨_, rfl⟩
  have lsg : sg.length ≤ 1 := by rw [← hsg]; split; · simp
                                 split <;> simp
  have hD : Dig (if i4.natAbs = 0 then [48] else mkl i4.natAbs) := by
    split
    · unfold Dig; decide
    · exact dig_mkl _
  have hDn : nvl (if i4.natAbs = 0 then [48] else mkl i4.natAbs) = i4.natAbs := by
    split
    · rename_i h; rw [h]; rfl
    · exact nvl_mkl _
  have hDl : (if i4.natAbs = 0 then [48] else mkl i4.natAbs).length ≤ 6 := by
    split
    · simp
    · exact mkl_length_le.2 (by omega)
  have hD0 : (if i4.natAbs = 0 then [48] else mkl i4.natAbs) ≠ [] := by
    split
    · simp
    · rename_i h; exact fun h2 => h (mkl_eq_nil.1 h2)
  obtain ⟨D, hDe⟩ : ∃ D, (if i4.natAbs = 0 then [48] else mkl i4.natAbs) = D := ⟨_, rfl⟩
  rw [hDe] at hD hDn hDl hD0
  refine ⟨decide (u = 1), sg, zs z ++ D, (dig_zs _).append hD, by simp [hD0], by rw [List.length_append, zs_length]; omega, by rw [nvl_zs_append]; exact hDn, ?_, ?_, ?_⟩
  · rw [← hsg]; split
    · exact .inr (.inr rfl)
    · split
      · exact .inr (.inl rfl)
      · exact .inl rfl
  · rw [← hsg]; split
    · rename_i h; simp [h]
    · rename_i h
      split <;> simp [h]
  have j1 : ∀ x : List UInt8, x.length ≤ 5000 → Ev (fun k => florinlaw02_Text_Write.j1 k (S x) b0 l1 l2 b3 i4 i5 i6 b7) (S (x ++ pwL b7 (decide (u = 1)) sg (zs z ++ D))) := by
    intro x hx
    refine Ev.step (fun k => (by rw [florinlaw02_Text_Write.j1])) ?_
    cases b7 with
    | false =>
      refine Ev.if_neg (by decide) ?_
      unfold pwL
      rw [_root_.if_neg (by decide), List.append_nil]
      exact Ev.now _
    | true =>
      refine Ev.if_pos rfl ?_
      obtain ⟨c, hc⟩ : ∃ c : UInt8, (if decide (u = 1) = true then (69 : UInt8) else 101) = c := ⟨_, rfl⟩
      have hrd : rdOf ByteArray.empty ([(⟨#[101]⟩ : ByteArray), (⟨#[69]⟩ : ByteArray)] : List ByteArray) (Go.bits .and .i64 i6 1) = S [c] := by
        rw [hu]
        rcases (show u = 0 ∨ u = 1 by omega) with h | h
        · subst h; rw [← hc]; rfl
        · subst h; rw [← hc]; rfl
      refine Ev.const (a := ([(⟨#[101]⟩ : ByteArray), (⟨#[69]⟩ : ByteArray)] : List ByteArray)) rfl ?_
      rw [hrd, hu, hs]
      refine Ev.if_pos (by omega) (Ev.if_pos (by show (u : Int) < ((2 : Nat) : Int); omega) (Ev.if_pos (by rw [S_size, S_size]; simp; omega) ?_))
      have fin : ∀ (y : List UInt8) (m : Int), y = x ++ [c] ++ sg → m = (i4.natAbs : Int) → Ev (fun k => florinlaw02_Text_Write.j2 k (S y) m b0 l1 l2 b3 i4 i5 i6 true) (S (x ++ pwL true (decide (u = 1)) sg (zs z ++ D))) := by
        intro y m hy hm
        have hyl : y.length ≤ 5002 := by rw [hy, List.length_append, List.length_append, List.length_singleton]; omega
        have h := write_l0 y i4.natAbs (by omega) (by omega) b0 l1 l2 b3 i4 i5 i6 true z (by omega) hz z 0 (by omega)
        rw [hDe, zs_zero, List.append_nil] at h
        refine Ev.step (fun k => (by rw [florinlaw02_Text_Write.j2, hm])) ?_
        have e1 : x ++ pwL true (decide (u = 1)) sg (zs z ++ D) = y ++ zs z ++ D := by
          rw [hy]; unfold pwL; rw [_root_.if_pos rfl, hc]; simp
        rw [e1]
        exact h
      rw [S_append, cm, cp, S_append, S_append]
      by_cases hneg : i4 < 0
      · refine Ev.if_pos hneg (Ev.if_pos (by rw [S_size, List.length_append, List.length_singleton]; omega) (fin _ _ ?_ ?_))
        · rw [← hsg, _root_.if_pos hneg]
        · rw [w64 (by omega) (by omega)]; omega
      · refine Ev.if_neg hneg ?_
        by_cases hs1 : s = 1
        · refine Ev.if_pos (by omega) (Ev.if_pos (by rw [S_size, List.length_append, List.length_singleton]; omega) (fin _ _ ?_ ?_))
          · rw [← hsg, _root_.if_neg hneg, _root_.if_pos hs1]
          · omega
        · refine Ev.if_neg (by omega) (fin _ _ ?_ ?_)
          · rw [← hsg, _root_.if_neg hneg, _root_.if_neg hs1, List.append_nil]
          · omega
  have j0 : ∀ x : List UInt8, x.length ≤ 1 → Ev (fun k => florinlaw02_Text_Write.j0 k (S x) b0 l1 l2 b3 i4 i5 i6 b7) (S (x ++ (digs l1 ++ ((if b3 = true then 46 :: digs l2 else []) ++ pwL b7 (decide (u = 1)) sg (zs z ++ D))))) := by
    intro x hx
    refine Ev.step (fun k => (by rw [florinlaw02_Text_Write.j0])) (Ev.bind (Digits_ev l1 (by omega) w1) ?_)
    rw [S_append, cd, S_append]
    refine Ev.if_pos (by rw [S_size, S_size]; omega) ?_
    cases b3 with
    | true =>
      refine Ev.if_pos rfl (Ev.if_pos (by rw [S_size, List.length_append]; omega) (Ev.bind (Digits_ev l2 (by omega) w2) ?_))
      rw [S_append]
      refine Ev.if_pos (by rw [S_size, S_size, List.length_append, List.length_append, List.length_singleton]; omega) ?_
      have h := j1 (x ++ digs l1 ++ [46] ++ digs l2) (by rw [List.length_append, List.length_append, List.length_append, List.length_singleton]; omega)
      rw [_root_.if_pos rfl]
      rw [show x ++ (digs l1 ++ (46 :: digs l2 ++ pwL b7 (decide (u = 1)) sg (zs z ++ D))) = x ++ digs l1 ++ [46] ++ digs l2 ++ pwL b7 (decide (u = 1)) sg (zs z ++ D) by simp]
      exact h
    | false =>
      refine Ev.if_neg (by decide) ?_
      have h := j1 (x ++ digs l1) (by rw [List.length_append]; omega)
      rw [_root_.if_neg (by decide), List.nil_append, ← List.append_assoc]
      exact h
  unfold florinlaw02_Text_Write.f wrL
  rw [cm, c_]
  cases b0 with
  | true => exact Ev.if_pos rfl (j0 [45] (by simp))
  | false => exact Ev.if_neg (by decide) (j0 [] (by simp))
theorem parses_j0 (b0 : Bool) (l1 l2 : List Int) (b3 : Bool) (i4 i5 i6 : Int) (b7 : Bool) (h1 : l1.length ≤ 1100) (h2 : l2.length ≤ 1100) (w1 : ∀ x ∈ l1, (Lit.int .u8 x).wf = true) (w2 : ∀ x ∈ l2, (Lit.int .u8 x).wf = true) (h4 : -11000 ≤ i4) (h5 : i4 ≤ 11000)
    (hne : l1.length ≠ 0) (hpt : b3 = true → l2.length ≠ 0) : Ev (fun k => florinlaw02_DecParses.j0 k false b0 l1 l2 b3 i4 i5 i6 b7) true := by
  obtain ⟨up, sg, Z, dZ, hZ, lZ, vZ, hsg, hneg, hwr⟩ := Write_ev b0 l1 l2 b3 i4 i5 i6 b7 h1 h2 w1 w2 h4 h5
  have hne' : ∀ l : List Int, l.length ≠ 0 → digs l ≠ [] := fun l hl hh => hl (by rw [← digs_length, hh]; rfl)
  have la := digs_length l1
  have lb := digs_length l2
  have da := digs_dig l1
  have db := digs_dig l2
  obtain ⟨p1, p2, p3, p4, p5, p6, p7, p8⟩ := parses_parts b0 b3 b7 up (digs l1) (digs l2) sg Z da db dZ (hne' l1 hne) hsg hZ
  obtain ⟨T, hT⟩ : ∃ T, wrL b0 (digs l1) (digs l2) b3 (pwL b7 up sg Z) = T := ⟨_, rfl⟩
  have lT : T.length ≤ 10000 := by
    rw [← hT]
    unfold wrL pwL
    have : sg.length ≤ 1 := by rcases hsg with h | h | h <;> rw [h] <;> simp
    simp only [List.length_append]
    have e1 : (if b0 = true then [(45 : UInt8)] else []).length ≤ 1 := by split <;> simp
    have e2 : (if b3 = true then (46 : UInt8) :: digs l2 else []).length ≤ 1101 := by split <;> simp <;> omega
    have e3 : (if b7 = true then (if up = true then (69 : UInt8) else 101) :: (sg ++ Z) else []).length ≤ 30 := by split <;> simp <;> omega
    omega
  rw [hT] at p1 p2 p3 p4 p5 p6 p7 p8 hwr
  have hok : qOk T := by
    refine ⟨by rw [p2]; exact hne' l1 hne, ?_, ?_, p7⟩
    · intro h; rw [p3] at h; rw [p4, h, _root_.if_pos rfl]; exact hne' l2 (hpt h)
    · intro h; rw [p5] at h; rw [p6, h, _root_.if_pos rfl]; exact hZ
  have hlong : qLong T ↔ (1000 < (digs l1).length + (if b3 = true then digs l2 else []).length ∨ (b7 = true ∧ 10000 < i4.natAbs)) := by
    unfold qLong
    rw [p2, p4, p6]
    cases b7 with
    | true => rw [_root_.if_pos rfl, vZ]; simp
    | false => simp
  have hE : qE T = (if b7 = true then i4 else 0) := by
    unfold qE
    rw [p8, p6]
    cases b7 with
    | true =>
      rw [_root_.if_pos rfl, _root_.if_pos rfl, vZ, Bool.true_and]
      by_cases h : i4 < 0
      · rw [_root_.if_pos (decide_eq_true (hneg.2 h))]; omega
      · rw [_root_.if_neg (by rw [decide_eq_true_eq]; exact fun h2 => h (hneg.1 h2))]; omega
    | false => rfl
  have hDD : qD T = nrm b0 (nvl (digs l1 ++ (if b3 = true then digs l2 else []))) ((if b7 = true then i4 else 0) - ((if b3 = true then digs l2 else []).length : Int)) := by
    unfold qD; rw [p1, p2, p4, hE]
  obtain ⟨P, hP⟩ : ∃ P, (if b3 = true then digs l2 else []) = P := ⟨_, rfl⟩
  have lP : P.length ≤ 1100 := by rw [← hP]; split; · omega
                                  simp
  have dP : Dig P := by rw [← hP]; split; · exact db
                        exact Dig.nil
  rw [hP] at hlong hDD
  -- what is asked of the answer
  have ask : ∀ (x6 : Int) (r : Bool × ByteArray × Int × Int), x6 = -(P.length : Int) → ((qLong T ∧ r = (false, S [], 0, 2)) ∨ (¬ qLong T ∧ r = ((qD T).neg, S (mkl (qD T).m), (qD T).e, 0))) →
      Ev (fun k => florinlaw02_DecParses.j1 k r.2.2.2 (S (digs l1 ++ P)) x6 b0 l1 l2 b3 i4 i5 i6 b7 r.1 r.2.1 r.2.2.1) true := by
    intro x6 r hx6 hr
    have lng : qLong T → Ev (fun k => if r.2.2.2 = 2 then (some (!r.1 && (r.2.1.toList == ([] : List UInt8) && (r.2.2.1 == 0)))) else (some false)) true := by
      intro h
      rcases hr with ⟨_, hr⟩ | ⟨h2, _⟩
      · rw [hr]; exact Ev.if_pos rfl (Ev.yes (by rw [S_toList]; rfl))
      · exact absurd h h2
    have sht : ¬ qLong T → ∀ e, e = (if b7 = true then i4 else 0) - (P.length : Int) → Ev (fun k => if r.2.2.2 = 0 then ((dec_Made.f k b0 (S (digs l1 ++ P)) e).bind fun bt344 => (some (r.1 == bt344.1 && (r.2.1.toList == bt344.2.1.toList && (r.2.2.1 == bt344.2.2))))) else (some false)) true := by
      intro h e he
      rcases hr with ⟨h2, _⟩ | ⟨_, hr⟩
      · exact absurd h2 h
      · have hm := Made_ev b0 (digs l1 ++ P) (by rw [List.length_append]; omega) (da.append dP) e
        rw [he, ← hDD] at hm
        rw [hr, he]
        refine Ev.if_pos rfl (Ev.bind hm (Ev.yes ?_))
        unfold tri
        simp
    refine Ev.step (fun k => (by rw [florinlaw02_DecParses.j1])) ?_
    cases hb7 : b7 with
    | true =>
      rw [hb7] at hlong sht
      refine Ev.if_pos rfl ?_
      by_cases c1 : ((S (digs l1 ++ P)).size : Int) > 1000
      · rw [S_size, List.length_append] at c1
        exact Ev.if_pos (by rw [S_size, List.length_append]; omega) (lng (hlong.2 (.inl (by omega))))
      · refine Ev.if_neg c1 ?_
        rw [S_size, List.length_append] at c1
        by_cases c2 : i4 > 10000
        · exact Ev.if_pos c2 (lng (hlong.2 (.inr ⟨rfl, by omega⟩)))
        · refine Ev.if_neg c2 ?_
          by_cases c3 : i4 < -10000
          · exact Ev.if_pos c3 (lng (hlong.2 (.inr ⟨rfl, by omega⟩)))
          · refine Ev.if_neg c3 (sht ?_ _ ?_)
            · intro h; rcases hlong.1 h with h | ⟨_, h⟩ <;> omega
            · rw [_root_.if_pos rfl, w64 (by omega) (by omega)]; omega
    | false =>
      rw [hb7] at hlong sht
      refine Ev.if_neg (by decide) ?_
      by_cases c1 : ((S (digs l1 ++ P)).size : Int) > 1000
      · rw [S_size, List.length_append] at c1
        exact Ev.if_pos (by rw [S_size, List.length_append]; omega) (lng (hlong.2 (.inl (by omega))))
      · refine Ev.if_neg c1 ?_
        rw [S_size, List.length_append] at c1
        refine sht ?_ _ ?_
        · intro h; rcases hlong.1 h with h | ⟨h, _⟩
          · omega
          · cases h
        · rw [_root_.if_neg (by decide)]; omega
  have hparse : ∃ r : Bool × ByteArray × Int × Int, Ev (fun k => dec_Parse.f k (S T)) r ∧ ((qLong T ∧ r = (false, S [], 0, 2)) ∨ (¬ qLong T ∧ r = ((qD T).neg, S (mkl (qD T).m), (qD T).e, 0))) := by
    by_cases h : qLong T
    · exact ⟨_, Parse_long T (by omega) hok h, .inl ⟨h, rfl⟩⟩
    · exact ⟨_, Parse_ok T (by omega) hok h, .inr ⟨h, rfl⟩⟩
  obtain ⟨r, hr1, hr2⟩ := hparse
  refine Ev.step (fun k => (by rw [florinlaw02_DecParses.j0, _root_.if_neg (by decide)])) (Ev.bind hwr (Ev.bind hr1 (Ev.bind (Digits_ev l1 (by omega) w1) ?_)))
  cases hb3 : b3 with
  | true =>
    rw [hb3, _root_.if_pos rfl] at hP
    refine Ev.if_pos rfl (Ev.bind (Digits_ev l2 (by omega) w2) (Ev.if_pos (by rw [S_size, S_size]; omega) ?_))
    rw [S_append, hP]
    have h := ask (wrap64 (-(l2.length : Int))) r (by rw [w64 (by omega) (by omega), ← hP, lb]) hr2
    rw [hb3] at h
    exact h
  | false =>
    rw [hb3, _root_.if_neg (by decide)] at hP
    refine Ev.if_neg (by decide) ?_
    have h := ask 0 r (by rw [← hP]; rfl) hr2
    rw [hb3, ← hP, List.append_nil] at h
    exact h
theorem pureDecParses (b0 : Bool) (l1 l2 : List Int) (b3 : Bool) (i4 i5 i6 : Int) (b7 : Bool) (m1 : l1.length ≤ maxLen) (y1 : l1.length * 1 ≤ 140737488351232) (w1 : ∀ x ∈ l1, (Lit.int .u8 x).wf = true) (m2 : l2.length ≤ maxLen) (y2 : l2.length * 1 ≤ 140737488351232) (w2 : ∀ x ∈ l2, (Lit.int .u8 x).wf = true)
    (w4 : (Lit.int .i64 i4).wf = true) (w5 : (Lit.int .i64 i5).wf = true) (w6 : (Lit.int .i64 i6).wf = true) : ∃ k, florinlaw02_DecParses.f k b0 l1 l2 b3 i4 i5 i6 b7 = some true := by
  refine Ev.rounds ?_
  unfold florinlaw02_DecParses.f
  have yes : Ev (fun k => florinlaw02_DecParses.j0 k true b0 l1 l2 b3 i4 i5 i6 b7) true := Ev.step (f := fun _ => some true) (fun k => by rw [florinlaw02_DecParses.j0, _root_.if_pos rfl]) (Ev.now _)
  refine Ev.bind head02 (Ev.if_pos rfl ?_)
  by_cases c1 : (l1.length : Int) > 1100
  · exact Ev.if_pos c1 yes
  refine Ev.if_neg c1 ?_
  by_cases c2 : (l2.length : Int) > 1100
  · exact Ev.if_pos c2 yes
  refine Ev.if_neg c2 ?_
  by_cases c3 : (l1.length : Int) = 0
  · exact Ev.if_pos c3 yes
  refine Ev.if_neg c3 ?_
  have last : (b3 = true → l2.length ≠ 0) → Ev (fun k => if i4 < (-11000) then (florinlaw02_DecParses.j0 k true b0 l1 l2 b3 i4 i5 i6 b7) else (florinlaw02_DecParses.j0 k (decide (i4 > 11000)) b0 l1 l2 b3 i4 i5 i6 b7)) true := by
    intro hpt
    by_cases c4 : i4 < -11000
    · exact Ev.if_pos c4 yes
    refine Ev.if_neg c4 ?_
    by_cases c5 : i4 > 11000
    · rw [decide_eq_true c5]; exact yes
    rw [decide_eq_false c5]
    exact parses_j0 b0 l1 l2 b3 i4 i5 i6 b7 (by omega) (by omega) w1 w2 (by omega) (by omega) (by omega) hpt
  by_cases c6 : b3 = true
  · refine Ev.if_pos c6 ?_
    by_cases c7 : (l2.length : Int) = 0
    · exact Ev.if_pos c7 yes
    · exact Ev.if_neg c7 (last (fun _ => by omega))
  · exact Ev.if_neg c6 (last (fun h => absurd h c6))
end Go.Proofs.YtlkiaeipbekpkaaDoor.P
