import Derived.Test.YtoegmienlhgjnaaDoorSA
import Derived.Test.YtoegmienlhgjnaaDoorMA
import Derived.Test.YtoegmienlhgjnaaDoorPx11
import Derived.Test.YtoegmienlhgjnaaDoorPx13
import Derived.Test.YtoegmienlhgjnaaDoorPx2
import Derived.Test.YtoegmienlhgjnaaDoorPx4
namespace Go.Proofs.YtoegmienlhgjnaaDoor.P
open Go.RowKit Go.Proofs.YtoegmienlhgjnaaDoorW.PrintWords Go.Proofs.YtoegmienlhgjnaaDoorW.PrintLast Go.Proofs.YtoegmienlhgjnaaDoorW.PrintMore Go.Proofs.YtoegmienlhgjnaaDoor.FM
set_option linter.unusedVariables false
set_option linter.unusedSimpArgs false

/-- a decimal as the program holds it -/
def tri (d : D) : Bool × ByteArray × Int := (d.neg, S (mkl d.m), d.e)
theorem tri_D0 : tri D0 = (false, S [], 0) := by unfold tri D0; rw [mkl_zero]
theorem tri_inj {a b : D} : tri a = tri b ↔ a = b := by
  refine ⟨fun h => ?_, fun h => by rw [h]⟩
  obtain ⟨n1, m1, e1⟩ := a
  obtain ⟨n2, m2, e2⟩ := b
  unfold tri at h
  simp only [Prod.mk.injEq, S_inj, mkl_inj] at h
  obtain ⟨rfl, rfl, rfl⟩ := h
  rfl
theorem held_ev (e : Int) : dec_held.f e = some (held e) := by
  unfold dec_held.f held mn mx
  congr 1
  repeat' split
  all_goals omega
theorem Made_ev (neg : Bool) (l : List UInt8) (hl : l.length ≤ 1000000000000) (hd : Dig l) (e : Int) : Ev (fun k => dec_Made.f k neg (S l) e) (tri (nrm neg (nvl l) e)) := by
  unfold dec_Made.f
  refine Ev.bind (Trim_dig l hl hd) ?_
  obtain ⟨n, hn⟩ : ∃ n, nvl l = n := ⟨_, rfl⟩
  have hlen : (mkl n).length ≤ l.length := by rw [← hn]; exact mkl_length_le.2 (nvl_lt hd)
  rw [hn, S_toList]
  by_cases h0 : n = 0
  · refine Ev.if_pos (mkl_eq_nil.2 h0) ?_
    unfold nrm
    rw [_root_.if_pos h0, tri_D0]
    exact Ev.now _
  · refine Ev.if_neg (fun h => h0 (mkl_eq_nil.1 h)) ?_
    refine Ev.const (TrimRight_zero (mkl n) (by omega)) ?_
    refine Ev.const (held_ev e) ?_
    have hp : 0 < n := by omega
    have hl2 := mkl_len_st hp
    have hr := held_range e
    rw [tr_mkl]
    have hw : wrap64 (wrap64 (held e + ((S (mkl n)).size : Int)) - ((S (mkl (st n).1)).size : Int)) = held e + ((st n).2 : Int) := by
      rw [S_size, S_size, w64 (x := held e + ((mkl n).length : Int)) (by omega) (by omega), w64 (by omega) (by omega)]
      omega
    rw [hw]
    refine Ev.const (held_ev _) ?_
    unfold nrm
    rw [_root_.if_neg h0]
    exact Ev.now _
theorem Made_not (neg : Bool) (l : List UInt8) (hl : l.length ≤ 1000000000000) (hd : ¬ Dig l) (e : Int) : Ev (fun k => dec_Made.f k neg (S l) e) (tri D0) := by
  unfold dec_Made.f
  refine Ev.bind (Trim_not l hl hd) (Ev.if_pos (by rw [S_toList]) ?_)
  rw [tri_D0]
  exact Ev.now _
theorem Norm_ev (neg : Bool) (l : List UInt8) (hl : l.length ≤ 1000000000000) (hd : Dig l) (e : Int) : Ev (fun k => dec_Dec_Norm.f k neg (S l) e) (tri (nrm neg (nvl l) e)) := by
  unfold dec_Dec_Norm.f
  exact Ev.bind (Made_ev neg l hl hd e) (Ev.now _)
theorem Zero_ev (neg : Bool) (l : List UInt8) (hl : l.length ≤ 1000000000000) (hd : Dig l) (e : Int) : Ev (fun k => dec_Dec_Zero.f k neg (S l) e) (decide (nvl l = 0)) := by
  unfold dec_Dec_Zero.f
  refine Ev.bind (Trim_dig l hl hd) ?_
  rw [S_toList]
  have e1 : (mkl (nvl l) == ([] : List UInt8)) = decide (nvl l = 0) := by
    by_cases h : nvl l = 0
    · rw [h, mkl_zero]; rfl
    · rw [decide_eq_false h]; exact beq_eq_false_iff_ne.2 (fun h2 => h (mkl_eq_nil.1 h2))
  rw [e1]
  exact Ev.now _
theorem Zero_not (neg : Bool) (l : List UInt8) (hl : l.length ≤ 1000000000000) (hd : ¬ Dig l) (e : Int) : Ev (fun k => dec_Dec_Zero.f k neg (S l) e) true := by
  unfold dec_Dec_Zero.f
  refine Ev.bind (Trim_not l hl hd) ?_
  rw [S_toList]
  exact Ev.now _
/-! the decimals that the program holds: their digits are few enough -/
/-- as many digits as a decimal may have here -/
def Few (d : D) : Prop := (mkl d.m).length ≤ 100000000 ∧ -30000 ≤ d.e ∧ d.e ≤ 30000
theorem few_nrm {neg : Bool} {n : Nat} {e : Int} (h : (mkl n).length ≤ 100000000) : Few (nrm neg n e) := by
  have := nrm_e_range neg n e
  refine ⟨?_, this.1, this.2⟩
  rw [nrm_m]
  exact Nat.le_trans (mkl_length_mono (st_le n)) h
theorem few_dig {neg : Bool} {l : List UInt8} {e : Int} (h : l.length ≤ 100000000) (hd : Dig l) : Few (nrm neg (nvl l) e) :=
  few_nrm (Nat.le_trans (mkl_length_le.2 (nvl_lt hd)) h)
theorem tri1 (d : D) : (tri d).1 = d.neg := rfl
theorem tri2 (d : D) : (tri d).2.1 = S (mkl d.m) := rfl
theorem tri3 (d : D) : (tri d).2.2 = d.e := rfl
theorem Made_tri (neg : Bool) (m : Nat) (hl : (mkl m).length ≤ 1000000000000) (e : Int) : Ev (fun k => dec_Made.f k neg (S (mkl m)) e) (tri (nrm neg m e)) := by
  have h := Made_ev neg (mkl m) hl (dig_mkl _) e
  rwa [nvl_mkl] at h
theorem Norm_tri (d : D) (h : Few d) : Ev (fun k => dec_Dec_Norm.f k (tri d).1 (tri d).2.1 (tri d).2.2) (tri (nrm d.neg d.m d.e)) := by
  have hh := Norm_ev d.neg (mkl d.m) (by have := h.1; omega) (dig_mkl _) d.e
  rwa [nvl_mkl] at hh
theorem Zero_tri (d : D) (h : Few d) : Ev (fun k => dec_Dec_Zero.f k (tri d).1 (tri d).2.1 (tri d).2.2) (decide (d.m = 0)) := by
  have hh := Zero_ev d.neg (mkl d.m) (by have := h.1; omega) (dig_mkl _) d.e
  rwa [nvl_mkl] at hh
theorem Minus_ev (neg : Bool) (l : List UInt8) (hl : l.length ≤ 1000000000000) (hd : Dig l) (e : Int) : Ev (fun k => dec_Dec_Minus.f k neg (S l) e) (tri (nrm (!neg) (nvl l) e)) := by
  unfold dec_Dec_Minus.f
  exact Ev.bind (Made_ev (!neg) l hl hd e) (Ev.now _)
theorem Minus_tri (d : D) (h : Few d) : Ev (fun k => dec_Dec_Minus.f k (tri d).1 (tri d).2.1 (tri d).2.2) (tri (nrm (!d.neg) d.m d.e)) := by
  have hh := Minus_ev d.neg (mkl d.m) (by have := h.1; omega) (dig_mkl _) d.e
  rwa [nvl_mkl] at hh
/-- the first digit's place -/
def magD (d : D) : Int × Bool := if d.m = 0 then (0, false) else (d.e + (mkl d.m).length - 1, true)
theorem Mag_ev (neg : Bool) (l : List UInt8) (hl : l.length ≤ 100000000) (hd : Dig l) (e : Int) : Ev (fun r => dec_Dec_Mag.f r neg (S l) e) (magD (nrm neg (nvl l) e)) := by
  unfold dec_Dec_Mag.f
  have hf := few_dig (neg := neg) (e := e) hl hd
  refine Ev.bind (Norm_ev neg l (by omega) hd e) ?_
  obtain ⟨d, hdd⟩ : ∃ d, nrm neg (nvl l) e = d := ⟨_, rfl⟩
  rw [hdd] at hf ⊢
  refine Ev.bind (Zero_tri d hf) ?_
  obtain ⟨h1, h2, h3⟩ := hf
  unfold magD
  by_cases h0 : d.m = 0
  · rw [decide_eq_true h0, _root_.if_pos h0]
    exact Ev.if_pos rfl (Ev.now _)
  · rw [decide_eq_false h0, _root_.if_neg h0]
    refine Ev.if_neg (by decide) ?_
    rw [tri3, tri2, S_size, w64 (x := d.e + _) (by omega) (by omega), w64 (by omega) (by omega)]
    exact Ev.now _
theorem Mag_tri (d : D) (h : Few d) : Ev (fun r => dec_Dec_Mag.f r (tri d).1 (tri d).2.1 (tri d).2.2) (magD (nrm d.neg d.m d.e)) := by
  have hh := Mag_ev d.neg (mkl d.m) h.1 (dig_mkl _) d.e
  rwa [nvl_mkl] at hh
theorem Parts_gen (k : Nat) (neg : Bool) (l : List UInt8) (e : Int) (d : D) (hf : Few d) (h0 : d.e < 0 ∨ 0 < d.m ∨ d.e = 0) (hn : Ev (fun r => dec_Dec_Norm.f r neg (S l) e) (tri d)) :
    Ev (fun r => dec_Dec_Parts.f r neg (S l) e) (S (mkl (wholeN d.m d.e)), S (partL d.m d.e)) := by
  unfold dec_Dec_Parts.f
  obtain ⟨h1, h2, h3⟩ := hf
  refine Ev.bind hn ?_
  rw [tri2, tri3, S_size]
  by_cases he : d.e ≥ 0
  · refine Ev.if_pos he (Ev.const (Zeros_ev _) (Ev.if_pos (by rw [S_size, zs_length]; omega) ?_))
    rw [S_append, show min d.e.toNat 60000 = d.e.toNat by omega]
    unfold wholeN partL
    rw [_root_.if_pos he, _root_.if_pos he]
    have hm : mkl d.m ++ zs d.e.toNat = mkl (d.m * 10 ^ d.e.toNat) := by
      rcases Nat.eq_zero_or_pos d.m with hm | hm
      · rw [hm, Nat.zero_mul, show d.e.toNat = 0 by omega]; simp
      · exact (mkl_mul_pow hm _).symm
    rw [hm]
    exact Ev.now _
  · refine Ev.if_neg he ?_
    have hz : wrap64 (wrap64 (-d.e) - ((mkl d.m).length : Int)) = -d.e - (mkl d.m).length := by
      rw [w64 (x := -d.e) (by omega) (by omega), w64 (by omega) (by omega)]
    rw [hz]
    refine Ev.const (Zeros_ev _) ?_
    rw [show min (-d.e - ((mkl d.m).length : Int)).toNat 60000 = (-d.e).toNat - (mkl d.m).length by omega]
    have hp : zs ((-d.e).toNat - (mkl d.m).length) ++ mkl d.m = padL (-d.e).toNat d.m := rfl
    rw [S_append, hp]
    have hpl := padL_length (-d.e).toNat d.m
    obtain ⟨q, hq⟩ : ∃ q, (-d.e).toNat = q := ⟨_, rfl⟩
    rw [hq] at hpl ⊢
    have hcut : wrap64 (((S (padL q d.m)).size : Int) + d.e) = (((padL q d.m).length - q : Nat) : Int) := by
      rw [S_size, w64 (by omega) (by omega)]; omega
    rw [hcut, S_size, S_size, zs_length]
    refine Ev.if_pos (by omega) (Ev.if_pos (by omega) (Ev.if_pos (by omega) ?_))
    rw [Int.toNat_natCast, S_extract, List.drop_zero, S_extract, List.take_length]
    have ht := Trim_dig ((padL q d.m).take ((padL q d.m).length - q)) (by rw [List.length_take]; omega) ((dig_padL _ _).take _)
    rw [(nvl_take_drop (dig_padL q d.m) (q := q) (by omega)).1, nvl_padL] at ht
    refine Ev.bind ht ?_
    unfold wholeN partL
    rw [_root_.if_neg he, _root_.if_neg he, hq]
    exact Ev.now _
theorem nrm_e_zero {neg : Bool} {n : Nat} {e : Int} : (nrm neg n e).e < 0 ∨ 0 < (nrm neg n e).m ∨ (nrm neg n e).e = 0 := by
  rcases Nat.eq_zero_or_pos n with rfl | h
  · rw [nrm_zero]; exact .inr (.inr rfl)
  · exact .inr (.inl (by rw [nrm_m]; exact st_pos h))
theorem Parts_ev (neg : Bool) (l : List UInt8) (hl : l.length ≤ 100000000) (hd : Dig l) (e : Int) :
    Ev (fun r => dec_Dec_Parts.f r neg (S l) e) (S (mkl (wholeN (nrm neg (nvl l) e).m (nrm neg (nvl l) e).e)), S (partL (nrm neg (nvl l) e).m (nrm neg (nvl l) e).e)) :=
  Parts_gen 0 neg l e _ (few_dig hl hd) nrm_e_zero (Norm_ev neg l (by omega) hd e)
theorem Parts_tri (d : D) (h : Few d) : Ev (fun r => dec_Dec_Parts.f r (tri d).1 (tri d).2.1 (tri d).2.2) (S (mkl (wholeN (nrm d.neg d.m d.e).m (nrm d.neg d.m d.e).e)), S (partL (nrm d.neg d.m d.e).m (nrm d.neg d.m d.e).e)) := by
  have hh := Parts_ev d.neg (mkl d.m) h.1 (dig_mkl _) d.e
  rwa [nvl_mkl] at hh
theorem sign_ev (d : D) : dec_Dec_sign.f (tri d).1 (tri d).2.1 (tri d).2.2 = some (S (if d.neg = true then [45] else [])) := by
  unfold dec_Dec_sign.f
  rw [tri1]
  split <;> rfl
/-- the text of a decimal without a power -/
def plainL (d : D) : List UInt8 :=
  (if d.neg = true then [45] else []) ++ (if mkl (wholeN d.m d.e) = [] then [48] else mkl (wholeN d.m d.e)) ++ (if partL d.m d.e = [] then [] else 46 :: partL d.m d.e)
theorem wholeN_len_le {d : D} (h : Few d) : (mkl (wholeN d.m d.e)).length ≤ 100030000 := by
  obtain ⟨h1, h2, h3⟩ := h
  unfold wholeN
  split
  · rcases Nat.eq_zero_or_pos d.m with hm | hm
    · rw [hm, Nat.zero_mul]; simp
    · rw [mkl_len_mul hm]; omega
  · exact Nat.le_trans (mkl_length_mono (Nat.div_le_self _ _)) (by omega)
theorem Plain_ev (neg : Bool) (l : List UInt8) (hl : l.length ≤ 100000000) (hd : Dig l) (e : Int) : Ev (fun r => dec_Dec_Plain.f r neg (S l) e) (S (plainL (nrm neg (nvl l) e))) := by
  unfold dec_Dec_Plain.f
  refine Ev.bind (Norm_ev neg l (by omega) hd e) ?_
  have hf := few_dig (neg := neg) (e := e) hl hd
  have hi := nrm_idem (nvl l) neg e
  obtain ⟨d, hdd⟩ : ∃ d, nrm neg (nvl l) e = d := ⟨_, rfl⟩
  rw [hdd] at hf hi ⊢
  have hp := Parts_tri d hf
  rw [hi] at hp
  refine Ev.bind hp ?_
  have l1 := wholeN_len_le hf
  have l2 := partL_length d.m d.e
  obtain ⟨h1, h2, h3⟩ := hf
  unfold plainL
  obtain ⟨w, hw⟩ : ∃ w, mkl (wholeN d.m d.e) = w := ⟨_, rfl⟩
  obtain ⟨p, hp⟩ : ∃ p, partL d.m d.e = p := ⟨_, rfl⟩
  rw [hw] at l1 ⊢
  rw [hp] at l2 ⊢
  simp only [S_toList]
  have c0 : ((⟨#[48]⟩ : ByteArray)) = S [48] := rfl
  have cp : ((⟨#[46]⟩ : ByteArray)) = S [46] := rfl
  obtain ⟨sg, hs⟩ : ∃ s, (if d.neg = true then [(45 : UInt8)] else []) = s := ⟨_, rfl⟩
  have lsg : sg.length ≤ 1 := by rw [← hs]; split <;> simp
  have hsign := sign_ev d
  rw [hs] at hsign ⊢
  rw [c0, cp]
  by_cases w0 : w = []
  · refine Ev.if_pos w0 ?_
    rw [_root_.if_pos w0]
    by_cases p0 : p = []
    · refine Ev.if_pos p0 (Ev.const hsign ?_)
      rw [_root_.if_pos p0, p0]
      simp only [S_append, S_size, List.length_append, List.length_singleton, List.length_nil]
      exact Ev.if_pos (by omega) (Ev.if_pos (by omega) (Ev.now _))
    · refine Ev.if_neg p0 (Ev.if_pos (by rw [S_size]; omega) (Ev.const hsign ?_))
      rw [_root_.if_neg p0]
      simp only [S_append, S_size, List.length_append, List.length_singleton]
      exact Ev.if_pos (by omega) (Ev.if_pos (by omega) (Ev.now _))
  · refine Ev.if_neg w0 ?_
    rw [_root_.if_neg w0]
    by_cases p0 : p = []
    · refine Ev.if_pos p0 (Ev.const hsign ?_)
      rw [_root_.if_pos p0, p0]
      simp only [S_append, S_size, List.length_append, List.length_singleton, List.length_nil]
      exact Ev.if_pos (by omega) (Ev.if_pos (by omega) (Ev.now _))
    · refine Ev.if_neg p0 (Ev.if_pos (by rw [S_size]; omega) (Ev.const hsign ?_))
      rw [_root_.if_neg p0]
      simp only [S_append, S_size, List.length_append, List.length_singleton]
      exact Ev.if_pos (by omega) (Ev.if_pos (by omega) (Ev.now _))
theorem Plain_tri (d : D) (h : Few d) : Ev (fun r => dec_Dec_Plain.f r (tri d).1 (tri d).2.1 (tri d).2.2) (S (plainL (nrm d.neg d.m d.e))) := by
  have hh := Plain_ev d.neg (mkl d.m) h.1 (dig_mkl _) d.e
  rwa [nvl_mkl] at hh
end Go.Proofs.YtoegmienlhgjnaaDoor.P
