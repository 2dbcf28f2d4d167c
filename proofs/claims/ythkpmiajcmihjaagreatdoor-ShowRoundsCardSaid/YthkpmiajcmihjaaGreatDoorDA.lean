import Derived.Test.YthkpmiajcmihjaaGreatDoorSA
import Derived.Test.YthkpmiajcmihjaaGreatDoorMA
import Derived.Test.YthkpmiajcmihjaaGreatDoorPx11
import Derived.Test.YthkpmiajcmihjaaGreatDoorPx12
import Derived.Test.YthkpmiajcmihjaaGreatDoorPx2
import Derived.Test.YthkpmiajcmihjaaGreatDoorPx4
import Derived.Test.YthkpmiajcmihjaaGreatDoorPx7
namespace Go.Proofs.YthkpmiajcmihjaaGreatDoor.P
open Go.RowKit Go.Proofs.YthkpmiajcmihjaaGreatDoorW.PrintWords Go.Proofs.YthkpmiajcmihjaaGreatDoorW.PrintLast Go.Proofs.YthkpmiajcmihjaaGreatDoorW.PrintMore Go.Proofs.YthkpmiajcmihjaaGreatDoor.FM
set_option linter.unusedVariables false
set_option linter.unusedSimpArgs false

/-- a decimal as the program holds it -/
def tri (d : D) : Bool × ByteArray × Int := (d.neg, S (mkl d.m), d.e)
theorem tri_D0 : tri D0 = (false, S [], 0) := by unfold tri D0; rw [mkl_zero]
theorem held_ev (e : Int) : dec_held.f e = some (held e) := by
  unfold dec_held.f held mn mx
  congr 1
  repeat' split
  all_goals omega
theorem Made_ev (neg : Bool) (l : List UInt8) (hl : l.length ≤ 1000000000000) (hd : Dig l) (e : Int) : Ev (fun k => dec_Made.f k neg (S l) e) (tri (nrm neg (nvl l) e)) := by
  unfold dec_Made.f
  refine Ev.bind (Trim_dig l hl hd) ?_
  obtain ⟨n, hn⟩ : ∃ n, nvl l = n := ⟨_, rfl⟩
  have hlen : (mkl n).length ≤ l.length := by rw [← hn]; exact mkl_length_le.2 (nvl_lt hd)
  rw [hn, S_toList]
  by_cases h0 : n = 0
  · refine Ev.if_pos (mkl_eq_nil.2 h0) ?_
    unfold nrm
    rw [_root_.if_pos h0, tri_D0]
    exact Ev.now _
  · refine Ev.if_neg (fun h => h0 (mkl_eq_nil.1 h)) ?_
    refine Ev.const (TrimRight_zero (mkl n) (by omega)) ?_
    refine Ev.const (held_ev e) ?_
    have hp : 0 < n := by omega
    have hl2 := mkl_len_st hp
    have hr := held_range e
    rw [tr_mkl]
    have hw : wrap64 (wrap64 (held e + ((S (mkl n)).size : Int)) - ((S (mkl (st n).1)).size : Int)) = held e + ((st n).2 : Int) := by
      rw [S_size, S_size, w64 (x := held e + ((mkl n).length : Int)) (by omega) (by omega), w64 (by omega) (by omega)]
      omega
    rw [hw]
    refine Ev.const (held_ev _) ?_
    unfold nrm
    rw [_root_.if_neg h0]
    exact Ev.now _
theorem Norm_ev (neg : Bool) (l : List UInt8) (hl : l.length ≤ 1000000000000) (hd : Dig l) (e : Int) : Ev (fun k => dec_Dec_Norm.f k neg (S l) e) (tri (nrm neg (nvl l) e)) := by
  unfold dec_Dec_Norm.f
  exact Ev.bind (Made_ev neg l hl hd e) (Ev.now _)
theorem Zero_ev (neg : Bool) (l : List UInt8) (hl : l.length ≤ 1000000000000) (hd : Dig l) (e : Int) : Ev (fun k => dec_Dec_Zero.f k neg (S l) e) (decide (nvl l = 0)) := by
  unfold dec_Dec_Zero.f
  refine Ev.bind (Trim_dig l hl hd) ?_
  rw [S_toList]
  have e1 : (mkl (nvl l) == ([] : List UInt8)) = decide (nvl l = 0) := by
    by_cases h : nvl l = 0
    · rw [h, mkl_zero]; rfl
    · rw [decide_eq_false h]; exact beq_eq_false_iff_ne.2 (fun h2 => h (mkl_eq_nil.1 h2))
  rw [e1]
  exact Ev.now _
/-! the decimals that the program holds: their digits are few enough -/
/-- as many digits as a decimal may have here -/
def Few (d : D) : Prop := (mkl d.m).length ≤ 100000000 ∧ -30000 ≤ d.e ∧ d.e ≤ 30000
theorem few_nrm {neg : Bool} {n : Nat} {e : Int} (h : (mkl n).length ≤ 100000000) : Few (nrm neg n e) := by
  have := nrm_e_range neg n e
  refine ⟨?_, this.1, this.2⟩
  rw [nrm_m]
  exact Nat.le_trans (mkl_length_mono (st_le n)) h
theorem few_dig {neg : Bool} {l : List UInt8} {e : Int} (h : l.length ≤ 100000000) (hd : Dig l) : Few (nrm neg (nvl l) e) :=
  few_nrm (Nat.le_trans (mkl_length_le.2 (nvl_lt hd)) h)
theorem tri1 (d : D) : (tri d).1 = d.neg := rfl
theorem tri2 (d : D) : (tri d).2.1 = S (mkl d.m) := rfl
theorem tri3 (d : D) : (tri d).2.2 = d.e := rfl
theorem Made_tri (neg : Bool) (m : Nat) (hl : (mkl m).length ≤ 1000000000000) (e : Int) : Ev (fun k => dec_Made.f k neg (S (mkl m)) e) (tri (nrm neg m e)) := by
  have h := Made_ev neg (mkl m) hl (dig_mkl _) e
  rwa [nvl_mkl] at h
theorem Norm_tri (d : D) (h : Few d) : Ev (fun k => dec_Dec_Norm.f k (tri d).1 (tri d).2.1 (tri d).2.2) (tri (nrm d.neg d.m d.e)) := by
  have hh := Norm_ev d.neg (mkl d.m) (by have := h.1; omega) (dig_mkl _) d.e
  rwa [nvl_mkl] at hh
theorem Zero_tri (d : D) (h : Few d) : Ev (fun k => dec_Dec_Zero.f k (tri d).1 (tri d).2.1 (tri d).2.2) (decide (d.m = 0)) := by
  have hh := Zero_ev d.neg (mkl d.m) (by have := h.1; omega) (dig_mkl _) d.e
  rwa [nvl_mkl] at hh
theorem Minus_ev (neg : Bool) (l : List UInt8) (hl : l.length ≤ 1000000000000) (hd : Dig l) (e : Int) : Ev (fun k => dec_Dec_Minus.f k neg (S l) e) (tri (nrm (!neg) (nvl l) e)) := by
  unfold dec_Dec_Minus.f
  exact Ev.bind (Made_ev (!neg) l hl hd e) (Ev.now _)
theorem Abs_ev (neg : Bool) (l : List UInt8) (hl : l.length ≤ 1000000000000) (hd : Dig l) (e : Int) : Ev (fun k => dec_Dec_Abs.f k neg (S l) e) (tri (nrm false (nvl l) e)) := by
  unfold dec_Dec_Abs.f
  exact Ev.bind (Made_ev false l hl hd e) (Ev.now _)
/-- times a power of ten -/
def scl (d : D) (k : Int) : D := nrm d.neg d.m (d.e + held k)
theorem Scale_ev (neg : Bool) (l : List UInt8) (hl : l.length ≤ 100000000) (hd : Dig l) (e k : Int) : Ev (fun r => dec_Dec_Scale.f r neg (S l) e k) (tri (scl (nrm neg (nvl l) e) k)) := by
  unfold dec_Dec_Scale.f
  obtain ⟨h1, h2, h3⟩ := few_dig (neg := neg) (e := e) hl hd
  have h4 := held_range k
  refine Ev.bind (Norm_ev neg l (by omega) hd e) (Ev.const (held_ev k) ?_)
  unfold scl
  rw [tri1, tri2, tri3, w64 (by omega) (by omega)]
  exact Ev.bind (Made_tri _ _ (by omega) _) (Ev.now _)
theorem Scale_tri (d : D) (h : Few d) (k : Int) : Ev (fun r => dec_Dec_Scale.f r (tri d).1 (tri d).2.1 (tri d).2.2 k) (tri (scl (nrm d.neg d.m d.e) k)) := by
  have hh := Scale_ev d.neg (mkl d.m) h.1 (dig_mkl _) d.e k
  rwa [nvl_mkl] at hh
/-- the first digit's place -/
def magD (d : D) : Int × Bool := if d.m = 0 then (0, false) else (d.e + (mkl d.m).length - 1, true)
theorem Mag_ev (neg : Bool) (l : List UInt8) (hl : l.length ≤ 100000000) (hd : Dig l) (e : Int) : Ev (fun r => dec_Dec_Mag.f r neg (S l) e) (magD (nrm neg (nvl l) e)) := by
  unfold dec_Dec_Mag.f
  have hf := few_dig (neg := neg) (e := e) hl hd
  refine Ev.bind (Norm_ev neg l (by omega) hd e) ?_
  obtain ⟨d, hdd⟩ : ∃ d, nrm neg (nvl l) e = d := ⟨_, rfl⟩
  rw [hdd] at hf ⊢
  refine Ev.bind (Zero_tri d hf) ?_
  obtain ⟨h1, h2, h3⟩ := hf
  unfold magD
  by_cases h0 : d.m = 0
  · rw [decide_eq_true h0, _root_.if_pos h0]
    exact Ev.if_pos rfl (Ev.now _)
  · rw [decide_eq_false h0, _root_.if_neg h0]
    refine Ev.if_neg (by decide) ?_
    rw [tri3, tri2, S_size, w64 (x := d.e + _) (by omega) (by omega), w64 (by omega) (by omega)]
    exact Ev.now _
theorem Mag_tri (d : D) (h : Few d) : Ev (fun r => dec_Dec_Mag.f r (tri d).1 (tri d).2.1 (tri d).2.2) (magD (nrm d.neg d.m d.e)) := by
  have hh := Mag_ev d.neg (mkl d.m) h.1 (dig_mkl _) d.e
  rwa [nvl_mkl] at hh
theorem Parts_gen (k : Nat) (neg : Bool) (l : List UInt8) (e : Int) (d : D) (hf : Few d) (h0 : d.e < 0 ∨ 0 < d.m ∨ d.e = 0) (hn : Ev (fun r => dec_Dec_Norm.f r neg (S l) e) (tri d)) :
    Ev (fun r => dec_Dec_Parts.f r neg (S l) e) (S (mkl (wholeN d.m d.e)), S (partL d.m d.e)) := by
  unfold dec_Dec_Parts.f
  obtain ⟨h1, h2, h3⟩ := hf
  refine Ev.bind hn ?_
  rw [tri2, tri3, S_size]
  by_cases he : d.e ≥ 0
  · refine Ev.if_pos he (Ev.const (Zeros_ev _) (Ev.if_pos (by rw [S_size, zs_length]; omega) ?_))
    rw [S_append, show min d.e.toNat 60000 = d.e.toNat by omega]
    unfold wholeN partL
    rw [_root_.if_pos he, _root_.if_pos he]
    have hm : mkl d.m ++ zs d.e.toNat = mkl (d.m * 10 ^ d.e.toNat) := by
      rcases Nat.eq_zero_or_pos d.m with hm | hm
      · rw [hm, Nat.zero_mul, show d.e.toNat = 0 by omega]; simp
      · exact (mkl_mul_pow hm _).symm
    rw [hm]
    exact Ev.now _
  · refine Ev.if_neg he ?_
    have hz : wrap64 (wrap64 (-d.e) - ((mkl d.m).length : Int)) = -d.e - (mkl d.m).length := by
      rw [w64 (x := -d.e) (by omega) (by omega), w64 (by omega) (by omega)]
    rw [hz]
    refine Ev.const (Zeros_ev _) ?_
    rw [show min (-d.e - ((mkl d.m).length : Int)).toNat 60000 = (-d.e).toNat - (mkl d.m).length by omega]
    have hp : zs ((-d.e).toNat - (mkl d.m).length) ++ mkl d.m = padL (-d.e).toNat d.m := rfl
    rw [S_append, hp]
    have hpl := padL_length (-d.e).toNat d.m
    obtain ⟨q, hq⟩ : ∃ q, (-d.e).toNat = q := ⟨_, rfl⟩
    rw [hq] at hpl ⊢
    have hcut : wrap64 (((S (padL q d.m)).size : Int) + d.e) = (((padL q d.m).length - q : Nat) : Int) := by
      rw [S_size, w64 (by omega) (by omega)]; omega
    rw [hcut, S_size, S_size, zs_length]
    refine Ev.if_pos (by omega) (Ev.if_pos (by omega) (Ev.if_pos (by omega) ?_))
    rw [Int.toNat_natCast, S_extract, List.drop_zero, S_extract, List.take_length]
    have ht := Trim_dig ((padL q d.m).take ((padL q d.m).length - q)) (by rw [List.length_take]; omega) ((dig_padL _ _).take _)
    rw [(nvl_take_drop (dig_padL q d.m) (q := q) (by omega)).1, nvl_padL] at ht
    refine Ev.bind ht ?_
    unfold wholeN partL
    rw [_root_.if_neg he, _root_.if_neg he, hq]
    exact Ev.now _
theorem nrm_e_zero {neg : Bool} {n : Nat} {e : Int} : (nrm neg n e).e < 0 ∨ 0 < (nrm neg n e).m ∨ (nrm neg n e).e = 0 := by
  rcases Nat.eq_zero_or_pos n with rfl | h
  · rw [nrm_zero]; exact .inr (.inr rfl)
  · exact .inr (.inl (by rw [nrm_m]; exact st_pos h))
theorem Parts_ev (neg : Bool) (l : List UInt8) (hl : l.length ≤ 100000000) (hd : Dig l) (e : Int) :
    Ev (fun r => dec_Dec_Parts.f r neg (S l) e) (S (mkl (wholeN (nrm neg (nvl l) e).m (nrm neg (nvl l) e).e)), S (partL (nrm neg (nvl l) e).m (nrm neg (nvl l) e).e)) :=
  Parts_gen 0 neg l e _ (few_dig hl hd) nrm_e_zero (Norm_ev neg l (by omega) hd e)
theorem Parts_tri (d : D) (h : Few d) : Ev (fun r => dec_Dec_Parts.f r (tri d).1 (tri d).2.1 (tri d).2.2) (S (mkl (wholeN (nrm d.neg d.m d.e).m (nrm d.neg d.m d.e).e)), S (partL (nrm d.neg d.m d.e).m (nrm d.neg d.m d.e).e)) := by
  have hh := Parts_ev d.neg (mkl d.m) h.1 (dig_mkl _) d.e
  rwa [nvl_mkl] at hh
theorem wholeN_len_le {d : D} (h : Few d) : (mkl (wholeN d.m d.e)).length ≤ 100030000 := by
  obtain ⟨h1, h2, h3⟩ := h
  unfold wholeN
  split
  · rcases Nat.eq_zero_or_pos d.m with hm | hm
    · rw [hm, Nat.zero_mul]; simp
    · rw [mkl_len_mul hm]; omega
  · exact Nat.le_trans (mkl_length_mono (Nat.div_le_self _ _)) (by omega)
end Go.Proofs.YthkpmiajcmihjaaGreatDoor.P
namespace Go.Proofs.YthkpmiajcmihjaaGreatDoor.P
open Go.RowKit Go.Proofs.YthkpmiajcmihjaaGreatDoorW.PrintWords Go.Proofs.YthkpmiajcmihjaaGreatDoorW.PrintLast Go.Proofs.YthkpmiajcmihjaaGreatDoorW.PrintMore Go.Proofs.YthkpmiajcmihjaaGreatDoor.FM
set_option linter.unusedVariables false
set_option linter.unusedSimpArgs false

end Go.Proofs.YthkpmiajcmihjaaGreatDoor.P
namespace Go.Proofs.YthkpmiajcmihjaaGreatDoor.P
open Go.RowKit Go.Proofs.YthkpmiajcmihjaaGreatDoorW.PrintWords Go.Proofs.YthkpmiajcmihjaaGreatDoorW.PrintLast Go.Proofs.YthkpmiajcmihjaaGreatDoorW.PrintMore Go.Proofs.YthkpmiajcmihjaaGreatDoor.FM
set_option linter.unusedVariables false
set_option linter.unusedSimpArgs false

/-! the reader of decimals -/
end Go.Proofs.YthkpmiajcmihjaaGreatDoor.P
namespace Go.Proofs.YthkpmiajcmihjaaGreatDoor.P
open Go.RowKit Go.Proofs.YthkpmiajcmihjaaGreatDoorW.PrintWords Go.Proofs.YthkpmiajcmihjaaGreatDoorW.PrintLast Go.Proofs.YthkpmiajcmihjaaGreatDoorW.PrintMore Go.Proofs.YthkpmiajcmihjaaGreatDoor.FM
set_option linter.unusedVariables false
set_option linter.unusedSimpArgs false

theorem both_ev (a b : D) (ha : Few a) (hb : Few b) : dec_both.f (tri a).1 (tri a).2.1 (tri a).2.2 (tri b).1 (tri b).2.1 (tri b).2.2 =
    some (S (mkl a.m ++ zs (a.e - min a.e b.e).toNat), S (mkl b.m ++ zs (b.e - min a.e b.e).toNat), min a.e b.e) := by
  obtain ⟨h1, h2, h3⟩ := ha
  obtain ⟨h4, h5, h6⟩ := hb
  have hm : mn a.e b.e = min a.e b.e := by unfold mn; split <;> omega
  unfold dec_both.f
  rw [tri2, tri3, tri2, tri3, hm]
  obtain ⟨e, he⟩ : ∃ e, min a.e b.e = e := ⟨_, rfl⟩
  rw [he, w64 (by omega) (by omega), w64 (by omega) (by omega), Zeros_ev, Option.bind_some, Zeros_ev, show min (a.e - e).toNat 60000 = (a.e - e).toNat by omega, show min (b.e - e).toNat 60000 = (b.e - e).toNat by omega]
  rw [_root_.if_pos (by rw [S_size, S_size, zs_length]; omega), Option.bind_some, _root_.if_pos (by rw [S_size, S_size, zs_length]; omega), S_append, S_append]
theorem Add_gen (na nb : Bool) (la lb : List UInt8) (ea eb : Int) (a b : D) (ha : Few a) (hb : Few b) (ra : Ev (fun k => dec_Dec_Norm.f k na (S la) ea) (tri a)) (rb : Ev (fun k => dec_Dec_Norm.f k nb (S lb) eb) (tri b)) :
    Ev (fun k => dec_Add.f k na (S la) ea nb (S lb) eb) (tri (addD a b)) := by
  unfold dec_Add.f
  refine Ev.bind ra (Ev.bind rb (Ev.const (both_ev a b ha hb) ?_))
  obtain ⟨h1, h2, h3⟩ := ha
  obtain ⟨h4, h5, h6⟩ := hb
  dsimp only
  rw [tri1, tri1]
  unfold addD
  obtain ⟨e, he⟩ : ∃ e, min a.e b.e = e := ⟨_, rfl⟩
  rw [he]
  have v1 : nvl (mkl a.m ++ zs (a.e - e).toNat) = a.m * 10 ^ (a.e - e).toNat := by rw [nvl_append_zs, nvl_mkl]
  have v2 : nvl (mkl b.m ++ zs (b.e - e).toNat) = b.m * 10 ^ (b.e - e).toNat := by rw [nvl_append_zs, nvl_mkl]
  have d1 : Dig (mkl a.m ++ zs (a.e - e).toNat) := (dig_mkl _).append (dig_zs _)
  have d2 : Dig (mkl b.m ++ zs (b.e - e).toNat) := (dig_mkl _).append (dig_zs _)
  have s1 : (mkl a.m ++ zs (a.e - e).toNat).length ≤ 100060000 := by rw [List.length_append, zs_length]; omega
  have s2 : (mkl b.m ++ zs (b.e - e).toNat).length ≤ 100060000 := by rw [List.length_append, zs_length]; omega
  obtain ⟨x, hx⟩ : ∃ x, mkl a.m ++ zs (a.e - e).toNat = x := ⟨_, rfl⟩
  obtain ⟨y, hy⟩ : ∃ y, mkl b.m ++ zs (b.e - e).toNat = y := ⟨_, rfl⟩
  rw [hx] at v1 d1 s1 ⊢
  rw [hy] at v2 d2 s2 ⊢
  rw [← v1, ← v2]
  clear hx hy v1 v2
  have l1 : (mkl (nvl x)).length ≤ 100060000 := Nat.le_trans (mkl_length_le.2 (nvl_lt d1)) s1
  have l2 : (mkl (nvl y)).length ≤ 100060000 := Nat.le_trans (mkl_length_le.2 (nvl_lt d2)) s2
  have lsub : ∀ p q : Nat, (mkl p).length ≤ 100060000 → (mkl (p - q)).length ≤ 100060000 := fun p q h => Nat.le_trans (mkl_length_mono (Nat.sub_le p q)) h
  by_cases hs : a.neg = b.neg
  · rw [_root_.if_pos hs]
    refine Ev.if_pos (by rw [hs]; simp) (Ev.bind (Add_ev x y (by unfold Sm; omega) (by unfold Sm; omega) d1 d2) ?_)
    refine Ev.bind (Made_tri a.neg (nvl x + nvl y) ?_ e) (Ev.now _)
    have hh : nvl x + nvl y < 10 ^ (max x.length y.length + 1) := by
      have e1 := Nat.lt_of_lt_of_le (nvl_lt d1) (Nat.pow_le_pow_right (by decide : 0 < 10) (Nat.le_max_left x.length y.length))
      have e2 := Nat.lt_of_lt_of_le (nvl_lt d2) (Nat.pow_le_pow_right (by decide : 0 < 10) (Nat.le_max_right x.length y.length))
      rw [Nat.pow_succ]; omega
    have := mkl_length_le.2 hh
    omega
  · rw [_root_.if_neg hs]
    refine Ev.if_neg (by simpa using hs) ?_
    by_cases hle : nvl y ≤ nvl x
    · rw [_root_.if_pos hle]
      refine Ev.bind (Sub_ev x y (by unfold Sm; omega) (by unfold Sm; omega) d1 d2 hle) (Ev.if_pos rfl ?_)
      exact Ev.bind (Made_tri a.neg (nvl x - nvl y) (by have := lsub (nvl x) (nvl y) l1; omega) e) (Ev.now _)
    · rw [_root_.if_neg hle]
      refine Ev.bind (Sub_less x y (by unfold Sm; omega) (by unfold Sm; omega) d1 d2 (by omega)) (Ev.if_neg (by dsimp only; decide) ?_)
      refine Ev.bind (Sub_ev y x (by unfold Sm; omega) (by unfold Sm; omega) d2 d1 (by omega)) ?_
      exact Ev.bind (Made_tri b.neg (nvl y - nvl x) (by have := lsub (nvl y) (nvl x) l2; omega) e) (Ev.now _)
/-- a decimal as it was made, or in its normal form: what it is -/
structure Val (neg : Bool) (l : List UInt8) (e : Int) (a : D) : Prop where
  dig : Dig l
  len : l.length ≤ 100000000
  nrm : FM.nrm neg (nvl l) e = a
theorem Val.few {neg : Bool} {l : List UInt8} {e : Int} {a : D} (h : Val neg l e a) : Few a := h.nrm ▸ few_dig h.len h.dig
theorem Val.norm {neg : Bool} {l : List UInt8} {e : Int} {a : D} (h : Val neg l e a) : Ev (fun k => dec_Dec_Norm.f k neg (S l) e) (tri a) := by
  have := Norm_ev neg l (by have := h.len; omega) h.dig e
  rwa [h.nrm] at this
theorem Add_val {na nb : Bool} {la lb : List UInt8} {ea eb : Int} {a b : D} (ha : Val na la ea a) (hb : Val nb lb eb b) : Ev (fun k => dec_Add.f k na (S la) ea nb (S lb) eb) (tri (addD a b)) :=
  Add_gen na nb la lb ea eb a b ha.few hb.few ha.norm hb.norm
theorem Val.again {neg : Bool} {l : List UInt8} {e : Int} {a : D} (h : Val neg l e a) : Val a.neg (mkl a.m) a.e a := by
  refine ⟨dig_mkl _, h.few.1, ?_⟩
  rw [nvl_mkl, ← h.nrm, nrm_idem]
/-- of few places -/
structure Plc (M K : Nat) (z : Int) : Prop where
  hK : K ≤ M
  hM : M ≤ 29000
  hz : z.natAbs < 10 ^ M
theorem Val.dk {M K : Nat} {z : Int} (h : Plc M K z) : Val (FM.dk K z).neg (mkl (FM.dk K z).m) (FM.dk K z).e (FM.dk K z) := by
  refine ⟨dig_mkl _, ?_, ?_⟩
  · rw [dk_m]
    have := mkl_length_le.2 (Nat.lt_of_le_of_lt (st_le z.natAbs) h.hz)
    have := h.hM
    omega
  · rw [nvl_mkl, dk_again h.hK h.hM h.hz, dk_neg, sg_of]
theorem Val.neg_eq {nb : Bool} {lb : List UInt8} {eb : Int} {K : Nat} {v : Int} (h : Val nb lb eb (FM.dk K v)) (hv : v ≠ 0) : nb = decide (v < 0) := by
  have h1 := congrArg D.neg h.nrm
  rw [nrm_neg, dk_neg] at h1
  have h2 : nvl lb ≠ 0 := by
    intro h0
    have h3 := h.nrm
    rw [h0, nrm_zero] at h3
    exact hv (dk_eq_D0.1 h3.symm)
  rw [decide_eq_true h2, Bool.and_true] at h1
  exact h1
theorem Val.sign {nb b : Bool} {lb : List UInt8} {eb : Int} {M K : Nat} {v : Int} (h : Val nb lb eb (FM.dk K v)) (hp : Plc M K v) : FM.nrm b (nvl lb) eb = FM.dk K (sg b v.natAbs) := by
  have h1 := nrm_again b nb (nvl lb) eb
  rw [h.nrm, dk_again hp.hK hp.hM hp.hz] at h1
  exact h1.symm
theorem Val.minus {nb : Bool} {lb : List UInt8} {eb : Int} {M K : Nat} {v : Int} (h : Val nb lb eb (FM.dk K v)) (hp : Plc M K v) : FM.nrm (!nb) (nvl lb) eb = FM.dk K (-v) := by
  rw [h.sign hp, sg_not]
  by_cases hv : v = 0
  · subst hv; rw [show (0 : Int).natAbs = 0 from rfl, sg_zero]
  · rw [h.neg_eq hv, sg_of]
theorem Plc.neg {M K : Nat} {z : Int} (h : Plc M K z) : Plc M K (-z) := ⟨h.hK, h.hM, by rw [Int.natAbs_neg]; exact h.hz⟩
theorem Plc.abs {M K : Nat} {z : Int} (h : Plc M K z) : Plc M K (z.natAbs : Int) := ⟨h.hK, h.hM, by rw [Int.natAbs_natCast]; exact h.hz⟩
theorem Plc.add {M K : Nat} {u v : Int} (h : Plc M K u) (h2 : Plc M K v) (hM : M + 1 ≤ 29000) : Plc (M + 1) K (u + v) :=
  ⟨Nat.le_succ_of_le h.hK, hM, by have := h.hz; have := h2.hz; rw [Nat.pow_succ]; omega⟩
theorem Plc.up {M M' K : Nat} {u : Int} (h : Plc M K u) (hle : M ≤ M') (hM : M' ≤ 29000) : Plc M' K u :=
  ⟨Nat.le_trans h.hK hle, hM, Nat.lt_of_lt_of_le h.hz (Nat.pow_le_pow_right (by decide) hle)⟩
theorem Add_dk {na nb : Bool} {la lb : List UInt8} {ea eb : Int} {M K : Nat} {u v : Int} (hu : Plc M K u) (hv : Plc M K v) (ha : Val na la ea (FM.dk K u)) (hb : Val nb lb eb (FM.dk K v)) :
    Ev (fun k => dec_Add.f k na (S la) ea nb (S lb) eb) (tri (FM.dk K (u + v))) := by
  have h := Add_val ha hb
  rwa [addD_dk hu.hK hu.hM hu.hz hv.hz] at h
theorem Minus_dk {nb : Bool} {lb : List UInt8} {eb : Int} {M K : Nat} {v : Int} (hv : Plc M K v) (hb : Val nb lb eb (FM.dk K v)) : Ev (fun k => dec_Dec_Minus.f k nb (S lb) eb) (tri (FM.dk K (-v))) := by
  have h := Minus_ev nb lb (by have := hb.len; omega) hb.dig eb
  rwa [hb.minus hv] at h
theorem Abs_dk {nb : Bool} {lb : List UInt8} {eb : Int} {M K : Nat} {v : Int} (hv : Plc M K v) (hb : Val nb lb eb (FM.dk K v)) : Ev (fun k => dec_Dec_Abs.f k nb (S lb) eb) (tri (FM.dk K v.natAbs)) := by
  have h := Abs_ev nb lb (by have := hb.len; omega) hb.dig eb
  rwa [hb.sign hv] at h
theorem Sub_dk {na nb : Bool} {la lb : List UInt8} {ea eb : Int} {M K : Nat} {u v : Int} (hu : Plc M K u) (hv : Plc M K v) (ha : Val na la ea (FM.dk K u)) (hb : Val nb lb eb (FM.dk K v)) :
    Ev (fun k => dec_Sub.f k na (S la) ea nb (S lb) eb) (tri (FM.dk K (u - v))) := by
  unfold dec_Sub.f
  refine Ev.bind (Minus_dk hv hb) (Ev.bind (Add_dk hu hv.neg ha (Val.dk hv.neg)) ?_)
  rw [show u + -v = u - v by omega]
  exact Ev.now _
def cmpI (u v : Int) : Int := if u = v then 0 else if u < v then -1 else 1
theorem Cmp_dk {na nb : Bool} {la lb : List UInt8} {ea eb : Int} {M K : Nat} {u v : Int} (hM : M + 1 ≤ 29000) (hu : Plc M K u) (hv : Plc M K v) (ha : Val na la ea (FM.dk K u)) (hb : Val nb lb eb (FM.dk K v)) :
    Ev (fun k => dec_Cmp.f k na (S la) ea nb (S lb) eb) (cmpI u v) := by
  unfold dec_Cmp.f
  have hs : Plc (M + 1) K (u - v) := by
    have := hu.add hv.neg hM
    rwa [show u + -v = u - v by omega] at this
  refine Ev.bind (Sub_dk hu hv ha hb) (Ev.bind (Zero_tri _ (Val.dk hs).few) ?_)
  unfold cmpI
  by_cases h : u = v
  · rw [_root_.if_pos h]
    exact Ev.if_pos (decide_eq_true (dk_m_zero.2 (by omega))) (Ev.now _)
  · rw [_root_.if_neg h]
    refine Ev.if_neg (by rw [decide_eq_true_eq, dk_m_zero]; omega) ?_
    rw [tri1, dk_neg]
    by_cases h2 : u < v
    · rw [_root_.if_pos h2]
      exact Ev.if_pos (decide_eq_true (by omega)) (Ev.now _)
    · rw [_root_.if_neg h2]
      exact Ev.if_neg (by rw [decide_eq_true_eq]; omega) (Ev.now _)
theorem Few_ev (neg : Bool) (l : List Int) (e : Int) (n : Nat) (hn : n ≤ 1000) : florinlaw02_Raw_Few.f neg l e (n : Int) = some (decide ((l.length : Int) ≤ n ∧ -(n : Int) ≤ e ∧ e ≤ n)) := by
  unfold florinlaw02_Raw_Few.f
  rw [w64 (by omega) (by omega)]
  by_cases h1 : (l.length : Int) ≤ n
  · rw [_root_.if_pos h1]
    by_cases h2 : e ≥ -(n : Int)
    · rw [_root_.if_pos h2]
      congr 1
      apply decide_eq_decide.2
      omega
    · rw [_root_.if_neg h2, decide_eq_false (by omega)]
  · rw [_root_.if_neg h1, decide_eq_false (by omega)]
theorem Make_ev (neg : Bool) (l : List Int) (e : Int) (hl : l.length ≤ 100000000) (hw : ∀ x ∈ l, (Lit.int .u8 x).wf = true) : Ev (fun k => florinlaw02_Raw_Make.f k neg l e) (neg, S (digs l), e) := by
  unfold florinlaw02_Raw_Make.f
  exact Ev.bind (Digits_ev l (by omega) hw) (Ev.now _)
end Go.Proofs.YthkpmiajcmihjaaGreatDoor.P
namespace Go.Proofs.YthkpmiajcmihjaaGreatDoor.P
open Go.RowKit Go.Proofs.YthkpmiajcmihjaaGreatDoorW.PrintWords Go.Proofs.YthkpmiajcmihjaaGreatDoorW.PrintLast Go.Proofs.YthkpmiajcmihjaaGreatDoorW.PrintMore Go.Proofs.YthkpmiajcmihjaaGreatDoor.FM
set_option linter.unusedVariables false
set_option linter.unusedSimpArgs false

theorem ane3 (a b : D) : (!((tri a).1 == (tri b).1) || (!((tri a).2.1.toList == (tri b).2.1.toList) || (!((tri a).2.2 == (tri b).2.2)))) = decide (a ≠ b) := by
  rw [tri1, tri1, tri2, tri2, tri3, tri3, S_toList, S_toList]
  by_cases h : a = b
  · subst h; simp
  · rw [decide_eq_true h]
    by_cases h1 : a.neg = b.neg
    · by_cases h2 : a.m = b.m
      · have h3 : a.e ≠ b.e := fun h3 => h (by obtain ⟨_, _, _⟩ := a; obtain ⟨_, _, _⟩ := b; simp_all)
        simp [h3]
      · have h3 : mkl a.m ≠ mkl b.m := fun h => h2 (mkl_inj.1 h)
        simp [h3]
    · simp [h1]
/-- a decimal of few places, as a law makes it -/
structure Mk (K M : Nat) (neg : Bool) (l : List UInt8) (e : Int) (u : Int) : Prop where
  val : Val neg l e (FM.dk K u)
  plc : Plc M K u
  abs : nvl (l ++ zs (e + K).toNat) = u.natAbs
  sgn : u ≠ 0 → neg = decide (u < 0)
  len : l.length ≤ 1000
  lo : -(K : Int) ≤ e
  hi : e ≤ K
theorem mk_raw {K M : Nat} {neg : Bool} {l : List UInt8} {e : Int} (hd : Dig l) (hl : l.length ≤ K) (h0 : -(K : Int) ≤ e) (h1 : e ≤ K) (hK : 3 * K ≤ M) (hM : M ≤ 1000) : Mk K M neg l e (raw K neg (nvl l) e) := by
  have hn := nvl_lt hd
  have h := nrm_raw (K := K) (k := l.length) (M := M) (neg := neg) (e := e) (by omega) (by omega) (by omega) hn (by omega)
  refine ⟨⟨hd, by omega, h.1⟩, ⟨by omega, by omega, h.2⟩, ?_, ?_, by omega, h0, h1⟩
  · rw [nvl_append_zs]; unfold raw; rw [sg_natAbs]
  · intro hu
    unfold raw at hu ⊢
    have hpos : 0 < nvl l * 10 ^ (e + K).toNat := by
      rcases Nat.eq_zero_or_pos (nvl l * 10 ^ (e + K).toNat) with h | h
      · rw [h, sg_zero] at hu; exact absurd rfl hu
      · exact h
    exact (sg_neg hpos).symm
theorem dk_norm {K M : Nat} {z : Int} (h : Plc M K z) : FM.dk K z = nrm (FM.dk K z).neg (FM.dk K z).m (FM.dk K z).e := by
  rw [dk_again h.hK h.hM h.hz, dk_neg, sg_of]
end Go.Proofs.YthkpmiajcmihjaaGreatDoor.P
