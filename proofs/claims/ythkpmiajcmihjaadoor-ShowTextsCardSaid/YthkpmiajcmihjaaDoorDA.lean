import Derived.Test.YthkpmiajcmihjaaDoorSA
import Derived.Test.YthkpmiajcmihjaaDoorMA
import Derived.Test.YthkpmiajcmihjaaDoorPx10
import Derived.Test.YthkpmiajcmihjaaDoorPx12
import Derived.Test.YthkpmiajcmihjaaDoorPx17
import Derived.Test.YthkpmiajcmihjaaDoorPx18
import Derived.Test.YthkpmiajcmihjaaDoorPx3
import Derived.Test.YthkpmiajcmihjaaDoorPx5
namespace Go.Proofs.YthkpmiajcmihjaaDoor.P
open Go.RowKit Go.Proofs.YthkpmiajcmihjaaDoorW.PrintWords Go.Proofs.YthkpmiajcmihjaaDoorW.PrintLast Go.Proofs.YthkpmiajcmihjaaDoorW.PrintMore Go.Proofs.YthkpmiajcmihjaaDoor.FM
set_option linter.unusedVariables false
set_option linter.unusedSimpArgs false

/-- a decimal as the program holds it -/
def tri (d : D) : Bool × ByteArray × Int := (d.neg, S (mkl d.m), d.e)
theorem tri_D0 : tri D0 = (false, S [], 0) := by unfold tri D0; rw [mkl_zero]
theorem held_ev (e : Int) : dec_held.f e = some (held e) := by
  unfold dec_held.f held mn mx
  congr 1
  repeat' split
  all_goals omega
theorem Made_ev (neg : Bool) (l : List UInt8) (hl : l.length ≤ 1000000000000) (hd : Dig l) (e : Int) : Ev (fun k => dec_Made.f k neg (S l) e) (tri (nrm neg (nvl l) e)) := by
  unfold dec_Made.f
  refine Ev.bind (Trim_dig l hl hd) ?_
  obtain ⟨n, hn⟩ : ∃ n, nvl l = n := ⟨_, rfl⟩
  have hlen : (mkl n).length ≤ l.length := by rw [← hn]; exact mkl_length_le.2 (nvl_lt hd)
  rw [hn, S_toList]
  by_cases h0 : n = 0
  · refine Ev.if_pos (mkl_eq_nil.2 h0) ?_
    unfold nrm
    rw [_root_.if_pos h0, tri_D0]
    exact Ev.now _
  · refine Ev.if_neg (fun h => h0 (mkl_eq_nil.1 h)) ?_
    refine Ev.const (TrimRight_zero (mkl n) (by omega)) ?_
    refine Ev.const (held_ev e) ?_
    have hp : 0 < n := by omega
    have hl2 := mkl_len_st hp
    have hr := held_range e
    rw [tr_mkl]
    have hw : wrap64 (wrap64 (held e + ((S (mkl n)).size : Int)) - ((S (mkl (st n).1)).size : Int)) = held e + ((st n).2 : Int) := by
      rw [S_size, S_size, w64 (x := held e + ((mkl n).length : Int)) (by omega) (by omega), w64 (by omega) (by omega)]
      omega
    rw [hw]
    refine Ev.const (held_ev _) ?_
    unfold nrm
    rw [_root_.if_neg h0]
    exact Ev.now _
theorem Norm_ev (neg : Bool) (l : List UInt8) (hl : l.length ≤ 1000000000000) (hd : Dig l) (e : Int) : Ev (fun k => dec_Dec_Norm.f k neg (S l) e) (tri (nrm neg (nvl l) e)) := by
  unfold dec_Dec_Norm.f
  exact Ev.bind (Made_ev neg l hl hd e) (Ev.now _)
theorem Zero_ev (neg : Bool) (l : List UInt8) (hl : l.length ≤ 1000000000000) (hd : Dig l) (e : Int) : Ev (fun k => dec_Dec_Zero.f k neg (S l) e) (decide (nvl l = 0)) := by
  unfold dec_Dec_Zero.f
  refine Ev.bind (Trim_dig l hl hd) ?_
  rw [S_toList]
  have e1 : (mkl (nvl l) == ([] : List UInt8)) = decide (nvl l = 0) := by
    by_cases h : nvl l = 0
    · rw [h, mkl_zero]; rfl
    · rw [decide_eq_false h]; exact beq_eq_false_iff_ne.2 (fun h2 => h (mkl_eq_nil.1 h2))
  rw [e1]
  exact Ev.now _
/-! the decimals that the program holds: their digits are few enough -/
/-- as many digits as a decimal may have here -/
def Few (d : D) : Prop := (mkl d.m).length ≤ 100000000 ∧ -30000 ≤ d.e ∧ d.e ≤ 30000
theorem few_nrm {neg : Bool} {n : Nat} {e : Int} (h : (mkl n).length ≤ 100000000) : Few (nrm neg n e) := by
  have := nrm_e_range neg n e
  refine ⟨?_, this.1, this.2⟩
  rw [nrm_m]
  exact Nat.le_trans (mkl_length_mono (st_le n)) h
theorem few_dig {neg : Bool} {l : List UInt8} {e : Int} (h : l.length ≤ 100000000) (hd : Dig l) : Few (nrm neg (nvl l) e) :=
  few_nrm (Nat.le_trans (mkl_length_le.2 (nvl_lt hd)) h)
theorem tri1 (d : D) : (tri d).1 = d.neg := rfl
theorem tri2 (d : D) : (tri d).2.1 = S (mkl d.m) := rfl
theorem tri3 (d : D) : (tri d).2.2 = d.e := rfl
theorem Made_tri (neg : Bool) (m : Nat) (hl : (mkl m).length ≤ 1000000000000) (e : Int) : Ev (fun k => dec_Made.f k neg (S (mkl m)) e) (tri (nrm neg m e)) := by
  have h := Made_ev neg (mkl m) hl (dig_mkl _) e
  rwa [nvl_mkl] at h
theorem Norm_tri (d : D) (h : Few d) : Ev (fun k => dec_Dec_Norm.f k (tri d).1 (tri d).2.1 (tri d).2.2) (tri (nrm d.neg d.m d.e)) := by
  have hh := Norm_ev d.neg (mkl d.m) (by have := h.1; omega) (dig_mkl _) d.e
  rwa [nvl_mkl] at hh
theorem Zero_tri (d : D) (h : Few d) : Ev (fun k => dec_Dec_Zero.f k (tri d).1 (tri d).2.1 (tri d).2.2) (decide (d.m = 0)) := by
  have hh := Zero_ev d.neg (mkl d.m) (by have := h.1; omega) (dig_mkl _) d.e
  rwa [nvl_mkl] at hh
/-- the first digit's place -/
def magD (d : D) : Int × Bool := if d.m = 0 then (0, false) else (d.e + (mkl d.m).length - 1, true)
theorem Mag_ev (neg : Bool) (l : List UInt8) (hl : l.length ≤ 100000000) (hd : Dig l) (e : Int) : Ev (fun r => dec_Dec_Mag.f r neg (S l) e) (magD (nrm neg (nvl l) e)) := by
  unfold dec_Dec_Mag.f
  have hf := few_dig (neg := neg) (e := e) hl hd
  refine Ev.bind (Norm_ev neg l (by omega) hd e) ?_
  obtain ⟨d, hdd⟩ : ∃ d, nrm neg (nvl l) e = d := ⟨_, rfl⟩
  rw [hdd] at hf ⊢
  refine Ev.bind (Zero_tri d hf) ?_
  obtain ⟨h1, h2, h3⟩ := hf
  unfold magD
  by_cases h0 : d.m = 0
  · rw [decide_eq_true h0, _root_.if_pos h0]
    exact Ev.if_pos rfl (Ev.now _)
  · rw [decide_eq_false h0, _root_.if_neg h0]
    refine Ev.if_neg (by decide) ?_
    rw [tri3, tri2, S_size, w64 (x := d.e + _) (by omega) (by omega), w64 (by omega) (by omega)]
    exact Ev.now _
theorem Mag_tri (d : D) (h : Few d) : Ev (fun r => dec_Dec_Mag.f r (tri d).1 (tri d).2.1 (tri d).2.2) (magD (nrm d.neg d.m d.e)) := by
  have hh := Mag_ev d.neg (mkl d.m) h.1 (dig_mkl _) d.e
  rwa [nvl_mkl] at hh
theorem Parts_gen (k : Nat) (neg : Bool) (l : List UInt8) (e : Int) (d : D) (hf : Few d) (h0 : d.e < 0 ∨ 0 < d.m ∨ d.e = 0) (hn : Ev (fun r => dec_Dec_Norm.f r neg (S l) e) (tri d)) :
    Ev (fun r => dec_Dec_Parts.f r neg (S l) e) (S (mkl (wholeN d.m d.e)), S (partL d.m d.e)) := by
  unfold dec_Dec_Parts.f
  obtain ⟨h1, h2, h3⟩ := hf
  refine Ev.bind hn ?_
  rw [tri2, tri3, S_size]
  by_cases he : d.e ≥ 0
  · refine Ev.if_pos he (Ev.const (Zeros_ev _) (Ev.if_pos (by rw [S_size, zs_length]; omega) ?_))
    rw [S_append, show min d.e.toNat 60000 = d.e.toNat by omega]
    unfold wholeN partL
    rw [_root_.if_pos he, _root_.if_pos he]
    have hm : mkl d.m ++ zs d.e.toNat = mkl (d.m * 10 ^ d.e.toNat) := by
      rcases Nat.eq_zero_or_pos d.m with hm | hm
      · rw [hm, Nat.zero_mul, show d.e.toNat = 0 by omega]; simp
      · exact (mkl_mul_pow hm _).symm
    rw [hm]
    exact Ev.now _
  · refine Ev.if_neg he ?_
    have hz : wrap64 (wrap64 (-d.e) - ((mkl d.m).length : Int)) = -d.e - (mkl d.m).length := by
      rw [w64 (x := -d.e) (by omega) (by omega), w64 (by omega) (by omega)]
    rw [hz]
    refine Ev.const (Zeros_ev _) ?_
    rw [show min (-d.e - ((mkl d.m).length : Int)).toNat 60000 = (-d.e).toNat - (mkl d.m).length by omega]
    have hp : zs ((-d.e).toNat - (mkl d.m).length) ++ mkl d.m = padL (-d.e).toNat d.m := rfl
    rw [S_append, hp]
    have hpl := padL_length (-d.e).toNat d.m
    obtain ⟨q, hq⟩ : ∃ q, (-d.e).toNat = q := ⟨_, rfl⟩
    rw [hq] at hpl ⊢
    have hcut : wrap64 (((S (padL q d.m)).size : Int) + d.e) = (((padL q d.m).length - q : Nat) : Int) := by
      rw [S_size, w64 (by omega) (by omega)]; omega
    rw [hcut, S_size, S_size, zs_length]
    refine Ev.if_pos (by omega) (Ev.if_pos (by omega) (Ev.if_pos (by omega) ?_))
    rw [Int.toNat_natCast, S_extract, List.drop_zero, S_extract, List.take_length]
    have ht := Trim_dig ((padL q d.m).take ((padL q d.m).length - q)) (by rw [List.length_take]; omega) ((dig_padL _ _).take _)
    rw [(nvl_take_drop (dig_padL q d.m) (q := q) (by omega)).1, nvl_padL] at ht
    refine Ev.bind ht ?_
    unfold wholeN partL
    rw [_root_.if_neg he, _root_.if_neg he, hq]
    exact Ev.now _
theorem nrm_e_zero {neg : Bool} {n : Nat} {e : Int} : (nrm neg n e).e < 0 ∨ 0 < (nrm neg n e).m ∨ (nrm neg n e).e = 0 := by
  rcases Nat.eq_zero_or_pos n with rfl | h
  · rw [nrm_zero]; exact .inr (.inr rfl)
  · exact .inr (.inl (by rw [nrm_m]; exact st_pos h))
theorem Parts_ev (neg : Bool) (l : List UInt8) (hl : l.length ≤ 100000000) (hd : Dig l) (e : Int) :
    Ev (fun r => dec_Dec_Parts.f r neg (S l) e) (S (mkl (wholeN (nrm neg (nvl l) e).m (nrm neg (nvl l) e).e)), S (partL (nrm neg (nvl l) e).m (nrm neg (nvl l) e).e)) :=
  Parts_gen 0 neg l e _ (few_dig hl hd) nrm_e_zero (Norm_ev neg l (by omega) hd e)
theorem Parts_tri (d : D) (h : Few d) : Ev (fun r => dec_Dec_Parts.f r (tri d).1 (tri d).2.1 (tri d).2.2) (S (mkl (wholeN (nrm d.neg d.m d.e).m (nrm d.neg d.m d.e).e)), S (partL (nrm d.neg d.m d.e).m (nrm d.neg d.m d.e).e)) := by
  have hh := Parts_ev d.neg (mkl d.m) h.1 (dig_mkl _) d.e
  rwa [nvl_mkl] at hh
theorem wholeN_len_le {d : D} (h : Few d) : (mkl (wholeN d.m d.e)).length ≤ 100030000 := by
  obtain ⟨h1, h2, h3⟩ := h
  unfold wholeN
  split
  · rcases Nat.eq_zero_or_pos d.m with hm | hm
    · rw [hm, Nat.zero_mul]; simp
    · rw [mkl_len_mul hm]; omega
  · exact Nat.le_trans (mkl_length_mono (Nat.div_le_self _ _)) (by omega)
end Go.Proofs.YthkpmiajcmihjaaDoor.P
namespace Go.Proofs.YthkpmiajcmihjaaDoor.P
open Go.RowKit Go.Proofs.YthkpmiajcmihjaaDoorW.PrintWords Go.Proofs.YthkpmiajcmihjaaDoorW.PrintLast Go.Proofs.YthkpmiajcmihjaaDoorW.PrintMore Go.Proofs.YthkpmiajcmihjaaDoor.FM
set_option linter.unusedVariables false
set_option linter.unusedSimpArgs false

theorem indexByte_mem (l : List UInt8) (c : UInt8) : (Lib.indexByte l c ≥ 0) ↔ c ∈ l := by
  induction l with
  | nil => simp [Lib.indexByte]
  | cons b l ih =>
    unfold Lib.indexByte
    have h := Lib.indexByte_ge l c
    by_cases h1 : b = c
    · subst h1; simp
    · rw [_root_.if_neg (by simpa using h1)]
      by_cases h2 : Lib.indexByte l c = -1
      · rw [_root_.if_pos (by simpa using h2)]
        have h3 : ¬ c ∈ l := fun hc => by have := ih.2 hc; omega
        simp [h3, Ne.symm h1]
      · rw [_root_.if_neg (by simpa using h2)]
        have h3 : c ∈ l := ih.1 (by omega)
        simp [h3]; omega
theorem toUInt8_toNat (c : UInt8) : ((c.toNat : Int)).toNat.toUInt8 = c := by
  rw [Int.toNat_natCast]; simp

end Go.Proofs.YthkpmiajcmihjaaDoor.P
namespace Go.Proofs.YthkpmiajcmihjaaDoor.P
open Go.RowKit Go.Proofs.YthkpmiajcmihjaaDoorW.PrintWords Go.Proofs.YthkpmiajcmihjaaDoorW.PrintLast Go.Proofs.YthkpmiajcmihjaaDoorW.PrintMore Go.Proofs.YthkpmiajcmihjaaDoor.FM
set_option linter.unusedVariables false
set_option linter.unusedSimpArgs false

/-! the reader of decimals -/
def hin (some r : List UInt8) : Bool := match r with | [] => false | c :: _ => decide (c ∈ some)
theorem hin_nil (s : List UInt8) : hin s [] = false := rfl
theorem hin_cons (s : List UInt8) (c : UInt8) (r : List UInt8) : hin s (c :: r) = decide (c ∈ s) := rfl
def isd (c : UInt8) : Bool := decide (48 ≤ c.toNat ∧ c.toNat ≤ 57)
def dg (r : List UInt8) : List UInt8 := r.takeWhile isd
def dr (r : List UInt8) : List UInt8 := r.dropWhile isd
theorem dig_dg (r : List UInt8) : Dig (dg r) := by
  intro c hc
  have := List.all_eq_true.1 (List.all_takeWhile (l := r) (p := isd)) c hc
  exact of_decide_eq_true this
theorem dg_dr (r : List UInt8) : dg r ++ dr r = r := List.takeWhile_append_dropWhile
theorem dr_drop (r : List UInt8) : dr r = r.drop (dg r).length := by
  have h := congrArg (List.drop (dg r).length) (dg_dr r)
  rwa [List.drop_left] at h
theorem dg_length (r : List UInt8) : (dg r).length + (dr r).length = r.length := by rw [← List.length_append, dg_dr]
theorem dg_append {ds rest : List UInt8} (h : Dig ds) (hr : hin [48, 49, 50, 51, 52, 53, 54, 55, 56, 57] rest = false) : dg (ds ++ rest) = ds ∧ dr (ds ++ rest) = rest := by
  have hd : ∀ c ∈ ds, isd c = true := fun c hc => decide_eq_true (h c hc)
  unfold dg dr
  rw [List.takeWhile_append_of_pos hd, List.dropWhile_append_of_pos hd]
  cases rest with
  | nil => simp
  | cons c t =>
    have hc : ¬ isd c = true := by
      intro h2
      have h3 := of_decide_eq_true h2
      rw [hin_cons] at hr
      have h4 : c ∉ ([48, 49, 50, 51, 52, 53, 54, 55, 56, 57] : List UInt8) := of_decide_eq_false hr
      apply h4
      have h5 : c = UInt8.ofNat c.toNat := by simp
      rw [h5]
      have : c.toNat = 48 ∨ c.toNat = 49 ∨ c.toNat = 50 ∨ c.toNat = 51 ∨ c.toNat = 52 ∨ c.toNat = 53 ∨ c.toNat = 54 ∨ c.toNat = 55 ∨ c.toNat = 56 ∨ c.toNat = 57 := by omega
      rcases this with h | h | h | h | h | h | h | h | h | h <;> rw [h] <;> decide
    rw [List.takeWhile_cons_of_neg hc, List.dropWhile_cons_of_neg hc]
    simp
theorem isd_mem (c : UInt8) : isd c = decide (c ∈ ([48, 49, 50, 51, 52, 53, 54, 55, 56, 57] : List UInt8)) := by
  have h5 : c = UInt8.ofNat c.toNat := by simp
  unfold isd
  apply decide_eq_decide.2
  constructor
  · intro h3
    rw [h5]
    have : c.toNat = 48 ∨ c.toNat = 49 ∨ c.toNat = 50 ∨ c.toNat = 51 ∨ c.toNat = 52 ∨ c.toNat = 53 ∨ c.toNat = 54 ∨ c.toNat = 55 ∨ c.toNat = 56 ∨ c.toNat = 57 := by omega
    rcases this with h | h | h | h | h | h | h | h | h | h <;> rw [h] <;> decide
  · intro h
    simp only [List.mem_cons, List.not_mem_nil, or_false] at h
    rcases h with h | h | h | h | h | h | h | h | h | h <;> subst h <;> decide
theorem take_ev (l s : List UInt8) (i : Nat) (hi : i ≤ 1000000000000) :
    dec_reader_take.f (S l) (i : Int) (S s) = some (hin s (l.drop i), S l, (((if hin s (l.drop i) = true then i + 1 else i) : Nat) : Int)) := by
  unfold dec_reader_take.f
  by_cases h : i < l.length
  · have hbt : bt (S l) (i : Int) = (l[i].toNat : Int) := by
      rw [bt_S, Int.toNat_natCast, List.getD_eq_getElem?_getD, List.getElem?_eq_getElem h]; rfl
    have hix : strings_IndexByte.f (S s) (bt (S l) (i : Int)) = some (Lib.indexByte s l[i]) := by
      unfold strings_IndexByte.f; rw [S_data, hbt, toUInt8_toNat]
    have e : l.drop i = l[i] :: l.drop (i + 1) := (List.getElem_cons_drop (h := h)).symm
    rw [_root_.if_pos (by rw [S_size]; omega), _root_.if_pos (by omega), hix, Option.bind_some, e, hin_cons]
    by_cases hc : l[i] ∈ s
    · rw [_root_.if_pos ((indexByte_mem s l[i]).2 hc), decide_eq_true hc, _root_.if_pos rfl, inc64 (by omega)]
    · rw [_root_.if_neg (fun h => hc ((indexByte_mem s l[i]).1 h)), decide_eq_false hc, _root_.if_neg (by decide)]
  · rw [_root_.if_neg (by rw [S_size]; omega), List.drop_eq_nil_of_le (by omega), hin_nil, _root_.if_neg (by decide)]
theorem digits_loop (l : List UInt8) (hl : l.length ≤ 100000000000) (i : Nat) (n : Nat) : ∀ j : Nat, i ≤ j → j + n = l.length → dg (l.drop i) = (l.drop i).take (j - i) ++ dg (l.drop j) →
    Ev (fun k => dec_reader_digits.l0 k (i : Int) (S l) (j : Int)) (S (dg (l.drop i)), S l, ((i + (dg (l.drop i)).length : Nat) : Int)) := by
  have fin : ∀ j : Nat, i ≤ j → j ≤ l.length → hin [48, 49, 50, 51, 52, 53, 54, 55, 56, 57] (l.drop j) = false → dg (l.drop i) = (l.drop i).take (j - i) ++ dg (l.drop j) →
      Ev (fun k => dec_reader_digits.l0 k (i : Int) (S l) (j : Int)) (S (dg (l.drop i)), S l, ((i + (dg (l.drop i)).length : Nat) : Int)) := by
    intro j hij hj hh he
    have ht := take_ev l [48, 49, 50, 51, 52, 53, 54, 55, 56, 57] j (by omega)
    rw [hh, _root_.if_neg (by decide)] at ht
    have h0 : dg (l.drop j) = [] := by
      have := (dg_append (ds := []) (rest := l.drop j) Dig.nil hh).1
      rwa [List.nil_append] at this
    rw [h0, List.append_nil] at he
    refine Ev.step (f := fun _ => some (S ((l.take j).drop i), S l, (j : Int))) (fun k => ?_) ?_
    · rw [dec_reader_digits.l0]
      show ((dec_reader_take.f (S l) (j : Int) (S [48, 49, 50, 51, 52, 53, 54, 55, 56, 57])).bind _) = _
      rw [ht, Option.bind_some]
      dsimp only
      rw [_root_.if_neg (by decide), _root_.if_pos (by omega), _root_.if_pos (by omega), _root_.if_pos (by rw [S_size]; omega), S_extract, Int.toNat_natCast, Int.toNat_natCast]
    · have e2 : (dg (l.drop i)).length = j - i := by rw [he, List.length_take, List.length_drop]; omega
      rw [e2, he, List.drop_take, show i + (j - i) = j by omega]
      exact Ev.now _
  induction n with
  | zero =>
    intro j hij hj he
    exact fin j hij (by omega) (by rw [List.drop_eq_nil_of_le (by omega), hin_nil]) he
  | succ n ih =>
    intro j hij hj he
    by_cases hh : hin [48, 49, 50, 51, 52, 53, 54, 55, 56, 57] (l.drop j) = true
    · have ht := take_ev l [48, 49, 50, 51, 52, 53, 54, 55, 56, 57] j (by omega)
      rw [hh, _root_.if_pos rfl] at ht
      have hlt : j < l.length := by omega
      have e : l.drop j = l[j] :: l.drop (j + 1) := (List.getElem_cons_drop (h := hlt)).symm
      have hc : isd l[j] = true := by
        rw [isd_mem]
        rw [e, hin_cons] at hh
        exact hh
      have e2 : dg (l.drop j) = l[j] :: dg (l.drop (j + 1)) := by
        unfold dg
        rw [e, List.takeWhile_cons_of_pos hc]
      refine Ev.step (f := fun k => dec_reader_digits.l0 k (i : Int) (S l) ((j + 1 : Nat) : Int)) (fun k => ?_) (ih (j + 1) (by omega) (by omega) ?_)
      · rw [dec_reader_digits.l0]
        show ((dec_reader_take.f (S l) (j : Int) (S [48, 49, 50, 51, 52, 53, 54, 55, 56, 57])).bind _) = _
        rw [ht, Option.bind_some, _root_.if_pos rfl]
      · rw [he, e2, show j + 1 - i = (j - i) + 1 by omega, List.take_succ_eq_append_getElem (by rw [List.length_drop]; omega), List.append_assoc, List.getElem_drop]
        simp only [show i + (j - i) = j by omega, List.cons_append, List.nil_append]
    · exact fin j hij (by omega) (Bool.eq_false_iff.2 hh) he
theorem digits_ev (l : List UInt8) (hl : l.length ≤ 100000000000) (i : Nat) (hi : i ≤ l.length) :
    Ev (fun k => dec_reader_digits.f k (S l) (i : Int)) (S (dg (l.drop i)), S l, ((i + (dg (l.drop i)).length : Nat) : Int)) := by
  unfold dec_reader_digits.f
  exact digits_loop l hl i (l.length - i) i (Nat.le_refl _) (by omega) (by simp)
/-- behind the letter of a power: the sign and what follows -/
def exS (r : List UInt8) : List UInt8 := if hin [43, 45] r = true then r.tail else r
def exX (r : List UInt8) : Bool := hin [101, 69] r
def exN (r : List UInt8) : Bool := exX r && hin [45] r.tail
def exD (r : List UInt8) : List UInt8 := if exX r = true then dg (exS r.tail) else []
def exR (r : List UInt8) : List UInt8 := if exX r = true then dr (exS r.tail) else r
theorem hin_take {s : List UInt8} {l : List UInt8} {i : Nat} (h : hin s (l.drop i) = true) : i < l.length := by
  rcases Nat.lt_or_ge i l.length with h1 | h1
  · exact h1
  · rw [List.drop_eq_nil_of_le h1, hin_nil] at h; cases h
theorem exponent_ev (l : List UInt8) (hl : l.length ≤ 100000000000) (i : Nat) (hi : i ≤ l.length) :
    ∃ q : Nat, q ≤ l.length ∧ l.drop q = exR (l.drop i) ∧ Ev (fun k => dec_reader_exponent.f k (S l) (i : Int)) (exN (l.drop i), S (mkl (nvl (exD (l.drop i)))), (!exX (l.drop i) || decide (exD (l.drop i) ≠ [])), S l, (q : Int)) := by
  have ht : dec_reader_take.f (S l) (i : Int) (⟨#[101, 69]⟩ : ByteArray) = _ := take_ev l [101, 69] i (by omega)
  by_cases hx : hin [101, 69] (l.drop i) = true
  · have hlt := hin_take hx
    have etail : (l.drop i).tail = l.drop (i + 1) := by rw [List.tail_drop]
    rw [hx, _root_.if_pos rfl] at ht
    have hs : dec_reader_take.f (S l) ((i + 1 : Nat) : Int) (⟨#[43, 45]⟩ : ByteArray) = _ := take_ev l [43, 45] (i + 1) (by omega)
    obtain ⟨p, hp, hp2⟩ : ∃ p : Nat, p = (if hin [43, 45] (l.drop (i + 1)) = true then i + 1 + 1 else i + 1) ∧ p ≤ l.length := by
      refine ⟨_, rfl, ?_⟩
      split
      · rename_i h; have := hin_take h; omega
      · omega
    rw [← hp] at hs
    have hdrop : l.drop p = exS (l.drop (i + 1)) := by
      unfold exS
      rw [hp]
      split
      · rw [List.tail_drop]
      · rfl
    have hd := digits_ev l hl p hp2
    rw [hdrop] at hd
    have hlen := dg_length (l.drop p)
    rw [hdrop, ← hdrop, List.length_drop, hdrop] at hlen
    have e1 : exD (l.drop i) = dg (exS (l.drop (i + 1))) := by unfold exD exX; rw [_root_.if_pos hx, etail]
    have e2 : exR (l.drop i) = dr (exS (l.drop (i + 1))) := by unfold exR exX; rw [_root_.if_pos hx, etail]
    have e3 : exN (l.drop i) = hin [45] (l.drop (i + 1)) := by unfold exN exX; rw [hx, etail, Bool.true_and]
    have e4 : exX (l.drop i) = true := hx
    rw [e1, e2, e3, e4]
    refine ⟨p + (dg (exS (l.drop (i + 1)))).length, by omega, by rw [dr_drop, ← hdrop, List.drop_drop], ?_⟩
    have htrim := Trim_dig (dg (exS (l.drop (i + 1)))) (by omega) (dig_dg _)
    have hb : (dg (exS (l.drop (i + 1))) != ([] : List UInt8)) = (!true || decide (dg (exS (l.drop (i + 1))) ≠ [])) := by
      cases dg (exS (l.drop (i + 1))) <;> rfl
    unfold dec_reader_exponent.f
    refine Ev.const ht (Ev.if_pos rfl ?_)
    by_cases hlt2 : i + 1 < l.length
    · refine Ev.if_pos (by dsimp only; rw [S_size]; omega) (Ev.if_pos (by dsimp only; omega) (Ev.const hs (Ev.bind hd (Ev.bind htrim ?_))))
      have hbt : (bt (S l) ((i + 1 : Nat) : Int) == 45) = hin [45] (l.drop (i + 1)) := by
        have e : l.drop (i + 1) = l[i + 1] :: l.drop (i + 1 + 1) := (List.getElem_cons_drop (h := hlt2)).symm
        have hbt : bt (S l) ((i + 1 : Nat) : Int) = (l[i + 1].toNat : Int) := by
          rw [bt_S, Int.toNat_natCast, List.getD_eq_getElem?_getD, List.getElem?_eq_getElem hlt2]; rfl
        rw [hbt, e, hin_cons]
        by_cases hc : l[i + 1] = 45
        · rw [hc]; rfl
        · rw [decide_eq_false (by simpa using hc)]
          apply beq_eq_false_iff_ne.2
          intro h
          apply hc
          apply UInt8.toNat_inj.1
          have : (45 : UInt8).toNat = 45 := rfl
          omega
      rw [hbt, S_toList, hb]
      exact Ev.now _
    · refine Ev.if_neg (by dsimp only; rw [S_size]; omega) (Ev.const hs (Ev.bind hd (Ev.bind htrim ?_)))
      have e0 : hin [45] (l.drop (i + 1)) = false := by rw [List.drop_eq_nil_of_le (by omega), hin_nil]
      rw [e0, S_toList, hb]
      exact Ev.now _
  · have hx2 : hin [101, 69] (l.drop i) = false := Bool.eq_false_iff.2 hx
    rw [hx2, _root_.if_neg (by decide)] at ht
    have e1 : exD (l.drop i) = [] := by unfold exD exX; rw [_root_.if_neg hx]
    have e2 : exR (l.drop i) = l.drop i := by unfold exR exX; rw [_root_.if_neg hx]
    have e3 : exN (l.drop i) = false := by unfold exN exX; rw [hx2, Bool.false_and]
    have e4 : exX (l.drop i) = false := hx2
    rw [e1, e2, e3, e4]
    refine ⟨i, hi, rfl, ?_⟩
    unfold dec_reader_exponent.f
    refine Ev.const ht (Ev.if_neg (by dsimp only; decide) ?_)
    rw [nvl_nil, mkl_zero]
    exact Ev.now _
/-! what a decimal's text is made of -/
def qr0 (l : List UInt8) : List UInt8 := if hin [45] l = true then l.tail else l
def qW (l : List UInt8) : List UInt8 := dg (qr0 l)
def qr1 (l : List UInt8) : List UInt8 := dr (qr0 l)
def qP (l : List UInt8) : List UInt8 := if hin [46] (qr1 l) = true then dg (qr1 l).tail else []
def qr2 (l : List UInt8) : List UInt8 := if hin [46] (qr1 l) = true then dr (qr1 l).tail else qr1 l
def qOk (l : List UInt8) : Prop := qW l ≠ [] ∧ (hin [46] (qr1 l) = true → qP l ≠ []) ∧ (exX (qr2 l) = true → exD (qr2 l) ≠ []) ∧ exR (qr2 l) = []
instance decOk (l : List UInt8) : Decidable (qOk l) := by unfold qOk; infer_instance
def qLong (l : List UInt8) : Prop := 1000 < (qW l).length + (qP l).length ∨ 10000 < nvl (exD (qr2 l))
/-- the power that is meant -/
def qE (l : List UInt8) : Int := if exN (qr2 l) = true then -(nvl (exD (qr2 l)) : Int) else nvl (exD (qr2 l))
def qD (l : List UInt8) : D := nrm (hin [45] l) (nvl (qW l ++ qP l)) (qE l - (qP l).length)
theorem Parse_gen (l : List UInt8) (hl : l.length ≤ 10000000000) (r : Bool × ByteArray × Int × Int) (hbad : ¬ qOk l → r = (false, S [], 0, 1))
    (hgood : qOk l → Ev (fun k => dec_Parse.j1 k (hin [45] l) (S (qW l)) (S (qP l)) (exN (qr2 l)) (S (mkl (nvl (exD (qr2 l))))) false) r) : Ev (fun k => dec_Parse.f k (S l)) r := by
  have bad : ¬ qOk l → Ev (fun k : Nat => some ((false, (⟨#[]⟩ : ByteArray), (0 : Int), (1 : Int)))) r := fun h => by rw [hbad h]; exact Ev.now _
  have t0 : dec_reader_take.f (S l) 0 (⟨#[45]⟩ : ByteArray) = _ := take_ev l [45] 0 (by omega)
  rw [List.drop_zero] at t0
  obtain ⟨p0, hp0, lp0, dp0⟩ : ∃ p : Nat, (if hin [45] l = true then 0 + 1 else 0) = p ∧ p ≤ l.length ∧ l.drop p = qr0 l := by
    refine ⟨_, rfl, ?_, ?_⟩
    · split
      · rename_i h; have := hin_take (i := 0) (s := [45]) (l := l) (by rwa [List.drop_zero]); omega
      · omega
    · unfold qr0
      split
      · rw [List.drop_one]
      · rw [List.drop_zero]
  rw [hp0] at t0
  have h0 := digits_ev l (by omega) p0 lp0
  rw [dp0] at h0
  have e0 := dg_length (l.drop p0)
  rw [List.length_drop, dp0] at e0
  have d1 : l.drop (p0 + (dg (qr0 l)).length) = qr1 l := by unfold qr1; rw [dr_drop, ← dp0, List.drop_drop]
  have t1 : dec_reader_take.f (S l) ((p0 + (dg (qr0 l)).length : Nat) : Int) (⟨#[46]⟩ : ByteArray) = _ := take_ev l [46] _ (by omega)
  rw [d1] at t1
  unfold dec_Parse.f
  refine Ev.const t0 (Ev.bind h0 ?_)
  dsimp only
  rw [S_toList]
  have w0 : dg (qr0 l) = qW l := rfl
  by_cases hw : qW l = []
  · exact Ev.if_pos hw (bad (fun h => h.1 hw))
  refine Ev.if_neg hw (Ev.const t1 ?_)
  have rest : ∀ (q : Nat), q ≤ l.length → l.drop q = qr2 l → (hin [46] (qr1 l) = true → qP l ≠ []) → Ev (fun k => dec_Parse.j0 k (S l) (hin [45] l) (S (qW l)) (S (qP l)) (S l) (q : Int)) r := by
    intro q hq hd hpt
    obtain ⟨q2, hq2, hd2, hev⟩ := exponent_ev l (by omega) q hq
    rw [hd] at hd2 hev
    refine Ev.step (fun k => (by rw [dec_Parse.j0])) (Ev.bind hev ?_)
    dsimp only
    have no : ¬ qOk l → Ev (fun k => dec_Parse.j1 k (hin [45] l) (S (qW l)) (S (qP l)) (exN (qr2 l)) (S (mkl (nvl (exD (qr2 l))))) true) r := fun h =>
      Ev.step (f := fun k => some ((false, (⟨#[]⟩ : ByteArray), (0 : Int), (1 : Int)))) (fun k => by rw [dec_Parse.j1, _root_.if_pos rfl]) (bad h)
    by_cases hx : (!exX (qr2 l) || decide (exD (qr2 l) ≠ [])) = true
    · have hx2 : exX (qr2 l) = true → exD (qr2 l) ≠ [] := by
        intro h
        rw [h] at hx
        simpa using hx
      refine Ev.if_pos hx ?_
      by_cases hend : q2 < l.length
      · rw [decide_eq_true (by rw [S_size]; omega)]
        refine no (fun h => ?_)
        have := h.2.2.2
        rw [← hd2] at this
        have := congrArg List.length this
        rw [List.length_drop, List.length_nil] at this
        omega
      · rw [decide_eq_false (by rw [S_size]; omega)]
        refine hgood ⟨hw, hpt, hx2, ?_⟩
        rw [← hd2]
        exact List.drop_eq_nil_of_le (by omega)
    · refine Ev.if_neg hx (no (fun h => hx ?_))
      cases hxx : exX (qr2 l) with
      | false => rfl
      | true => simpa using h.2.2.1 hxx
  by_cases hp : hin [46] (qr1 l) = true
  · have hlt := hin_take (i := p0 + (dg (qr0 l)).length) (s := [46]) (l := l) (by rw [d1]; exact hp)
    have etail : l.drop (p0 + (dg (qr0 l)).length + 1) = (qr1 l).tail := by rw [← d1, List.tail_drop]
    have h2 := digits_ev l (by omega) (p0 + (dg (qr0 l)).length + 1) (by omega)
    have e2 := dg_length (l.drop (p0 + (dg (qr0 l)).length + 1))
    rw [List.length_drop, etail] at e2
    rw [etail] at h2
    have eP : qP l = dg (qr1 l).tail := by unfold qP; rw [_root_.if_pos hp]
    have eR : qr2 l = dr (qr1 l).tail := by unfold qr2; rw [_root_.if_pos hp]
    refine Ev.if_pos hp ?_
    rw [hp, _root_.if_pos rfl]
    refine Ev.bind h2 ?_
    dsimp only
    rw [S_toList, ← eP]
    by_cases hp0 : qP l = []
    · exact Ev.if_pos hp0 (bad (fun h => h.2.1 hp hp0))
    refine Ev.if_neg hp0 (rest _ (by rw [eP]; omega) ?_ (fun _ => hp0))
    rw [eR, dr_drop, eP, ← etail, List.drop_drop]
  · have hpf : hin [46] (qr1 l) = false := Bool.eq_false_iff.2 hp
    have eP : qP l = [] := by unfold qP; rw [_root_.if_neg hp]
    have eR : qr2 l = qr1 l := by unfold qr2; rw [_root_.if_neg hp]
    refine Ev.if_neg hp ?_
    rw [hpf, _root_.if_neg (by decide)]
    have := rest (p0 + (dg (qr0 l)).length) (by omega) (by rw [eR]; exact d1) (fun h => absurd h hp)
    rw [eP] at this
    exact this
theorem qlen (l : List UInt8) : (qW l).length + (qP l).length + (exD (qr2 l)).length ≤ l.length := by
  have h0 : (qr0 l).length ≤ l.length := by
    unfold qr0; split
    · rw [List.length_tail]; omega
    · omega
  have h1 := dg_length (qr0 l)
  have h2 : (qP l).length + (qr2 l).length ≤ (qr1 l).length := by
    unfold qP qr2
    split
    · have := dg_length (qr1 l).tail
      rw [List.length_tail] at this
      omega
    · simp
  have h3 : (exD (qr2 l)).length ≤ (qr2 l).length := by
    unfold exD
    split
    · have := dg_length (exS (qr2 l).tail)
      have h4 : (exS (qr2 l).tail).length ≤ (qr2 l).length := by
        unfold exS
        split
        · simp only [List.length_tail]; omega
        · simp only [List.length_tail]; omega
      omega
    · simp
  have : (qW l).length = (dg (qr0 l)).length := rfl
  have : (qr1 l).length = (dr (qr0 l)).length := rfl
  omega
theorem dig_exD (r : List UInt8) : Dig (exD r) := by
  unfold exD; split
  · exact dig_dg _
  · exact Dig.nil
theorem dig_qP (l : List UInt8) : Dig (qP l) := by
  unfold qP; split
  · exact dig_dg _
  · exact Dig.nil
theorem dig_qW (l : List UInt8) : Dig (qW l) := dig_dg _
theorem Parse_ok (l : List UInt8) (hl : l.length ≤ 10000000000) (h : qOk l) (hlong : ¬ qLong l) : Ev (fun k => dec_Parse.f k (S l)) ((qD l).neg, S (mkl (qD l).m), (qD l).e, 0) := by
  have hq := qlen l
  unfold qLong at hlong
  refine Parse_gen l hl _ (fun h2 => absurd h h2) (fun _ => ?_)
  refine Ev.step (fun k => (by rw [dec_Parse.j1, _root_.if_neg (by decide), S_size, S_size, w64 (by omega) (by omega)])) ?_
  have hlen : (mkl (nvl (exD (qr2 l)))).length ≤ (exD (qr2 l)).length := mkl_length_le.2 (nvl_lt (dig_exD _))
  have h18 : nvl (exD (qr2 l)) < 10 ^ 18 := by
    have : (10000 : Nat) < 10 ^ 18 := by decide
    omega
  have hi := Int_ev (mkl (nvl (exD (qr2 l)))) (by unfold Sm; omega) (dig_mkl _) (by rw [nvl_mkl]; exact h18)
  rw [nvl_mkl] at hi
  refine Ev.bind hi (Ev.if_neg (by omega) (Ev.if_pos rfl ?_))
  rw [decide_eq_false (by dsimp only; omega)]
  have hm := Made_ev (hin [45] l) (qW l ++ qP l) (by rw [List.length_append]; omega) ((dig_qW l).append (dig_qP l)) (qE l - (qP l).length)
  refine Ev.step (fun k => (by rw [dec_Parse.j2, _root_.if_neg (by decide)])) ?_
  unfold qD
  unfold qE at hm ⊢
  by_cases hn : exN (qr2 l) = true
  · rw [_root_.if_pos hn] at hm ⊢
    refine Ev.if_pos hn (Ev.if_pos (by rw [S_size, S_size]; omega) ?_)
    rw [S_append, S_size, w64 (x := -((nvl (exD (qr2 l)) : Nat) : Int)) (by omega) (by omega), w64 (by omega) (by omega)]
    exact Ev.bind hm (Ev.now _)
  · rw [_root_.if_neg hn] at hm ⊢
    refine Ev.if_neg hn (Ev.if_pos (by rw [S_size, S_size]; omega) ?_)
    rw [S_append, S_size, w64 (by omega) (by omega)]
    exact Ev.bind hm (Ev.now _)
end Go.Proofs.YthkpmiajcmihjaaDoor.P
namespace Go.Proofs.YthkpmiajcmihjaaDoor.P
open Go.RowKit Go.Proofs.YthkpmiajcmihjaaDoorW.PrintWords Go.Proofs.YthkpmiajcmihjaaDoorW.PrintLast Go.Proofs.YthkpmiajcmihjaaDoorW.PrintMore Go.Proofs.YthkpmiajcmihjaaDoor.FM
set_option linter.unusedVariables false
set_option linter.unusedSimpArgs false

/-- a decimal as it was made, or in its normal form: what it is -/
structure Val (neg : Bool) (l : List UInt8) (e : Int) (a : D) : Prop where
  dig : Dig l
  len : l.length ≤ 100000000
  nrm : FM.nrm neg (nvl l) e = a
theorem Val.few {neg : Bool} {l : List UInt8} {e : Int} {a : D} (h : Val neg l e a) : Few a := h.nrm ▸ few_dig h.len h.dig
theorem Val.norm {neg : Bool} {l : List UInt8} {e : Int} {a : D} (h : Val neg l e a) : Ev (fun k => dec_Dec_Norm.f k neg (S l) e) (tri a) := by
  have := Norm_ev neg l (by have := h.len; omega) h.dig e
  rwa [h.nrm] at this
theorem Val.again {neg : Bool} {l : List UInt8} {e : Int} {a : D} (h : Val neg l e a) : Val a.neg (mkl a.m) a.e a := by
  refine ⟨dig_mkl _, h.few.1, ?_⟩
  rw [nvl_mkl, ← h.nrm, nrm_idem]
/-- of few places -/
structure Plc (M K : Nat) (z : Int) : Prop where
  hK : K ≤ M
  hM : M ≤ 29000
  hz : z.natAbs < 10 ^ M
theorem Val.dk {M K : Nat} {z : Int} (h : Plc M K z) : Val (FM.dk K z).neg (mkl (FM.dk K z).m) (FM.dk K z).e (FM.dk K z) := by
  refine ⟨dig_mkl _, ?_, ?_⟩
  · rw [dk_m]
    have := mkl_length_le.2 (Nat.lt_of_le_of_lt (st_le z.natAbs) h.hz)
    have := h.hM
    omega
  · rw [nvl_mkl, dk_again h.hK h.hM h.hz, dk_neg, sg_of]
theorem Val.sign {nb b : Bool} {lb : List UInt8} {eb : Int} {M K : Nat} {v : Int} (h : Val nb lb eb (FM.dk K v)) (hp : Plc M K v) : FM.nrm b (nvl lb) eb = FM.dk K (sg b v.natAbs) := by
  have h1 := nrm_again b nb (nvl lb) eb
  rw [h.nrm, dk_again hp.hK hp.hM hp.hz] at h1
  exact h1.symm
theorem Plc.neg {M K : Nat} {z : Int} (h : Plc M K z) : Plc M K (-z) := ⟨h.hK, h.hM, by rw [Int.natAbs_neg]; exact h.hz⟩
theorem Plc.abs {M K : Nat} {z : Int} (h : Plc M K z) : Plc M K (z.natAbs : Int) := ⟨h.hK, h.hM, by rw [Int.natAbs_natCast]; exact h.hz⟩
theorem Plc.up {M M' K : Nat} {u : Int} (h : Plc M K u) (hle : M ≤ M') (hM : M' ≤ 29000) : Plc M' K u :=
  ⟨Nat.le_trans h.hK hle, hM, Nat.lt_of_lt_of_le h.hz (Nat.pow_le_pow_right (by decide) hle)⟩
theorem Few_ev (neg : Bool) (l : List Int) (e : Int) (n : Nat) (hn : n ≤ 1000) : florinlaw02_Raw_Few.f neg l e (n : Int) = some (decide ((l.length : Int) ≤ n ∧ -(n : Int) ≤ e ∧ e ≤ n)) := by
  unfold florinlaw02_Raw_Few.f
  rw [w64 (by omega) (by omega)]
  by_cases h1 : (l.length : Int) ≤ n
  · rw [_root_.if_pos h1]
    by_cases h2 : e ≥ -(n : Int)
    · rw [_root_.if_pos h2]
      congr 1
      apply decide_eq_decide.2
      omega
    · rw [_root_.if_neg h2, decide_eq_false (by omega)]
  · rw [_root_.if_neg h1, decide_eq_false (by omega)]
theorem Make_ev (neg : Bool) (l : List Int) (e : Int) (hl : l.length ≤ 100000000) (hw : ∀ x ∈ l, (Lit.int .u8 x).wf = true) : Ev (fun k => florinlaw02_Raw_Make.f k neg l e) (neg, S (digs l), e) := by
  unfold florinlaw02_Raw_Make.f
  exact Ev.bind (Digits_ev l (by omega) hw) (Ev.now _)
end Go.Proofs.YthkpmiajcmihjaaDoor.P
namespace Go.Proofs.YthkpmiajcmihjaaDoor.P
open Go.RowKit Go.Proofs.YthkpmiajcmihjaaDoorW.PrintWords Go.Proofs.YthkpmiajcmihjaaDoorW.PrintLast Go.Proofs.YthkpmiajcmihjaaDoorW.PrintMore Go.Proofs.YthkpmiajcmihjaaDoor.FM
set_option linter.unusedVariables false
set_option linter.unusedSimpArgs false

/-- a decimal of few places, as a law makes it -/
structure Mk (K M : Nat) (neg : Bool) (l : List UInt8) (e : Int) (u : Int) : Prop where
  val : Val neg l e (FM.dk K u)
  plc : Plc M K u
  abs : nvl (l ++ zs (e + K).toNat) = u.natAbs
  sgn : u ≠ 0 → neg = decide (u < 0)
  len : l.length ≤ 1000
  lo : -(K : Int) ≤ e
  hi : e ≤ K
theorem mk_raw {K M : Nat} {neg : Bool} {l : List UInt8} {e : Int} (hd : Dig l) (hl : l.length ≤ K) (h0 : -(K : Int) ≤ e) (h1 : e ≤ K) (hK : 3 * K ≤ M) (hM : M ≤ 1000) : Mk K M neg l e (raw K neg (nvl l) e) := by
  have hn := nvl_lt hd
  have h := nrm_raw (K := K) (k := l.length) (M := M) (neg := neg) (e := e) (by omega) (by omega) (by omega) hn (by omega)
  refine ⟨⟨hd, by omega, h.1⟩, ⟨by omega, by omega, h.2⟩, ?_, ?_, by omega, h0, h1⟩
  · rw [nvl_append_zs]; unfold raw; rw [sg_natAbs]
  · intro hu
    unfold raw at hu ⊢
    have hpos : 0 < nvl l * 10 ^ (e + K).toNat := by
      rcases Nat.eq_zero_or_pos (nvl l * 10 ^ (e + K).toNat) with h | h
      · rw [h, sg_zero] at hu; exact absurd rfl hu
      · exact h
    exact (sg_neg hpos).symm
theorem dk_norm {K M : Nat} {z : Int} (h : Plc M K z) : FM.dk K z = nrm (FM.dk K z).neg (FM.dk K z).m (FM.dk K z).e := by
  rw [dk_again h.hK h.hM h.hz, dk_neg, sg_of]
end Go.Proofs.YthkpmiajcmihjaaDoor.P
namespace Go.Proofs.YthkpmiajcmihjaaDoor.P
open Go.RowKit Go.Proofs.YthkpmiajcmihjaaDoorW.PrintWords Go.Proofs.YthkpmiajcmihjaaDoorW.PrintLast Go.Proofs.YthkpmiajcmihjaaDoorW.PrintMore Go.Proofs.YthkpmiajcmihjaaDoor.FM
set_option linter.unusedVariables false
set_option linter.unusedSimpArgs false

theorem hin_digs {s W R : List UInt8} (hW : W ≠ []) (dW : Dig W) (hs : ∀ x ∈ s, ¬ (48 ≤ x.toNat ∧ x.toNat ≤ 57)) : hin s (W ++ R) = false := by
  cases W with
  | nil => exact absurd rfl hW
  | cons c t =>
    rw [List.cons_append, hin_cons]
    exact decide_eq_false (fun h => hs c h (dW c List.mem_cons_self))
/-- the power as it is written -/
def pwL (pw up : Bool) (sg Z : List UInt8) : List UInt8 := if pw = true then (if up = true then 69 else 101) :: (sg ++ Z) else []
def wrL (neg : Bool) (W P : List UInt8) (pt : Bool) (PW : List UInt8) : List UInt8 := (if neg = true then [45] else []) ++ (W ++ ((if pt = true then 46 :: P else []) ++ PW))
theorem hin_pw (s : List UInt8) (pw up : Bool) (sg Z : List UInt8) (h1 : (69 : UInt8) ∉ s) (h2 : (101 : UInt8) ∉ s) : hin s (pwL pw up sg Z) = false := by
  unfold pwL
  cases pw with
  | false => rfl
  | true =>
    rw [_root_.if_pos rfl, hin_cons]
    cases up with
    | true => exact decide_eq_false h1
    | false => exact decide_eq_false h2
theorem parses_parts (neg pt pw up : Bool) (W P sg Z : List UInt8) (dW : Dig W) (dP : Dig P) (dZ : Dig Z) (hW : W ≠ []) (hsg : sg = [] ∨ sg = [43] ∨ sg = [45]) (hZ : Z ≠ []) :
    hin [45] (wrL neg W P pt (pwL pw up sg Z)) = neg ∧ qW (wrL neg W P pt (pwL pw up sg Z)) = W ∧ hin [46] (qr1 (wrL neg W P pt (pwL pw up sg Z))) = pt ∧ qP (wrL neg W P pt (pwL pw up sg Z)) = (if pt = true then P else []) ∧
    exX (qr2 (wrL neg W P pt (pwL pw up sg Z))) = pw ∧ exD (qr2 (wrL neg W P pt (pwL pw up sg Z))) = (if pw = true then Z else []) ∧ exR (qr2 (wrL neg W P pt (pwL pw up sg Z))) = [] ∧
    exN (qr2 (wrL neg W P pt (pwL pw up sg Z))) = (pw && decide (sg = [45])) := by
  have n45 : ∀ R, hin [45] (W ++ R) = false := fun R => hin_digs hW dW (by decide)
  have e1 : hin [45] (wrL neg W P pt (pwL pw up sg Z)) = neg := by
    unfold wrL
    cases neg with
    | true => rfl
    | false => exact n45 _
  have e2 : qr0 (wrL neg W P pt (pwL pw up sg Z)) = W ++ ((if pt = true then 46 :: P else []) ++ pwL pw up sg Z) := by
    unfold qr0
    rw [e1]
    unfold wrL
    cases neg with
    | true => rfl
    | false => rfl
  have hR : hin [48, 49, 50, 51, 52, 53, 54, 55, 56, 57] ((if pt = true then 46 :: P else []) ++ pwL pw up sg Z) = false := by
    cases pt with
    | true => rfl
    | false => exact hin_pw _ pw up sg Z (by decide) (by decide)
  have e3 := dg_append dW hR
  have e4 : qW (wrL neg W P pt (pwL pw up sg Z)) = W := by unfold qW; rw [e2]; exact e3.1
  have e5 : qr1 (wrL neg W P pt (pwL pw up sg Z)) = (if pt = true then 46 :: P else []) ++ pwL pw up sg Z := by unfold qr1; rw [e2]; exact e3.2
  have e6 : hin [46] (qr1 (wrL neg W P pt (pwL pw up sg Z))) = pt := by
    rw [e5]
    cases pt with
    | true => rfl
    | false => exact hin_pw _ pw up sg Z (by decide) (by decide)
  have hpw := hin_pw [48, 49, 50, 51, 52, 53, 54, 55, 56, 57] pw up sg Z (by decide) (by decide)
  have e7 : qP (wrL neg W P pt (pwL pw up sg Z)) = (if pt = true then P else []) ∧ qr2 (wrL neg W P pt (pwL pw up sg Z)) = pwL pw up sg Z := by
    unfold qP qr2
    rw [e6, e5]
    cases pt with
    | true =>
      rw [_root_.if_pos rfl, _root_.if_pos rfl, _root_.if_pos rfl, List.cons_append, List.tail_cons]
      exact dg_append dP hpw
    | false => exact ⟨rfl, rfl⟩
  have e8 : exX (pwL pw up sg Z) = pw := by
    unfold exX pwL
    cases pw with
    | false => rfl
    | true => cases up <;> rfl
  have n45z : hin [43, 45] Z = false := by
    have := hin_digs (s := [43, 45]) (R := []) hZ dZ (by decide)
    rwa [List.append_nil] at this
  have e9 : exS (sg ++ Z) = Z := by
    unfold exS
    rcases hsg with rfl | rfl | rfl
    · rw [List.nil_append, n45z, _root_.if_neg (by decide)]
    · rfl
    · rfl
  have ez : dg Z = Z ∧ dr Z = [] := by
    have := dg_append (rest := []) dZ rfl
    rwa [List.append_nil] at this
  refine ⟨e1, e4, e6, e7.1, ?_, ?_, ?_, ?_⟩
  · rw [e7.2]; exact e8
  · rw [e7.2]
    unfold exD
    rw [e8]
    cases pw with
    | false => rfl
    | true =>
      rw [_root_.if_pos rfl, _root_.if_pos rfl]
      unfold pwL
      rw [_root_.if_pos rfl, List.tail_cons, e9]
      exact ez.1
  · rw [e7.2]
    unfold exR
    rw [e8]
    cases pw with
    | false => rfl
    | true =>
      rw [_root_.if_pos rfl]
      unfold pwL
      rw [_root_.if_pos rfl, List.tail_cons, e9]
      exact ez.2
  · rw [e7.2]
    unfold exN
    rw [e8]
    cases pw with
    | false => rfl
    | true =>
      rw [Bool.true_and, Bool.true_and]
      unfold pwL
      rw [_root_.if_pos rfl, List.tail_cons]
      rcases hsg with rfl | rfl | rfl
      · have := hin_digs (s := [45]) (R := []) hZ dZ (by decide)
        rw [List.append_nil] at this
        rw [List.nil_append, this]; rfl
      · rfl
      · rfl
end Go.Proofs.YthkpmiajcmihjaaDoor.P
