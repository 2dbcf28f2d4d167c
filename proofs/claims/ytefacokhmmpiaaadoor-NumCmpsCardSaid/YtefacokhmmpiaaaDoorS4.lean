import Derived.Test.YtefacokhmmpiaaaDoorS3
import Derived.Test.YtefacokhmmpiaaaDoorM7
import Derived.Test.YtefacokhmmpiaaaDoorPx2
import Derived.Test.YtefacokhmmpiaaaDoorPx3
import Derived.Test.YtefacokhmmpiaaaDoorPx4
import Derived.Test.YtefacokhmmpiaaaDoorPx8
namespace Go.Proofs.YtefacokhmmpiaaaDoor.P
open Go.RowKit Go.Proofs.YtefacokhmmpiaaaDoorW.PrintWords Go.Proofs.YtefacokhmmpiaaaDoorW.PrintLast Go.Proofs.YtefacokhmmpiaaaDoorW.PrintMore Go.Proofs.YtefacokhmmpiaaaDoor.FM
set_option linter.unusedVariables false
set_option linter.unusedSimpArgs false

/-! the order -/
theorem compareBytes_dig : ∀ (a b : List UInt8), Dig a → Dig b → a.length = b.length → Lib.compareBytes a b = cmpN (nvl a) (nvl b)
  | [], [], _, _, _ => by simp [Lib.compareBytes, cmpN]
  | [], _ :: _, _, _, h => by simp at h
  | _ :: _, [], _, _, h => by simp at h
  | c :: a, d :: b, ha, hb, h => by
    rw [dig_cons] at ha hb
    have hl : a.length = b.length := by simpa using h
    unfold Lib.compareBytes
    by_cases h1 : c < d
    · have := head_lt ha.2 hl ha.1.1 (UInt8.lt_iff_toNat_lt.1 h1)
      rw [_root_.if_pos h1]; unfold cmpN; rw [_root_.if_pos this]
    · rw [_root_.if_neg h1]
      by_cases h2 : d < c
      · have := head_lt hb.2 hl.symm hb.1.1 (UInt8.lt_iff_toNat_lt.1 h2)
        rw [_root_.if_pos h2]; unfold cmpN; rw [_root_.if_neg (by omega), _root_.if_pos this]
      · have hcd : c = d := by
          apply UInt8.toNat_inj.1
          rw [UInt8.lt_iff_toNat_lt] at h1 h2
          omega
        subst hcd
        rw [_root_.if_neg h2, compareBytes_dig a b ha.2 hb.2 hl]
        unfold cmpN
        rw [nvl_cons, nvl_cons, hl]
        repeat' split
        all_goals omega
theorem Cmp_ev (a b : List UInt8) (la : Sm a) (lb : Sm b) (da : Dig a) (db : Dig b) : Ev (fun k => num_Cmp.f k (S a) (S b)) (cmpN (nvl a) (nvl b)) := by
  unfold num_Cmp.f
  refine Ev.bind (all_ev a b la lb) ?_
  rw [decide_eq_true (⟨da, db⟩ : Dig a ∧ Dig b)]
  refine Ev.if_pos rfl ?_
  refine Ev.bind (Trim_dig a (by unfold Sm at la; omega) da) (Ev.bind (Trim_dig b (by unfold Sm at lb; omega) db) ?_)
  simp only [S_size]
  by_cases h : (mkl (nvl a)).length = (mkl (nvl b)).length
  · refine Ev.if_pos (by omega) ?_
    refine Ev.const (a := cmpN (nvl a) (nvl b)) ?_ (Ev.now _)
    unfold strings_Compare.f
    rw [S_data, S_data, compareBytes_dig _ _ (dig_mkl _) (dig_mkl _) h, nvl_mkl, nvl_mkl]
  · refine Ev.if_neg (by omega) ?_
    refine Ev.const (a := cmpN (nvl a) (nvl b)) ?_ (Ev.now _)
    unfold cmp_Compare_int.f Lib.compareInt
    congr 1
    unfold cmpN
    rcases Nat.lt_or_ge (mkl (nvl a)).length (mkl (nvl b)).length with h1 | h1
    · have := len_lt h1
      rw [_root_.if_pos (by omega), _root_.if_pos this]
    · have := len_lt (show (mkl (nvl b)).length < (mkl (nvl a)).length by omega)
      rw [_root_.if_neg (by omega), _root_.if_pos (by omega), _root_.if_neg (by omega), _root_.if_pos this]
theorem Cmp_not (a b : List UInt8) (la : Sm a) (lb : Sm b) (h : ¬ (Dig a ∧ Dig b)) : Ev (fun k => num_Cmp.f k (S a) (S b)) 0 := by
  unfold num_Cmp.f
  refine Ev.bind (all_ev a b la lb) ?_
  rw [decide_eq_false h]
  exact Ev.if_neg (by decide) (Ev.now _)

/-! what is left -/
theorem sub_no {x y c : Nat} (hx : x ≤ 9) (hy : y ≤ 9) (hc : c ≤ 1) : wrap64 (wrap64 ((x : Int) - y) - c) = (x : Int) - y - c := by
  rw [w64 (x := (x : Int) - y) (by omega) (by omega), w64 (by omega) (by omega)]
theorem sub_lo {x y c : Nat} (hx : x ≤ 9) (hy : y ≤ 9) (hc : c ≤ 1) (h : x < y + c) : (48 + (wrap64 ((x : Int) - y - c + 10))) % 256 = ((48 + (x + 10 - y - c) : Nat) : Int) := by
  rw [w64 (by omega) (by omega)]; omega
theorem sub_hi {x y c : Nat} (hx : x ≤ 9) (h : y + c ≤ x) : (48 + ((x : Int) - y - c)) % 256 = ((48 + (x - y - c) : Nat) : Int) := by omega
theorem Sub_go (a b : List UInt8) (la : a.length ≤ 100000000000) (lb : b.length ≤ 100000000000) (da : Dig a) (db : Dig b) (i : Nat) (back : List Int) (c x y : Nat) (hi : i < a.length) (hb : back.length < 140737488355328) (hc : c ≤ 1)
    (hx : nvl a / 10 ^ i % 10 = x) (hy : nvl b / 10 ^ i % 10 = y) (hx9 : x ≤ 9) (hy9 : y ≤ 9) (k : Nat) :
    num_Sub.l0 (k + 1) (S a) (S b) back (c : Int) (a.length : Int) (i : Int) = if x < y + c then num_Sub.l0 k (S a) (S b) (back ++ [((48 + (x + 10 - y - c) : Nat) : Int)]) ((1 : Nat) : Int) (a.length : Int) ((i + 1 : Nat) : Int) else num_Sub.l0 k (S a) (S b) (back ++ [((48 + (x - y - c) : Nat) : Int)]) ((0 : Nat) : Int) (a.length : Int) ((i + 1 : Nat) : Int) := by
  rw [num_Sub.l0, _root_.if_pos (by omega), at_ev a la da i (by omega), at_ev b lb db i (by omega), hx, hy]
  clear hx hy
  simp only [Option.bind_some]
  rw [sub_no hx9 hy9 hc, inc64 (by omega)]
  by_cases h : x < y + c
  · rw [_root_.if_pos h, _root_.if_pos (by omega), _root_.if_pos hb, sub_lo hx9 hy9 hc h]; rfl
  · rw [_root_.if_neg h, _root_.if_neg (by omega), _root_.if_pos hb, sub_hi hx9 (by omega)]; rfl
theorem Sub_loop (a b : List UInt8) (la : a.length ≤ 100000000000) (lb : b.length ≤ 100000000000) (da : Dig a) (db : Dig b) (hle : nvl b ≤ nvl a) (d : Nat) : ∀ (i : Nat) (back : List Int) (c : Nat), i + d = a.length → DI back → back.length = i → c ≤ 1 →
    rvi back + nvl b % 10 ^ i = nvl a % 10 ^ i + 10 ^ i * c → Ev (fun k => num_Sub.l0 k (S a) (S b) back (c : Int) (a.length : Int) (i : Int)) (S (mkl (nvl a - nvl b)), true) := by
  induction d with
  | zero =>
    intro i back c hi hD hl hc hv
    obtain rfl : i = a.length := by clear hv; omega
    have hA := nvl_lt da
    have hR := rvi_lt hD
    rw [hl] at hR
    have hv' := sub_end_math hR hA (Nat.lt_of_le_of_lt hle hA) hle hc hv
    clear hv
    refine Ev.step (f := fun k => (num_text.f k back).bind fun t => some (t, true)) (fun k => ?_) ?_
    · rw [num_Sub.l0, _root_.if_neg (by clear hv' hA hR; omega)]
    · have := text_ev back (by clear hv' hA hR; omega) hD
      rw [hv'] at this
      exact Ev.bind this (Ev.now _)
  | succ d ih =>
    intro i back c hi hD hl hc hv
    obtain ⟨x, hx⟩ : ∃ x, nvl a / 10 ^ i % 10 = x := ⟨_, rfl⟩
    obtain ⟨y, hy⟩ : ∃ y, nvl b / 10 ^ i % 10 = y := ⟨_, rfl⟩
    have hx9 : x ≤ 9 := by clear hv hy; omega
    have hy9 : y ≤ 9 := by clear hv hx; omega
    have hgo := Sub_go a b la lb da db i back c x y (by clear hv hx hy; omega) (by clear hv hx hy; omega) hc hx hy hx9 hy9
    by_cases h : x < y + c
    · have e3 := sub_step_math hx hy hv 1 (q := x + 10 - y - c) (by clear hv hx hy hgo; omega)
      refine Ev.step (fun k => (hgo k).trans (_root_.if_pos h)) ?_
      clear hv hx hy hgo
      refine ih (i + 1) _ 1 (by clear e3; omega) (hD.snoc (by clear e3; omega) (by clear e3; omega)) (by simp [hl]) (by omega) ?_
      rw [rvi_snoc, hl, show (((48 + (x + 10 - y - c) : Nat) : Int) - 48).toNat = x + 10 - y - c by clear e3; omega]
      exact e3
    · have e3 := sub_step_math hx hy hv 0 (q := x - y - c) (by clear hv hx hy hgo; omega)
      refine Ev.step (fun k => (hgo k).trans (_root_.if_neg h)) ?_
      clear hv hx hy hgo
      refine ih (i + 1) _ 0 (by clear e3; omega) (hD.snoc (by clear e3; omega) (by clear e3; omega)) (by simp [hl]) (by omega) ?_
      rw [rvi_snoc, hl, show (((48 + (x - y - c) : Nat) : Int) - 48).toNat = x - y - c by clear e3; omega]
      exact e3
theorem Sub_none (a b : ByteArray) : Ev (fun k => num_Sub.j0 k a b true) (S [], false) := by
  refine Ev.step (f := fun k => some (S [], false)) (fun k => ?_) (Ev.now _)
  rw [num_Sub.j0, _root_.if_pos rfl]; rfl
theorem Sub_ev (a b : List UInt8) (la : Sm a) (lb : Sm b) (da : Dig a) (db : Dig b) (h : nvl b ≤ nvl a) : Ev (fun k => num_Sub.f k (S a) (S b)) (S (mkl (nvl a - nvl b)), true) := by
  unfold num_Sub.f
  refine Ev.bind (all_ev a b la lb) ?_
  rw [decide_eq_true (⟨da, db⟩ : Dig a ∧ Dig b)]
  refine Ev.if_pos rfl (Ev.bind (Cmp_ev a b la lb da db) ?_)
  rw [decide_eq_false (by rw [cmpN_neg]; omega : ¬ cmpN (nvl a) (nvl b) < 0)]
  refine Ev.step (f := fun k => num_Sub.l0 k (S a) (S b) [] 0 (a.length : Int) 0) (fun k => ?_) ?_
  · rw [num_Sub.j0, _root_.if_neg (by decide)]; rfl
  · exact Sub_loop a b la lb da db h a.length 0 [] 0 (by omega) DI.nil rfl (by omega) (by simp [rvi, Nat.mod_one])
theorem Sub_less (a b : List UInt8) (la : Sm a) (lb : Sm b) (da : Dig a) (db : Dig b) (h : nvl a < nvl b) : Ev (fun k => num_Sub.f k (S a) (S b)) (S [], false) := by
  unfold num_Sub.f
  refine Ev.bind (all_ev a b la lb) ?_
  rw [decide_eq_true (⟨da, db⟩ : Dig a ∧ Dig b)]
  refine Ev.if_pos rfl (Ev.bind (Cmp_ev a b la lb da db) ?_)
  rw [decide_eq_true (by rw [cmpN_neg]; omega : cmpN (nvl a) (nvl b) < 0)]
  exact Sub_none _ _
theorem Sub_not (a b : List UInt8) (la : Sm a) (lb : Sm b) (h : ¬ (Dig a ∧ Dig b)) : Ev (fun k => num_Sub.f k (S a) (S b)) (S [], false) := by
  unfold num_Sub.f
  refine Ev.bind (all_ev a b la lb) ?_
  rw [decide_eq_false h]
  exact Ev.if_neg (by decide) (Sub_none _ _)

/-! how often -/
theorem div_byte {q : Nat} (h : q ≤ 9) : ((48 + (q : Int)) % 256).toNat = 48 + q := by omega
theorem Div_go (m : Nat) (hm : 0 < m) (l : List UInt8) (hd : Dig l) : Dig (num_Div.go (m : Int) l).1 ∧ ∃ r : Nat, (num_Div.go (m : Int) l).2 = r ∧ r < m ∧ nvl (num_Div.go (m : Int) l).1 * m + r = nvl l := by
  unfold num_Div.go
  induction l using snoc_induction with
  | h0 => exact ⟨Dig.nil, 0, rfl, hm, by simp⟩
  | h1 l c ih =>
    rw [dig_append, dig_cons] at hd
    obtain ⟨ih1, r, ih2, ih3, ih4⟩ := ih hd.1
    rw [List.foldl_append, List.foldl_cons, List.foldl_nil]
    obtain ⟨p, hp⟩ : ∃ p, l.foldl (num_Div.step (m : Int)) ([], 0) = p := ⟨_, rfl⟩
    rw [hp] at ih1 ih2 ih4 ⊢
    have hc := hd.2.1
    have hmath := div_step_math hm ih3 (show c.toNat - 48 ≤ 9 by omega) ih4
    have hrest : num_Div.rest (m : Int) p.2 c = ((10 * r + (c.toNat - 48) : Nat) : Int) := by
      unfold num_Div.rest; rw [ih2]; clear hmath ih4; omega
    have hq : num_Div.rest (m : Int) p.2 c / (m : Int) = (((10 * r + (c.toNat - 48)) / m : Nat) : Int) := by rw [hrest]; rfl
    have hr : num_Div.rest (m : Int) p.2 c % (m : Int) = (((10 * r + (c.toNat - 48)) % m : Nat) : Int) := by rw [hrest]; rfl
    unfold num_Div.step
    simp only [hq, hr]
    rw [div_byte hmath.1]
    have hb : (UInt8.ofNat (48 + (10 * r + (c.toNat - 48)) / m)).toNat = 48 + (10 * r + (c.toNat - 48)) / m := ofNat_toNat (by have := hmath.1; clear hmath ih4 hq hr; omega)
    refine ⟨?_, _, rfl, Nat.mod_lt _ hm, ?_⟩
    · rw [dig_append, dig_cons]
      exact ⟨ih1, ⟨by rw [hb]; exact Nat.le_add_right 48 _, by rw [hb]; exact Nat.add_le_add_left hmath.1 48⟩, Dig.nil⟩
    · rw [nvl_snoc, nvl_snoc, hb, Nat.add_sub_cancel_left]
      exact hmath.2
theorem Div_ev (a : List UInt8) (la : Sm a) (da : Dig a) (m : Nat) (h1 : 1 ≤ m) (h2 : m ≤ 1000000000) : Ev (fun k => num_Div.f k (S a) (m : Int)) (S (mkl (nvl a / m)), ((nvl a % m : Nat) : Int)) := by
  obtain ⟨hg, r, hr, hlt, hv⟩ := Div_go m h1 a da
  have hq : nvl (num_Div.go (m : Int) a).1 = nvl a / m := by
    rw [← hv, Nat.mul_comm, Nat.mul_add_div h1, Nat.div_eq_of_lt hlt]; rfl
  have hr2 : r = nvl a % m := by rw [← hv, Nat.mul_comm, Nat.mul_add_mod, Nat.mod_eq_of_lt hlt]
  have hlen : (num_Div.go (m : Int) a).1.length = a.length := (num_Div.go_inv (m : Int) (by omega) a).1
  unfold num_Div.f
  refine Ev.bind (Is_ev a (by unfold Sm at la; omega)) ?_
  rw [decide_eq_true da]
  refine Ev.if_pos rfl (Ev.if_neg (by omega) (Ev.if_neg (by omega) (Ev.if_pos (by rw [S_size]; unfold Sm at la; omega) ?_)))
  rw [S_data]
  refine Ev.bind (Trim_dig _ (by rw [hlen]; unfold Sm at la; omega) hg) ?_
  rw [hq, hr, hr2]
  exact Ev.now _
theorem Div_not (a : List UInt8) (la : Sm a) (m : Int) (h : ¬ (Dig a ∧ 1 ≤ m ∧ m ≤ 1000000000)) : Ev (fun k => num_Div.f k (S a) m) (S [], 0) := by
  unfold num_Div.f
  refine Ev.bind (Is_ev a (by unfold Sm at la; omega)) ?_
  by_cases da : Dig a
  · rw [decide_eq_true da]
    refine Ev.if_pos rfl ?_
    have hh : ¬ (1 ≤ m ∧ m ≤ 1000000000) := fun hh => h ⟨da, hh⟩
    by_cases h0 : m < 1
    · exact Ev.if_pos h0 (Ev.now _)
    · exact Ev.if_neg h0 (Ev.if_pos (by omega) (Ev.now _))
  · rw [decide_eq_false da]
    exact Ev.if_neg (by decide) (Ev.now _)

/-! a number as an int -/
theorem Int_go (l : List UInt8) (hd : Dig l) (hl : l.length ≤ 18) : num_Int.go l = (nvl l : Int) := by
  unfold num_Int.go
  induction l using snoc_induction with
  | h0 => rfl
  | h1 l c ih =>
    rw [dig_append, dig_cons] at hd
    have hl' : l.length ≤ 18 := by simp at hl; omega
    rw [List.foldl_append, List.foldl_cons, List.foldl_nil, ih hd.1 hl', nvl_snoc]
    have hlt : nvl l < 10 ^ 18 := Nat.lt_of_lt_of_le (nvl_lt hd.1) (Nat.pow_le_pow_right (by omega) hl')
    have hlt' : nvl l < 10 ^ 17 := Nat.lt_of_lt_of_le (nvl_lt hd.1) (Nat.pow_le_pow_right (by omega) (by simp at hl; omega))
    unfold num_Int.step
    have hc := hd.2.1
    rw [w64 (x := 10 * (nvl l : Int)) (by omega) (by omega), w64 (by omega) (by omega)]
    omega
theorem Int_ev (a : List UInt8) (la : Sm a) (da : Dig a) (h : nvl a < 10 ^ 18) : Ev (fun k => num_Int.f k (S a)) ((nvl a : Int), true) := by
  unfold num_Int.f
  refine Ev.bind (Is_ev a (by unfold Sm at la; omega)) ?_
  rw [decide_eq_true da]
  refine Ev.if_pos rfl (Ev.bind (Trim_dig a (by unfold Sm at la; omega) da) ?_)
  have hl : (mkl (nvl a)).length ≤ 18 := mkl_length_le.2 h
  refine Ev.if_neg (by rw [S_size]; omega) ?_
  rw [S_data, Int_go _ (dig_mkl _) hl, nvl_mkl]
  exact Ev.now _
theorem Int_long (a : List UInt8) (la : Sm a) (da : Dig a) (h : 10 ^ 18 ≤ nvl a) : Ev (fun k => num_Int.f k (S a)) (0, false) := by
  unfold num_Int.f
  refine Ev.bind (Is_ev a (by unfold Sm at la; omega)) ?_
  rw [decide_eq_true da]
  refine Ev.if_pos rfl (Ev.bind (Trim_dig a (by unfold Sm at la; omega) da) ?_)
  have hl : ¬ (mkl (nvl a)).length ≤ 18 := by rw [mkl_length_le]; omega
  exact Ev.if_pos (by rw [S_size]; omega) (Ev.now _)
theorem Int_not (a : List UInt8) (la : Sm a) (da : ¬ Dig a) : Ev (fun k => num_Int.f k (S a)) (0, false) := by
  unfold num_Int.f
  refine Ev.bind (Is_ev a (by unfold Sm at la; omega)) ?_
  rw [decide_eq_false da]
  exact Ev.if_neg (by decide) (Ev.now _)

/-! noughts -/
theorem repeat_zs (n : Nat) : Lib.repeatL [48] n = zs n := by
  induction n with
  | zero => rfl
  | succ n ih => rw [Lib.repeatL, ih]; rfl
theorem Zeros_ev (n : Int) : num_Zeros.f n = some (S (zs (min n.toNat 60000))) := by
  unfold num_Zeros.f
  have e : mn (mx n 0) 60000 = ((min n.toNat 60000 : Nat) : Int) := by
    unfold mn mx
    repeat' split
    all_goals omega
  rw [e]
  unfold strings_Repeat.f
  rw [_root_.if_pos ⟨by omega, by omega, by show 1 * _ ≤ _; omega⟩, Int.toNat_natCast]
  show some (S (Lib.repeatL [48] _)) = _
  rw [repeat_zs]
end Go.Proofs.YtefacokhmmpiaaaDoor.P
