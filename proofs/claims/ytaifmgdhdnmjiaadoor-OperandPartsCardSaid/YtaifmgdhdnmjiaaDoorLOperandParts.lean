import Derived.Test.YtaifmgdhdnmjiaaDoorO2
import Derived.Test.YtaifmgdhdnmjiaaDoorD1
import Derived.Test.YtaifmgdhdnmjiaaDoorPx14
import Derived.Test.YtaifmgdhdnmjiaaDoorPx15
import Derived.Test.YtaifmgdhdnmjiaaDoorPx3
import Derived.Test.YtaifmgdhdnmjiaaDoorPx4
namespace Go.Proofs.YtaifmgdhdnmjiaaDoor.P
open Go.RowKit Go.Proofs.YtaifmgdhdnmjiaaDoorW.PrintWords Go.Proofs.YtaifmgdhdnmjiaaDoorW.PrintLast Go.Proofs.YtaifmgdhdnmjiaaDoorW.PrintMore Go.Proofs.YtaifmgdhdnmjiaaDoor.FM
set_option linter.unusedVariables false
set_option linter.unusedSimpArgs false

theorem trim_ev (l : List UInt8) (hl : l.length ≤ 1000000) (hd : Dig l) : Ev (fun k => num_Trim.f k (S l)) (S (mkl (nvl l))) := Trim_dig l (by omega) hd
theorem T_ev (I f : ByteArray) (l : List UInt8) (e : Int) (hl : l.length ≤ 1000000) (hd : Dig l) : Ev (fun k => operand_Ops_T.f k I (S l) e) (S (mkl (nvl (tr l)))) := by
  unfold operand_Ops_T.f
  refine Ev.const (OpBare_ev l (by omega)) (Ev.bind (trim_ev (tr l) ?_ (dig_tr hd)) (Ev.now _))
  have := (tr_eq l).2
  omega
theorem F_ev (I : ByteArray) (l : List UInt8) (e : Int) (hl : l.length ≤ 1000000) (hd : Dig l) : Ev (fun k => operand_Ops_F.f k I (S l) e) (S (mkl (nvl l))) := by
  unfold operand_Ops_F.f
  exact Ev.bind (trim_ev l hl hd) (Ev.now _)
theorem V_ev (I : ByteArray) (l : List UInt8) (e : Int) : operand_Ops_V.f I (S l) e = some (l.length : Int) := rfl
theorem W_ev (I : ByteArray) (l : List UInt8) (e : Int) (hl : l.length ≤ 1000000) : operand_Ops_W.f I (S l) e = some ((tr l).length : Int) := by
  unfold operand_Ops_W.f
  rw [OpBare_ev l (by omega)]; rfl
theorem Whole_ev (I : ByteArray) (l : List UInt8) (e : Int) (hl : l.length ≤ 1000000) (hd : Dig l) : Ev (fun k => operand_Ops_Whole.f k I (S l) e) (decide (nvl (tr l) = 0)) := by
  unfold operand_Ops_Whole.f
  refine Ev.bind (T_ev I (S l) l e hl hd) ?_
  have e1 : ((S (mkl (nvl (tr l)))).toList == ([] : List UInt8)) = decide (nvl (tr l) = 0) := by
    rw [S_toList]
    by_cases h : nvl (tr l) = 0
    · rw [h, mkl_zero]; rfl
    · rw [decide_eq_false h]; exact beq_eq_false_iff_ne.2 (fun h2 => h (mkl_eq_nil.1 h2))
  rw [e1]
  exact Ev.now _
/-- noughts at the end make it as much greater -/
theorem nvl_tr (l : List UInt8) : nvl l = nvl (tr l) * 10 ^ (l.length - (tr l).length) := by
  conv => lhs; rw [(tr_eq l).1]
  rw [nvl_append_zs]
theorem parts_l3 (I : ByteArray) (l : List UInt8) (hl : l.length ≤ 1000) (hd : Dig l) (n : Nat) : ∀ j : Nat, j + n = l.length → (tr l).length ≤ j →
    Ev (fun k => florinlaw05_OperandParts.l3 k (S (mkl (nvl (tr l) * 10 ^ (j - (tr l).length)))) (j : Int) I (S l) 0) true := by
  have hle := (tr_eq l).2
  have hlt := nvl_lt hd
  have hT : nvl (tr l) < 10 ^ (tr l).length := nvl_lt (dig_tr hd)
  induction n with
  | zero =>
    intro j hj hge
    refine Ev.step (fun k => (by rw [florinlaw05_OperandParts.l3])) (Ev.const (V_ev I l 0) ?_)
    refine Ev.if_neg (by omega) (Ev.bind (F_ev I l 0 (by omega) hd) (Ev.yes ?_))
    rw [S_toList, S_toList, show j = l.length by omega, ← nvl_tr]
    simp
  | succ n ih =>
    intro j hj hge
    have hv : nvl (tr l) * 10 ^ (j - (tr l).length) < 10 ^ j := by
      have h1 := Nat.mul_lt_mul_of_pos_right hT (Nat.pow_pos (n := j - (tr l).length) (by decide : 0 < 10))
      rwa [← Nat.pow_add, show (tr l).length + (j - (tr l).length) = j by omega] at h1
    have ht := Times_ev (mkl (nvl (tr l) * 10 ^ (j - (tr l).length))) (mkl_len_of hv (by omega)) (dig_mkl _) 10 (by omega)
    rw [nvl_mkl, Nat.mul_assoc, ← Nat.pow_succ, Nat.succ_eq_add_one, show (j - (tr l).length) + 1 = j + 1 - (tr l).length by omega] at ht
    refine Ev.step (fun k => (by rw [florinlaw05_OperandParts.l3])) (Ev.const (V_ev I l 0) ?_)
    refine Ev.if_pos (by omega) (Ev.bind ht ?_)
    rw [show wrap64 ((j : Int) + 1) = ((j + 1 : Nat) : Int) by rw [w64 (by omega) (by omega)]; rfl]
    exact ih (j + 1) (by omega) (by omega)
/-- are these noughts alone? -/
def nz (l : List UInt8) : Bool := decide (tr l = [])
theorem tr_nil_iff (l : List UInt8) : tr l = [] ↔ ∀ c ∈ l, c = 48 := by
  constructor
  · intro h c hc
    rw [(tr_eq l).1, h, List.nil_append] at hc
    unfold zs at hc
    exact List.eq_of_mem_replicate hc
  · intro h
    rcases List.eq_nil_or_concat (tr l) with h0 | ⟨t, c, h0⟩
    · exact h0
    · exfalso
      have hl := tr_last l
      rw [h0, List.concat_eq_append, List.getLast?_concat] at hl
      apply hl
      rw [h c]
      rw [(tr_eq l).1, h0]
      simp
theorem tr_zero_iff (l : List UInt8) (hd : Dig l) : nvl (tr l) = 0 ↔ tr l = [] := by
  constructor
  · intro h
    rcases List.eq_nil_or_concat (tr l) with h0 | ⟨t, c, h0⟩
    · exact h0
    · exfalso
      have hl := tr_last l
      have hc : c ∈ tr l := by rw [h0]; simp
      have hdc := dig_tr hd c hc
      rw [h0, List.concat_eq_append] at h hl
      rw [List.getLast?_concat] at hl
      rw [nvl_snoc] at h
      apply hl
      congr 1
      apply UInt8.toNat_inj.1
      have : (48 : UInt8).toNat = 48 := rfl
      omega
  · intro h; rw [h]; rfl
def nzb (l : List UInt8) : Bool := l.all (fun c => c == 48)
theorem nzb_iff (l : List UInt8) (hd : Dig l) : nzb l = decide (nvl (tr l) = 0) := by
  unfold nzb
  by_cases h : nvl (tr l) = 0
  · rw [decide_eq_true h, List.all_eq_true]
    intro c hc
    rw [(tr_nil_iff l).1 ((tr_zero_iff l hd).1 h) c hc]; rfl
  · rw [decide_eq_false h]
    apply Bool.eq_false_iff.2
    intro h2
    apply h
    apply (tr_zero_iff l hd).2
    apply (tr_nil_iff l).2
    intro c hc
    exact beq_iff_eq.1 (List.all_eq_true.1 h2 c hc)
theorem parts_l2 (x1 : List Int) (z : Nat) (a l : List UInt8) (neg : Bool) (h1 : x1.length ≤ 60) (hz : z ≤ 7) (hlen : l.length = x1.length + z) (ha : a.length ≤ 100) (da : Dig a) (hd : Dig l) (n : Nat) : ∀ j : Nat, j + n = l.length → ∀ b : Bool, b = nzb (l.take j) →
    Ev (fun k => florinlaw05_OperandParts.l2 k x1 (z : Int) ((tr l).length : Int) b (j : Int) neg (S a) (S l) (S (mkl (nvl a))) (S l) 0) true := by
  have hle := (tr_eq l).2
  induction n with
  | zero =>
    intro j hj b hb
    have hj2 : j = l.length := by omega
    have hb2 : b = decide (nvl (tr l) = 0) := by
      rw [hb, hj2, List.take_length]
      exact nzb_iff l hd
    have htake : l.take (tr l).length = tr l := by
      have e := congrArg (List.take (tr l).length) (tr_eq l).1
      rwa [List.take_left] at e
    refine Ev.step (fun k => (by rw [florinlaw05_OperandParts.l2])) ?_
    refine Ev.if_neg (by rw [S_size]; omega) (Ev.const (V_ev _ l 0) ?_)
    refine Ev.if_pos (by rw [w64 (by omega) (by omega)]; omega) (Ev.const (W_ev _ l 0 (by omega)) (Ev.if_pos rfl ?_))
    refine Ev.bind (F_ev _ l 0 (by omega) hd) (Ev.bind (trim_ev l (by omega) hd) (Ev.if_pos rfl ?_))
    refine Ev.bind (T_ev _ (S l) l 0 (by omega) hd) (Ev.if_pos (by omega) (Ev.if_pos (by rw [S_size]; omega) ?_))
    rw [S_extract, List.drop_zero, Int.toNat_natCast, htake]
    refine Ev.bind (trim_ev (tr l) (by omega) (dig_tr hd)) (Ev.if_pos rfl ?_)
    refine Ev.bind (Whole_ev _ l 0 (by omega) hd) ?_
    refine Ev.if_neg (by rw [hb2]; simp) ?_
    have hI : Ev (fun k => operand_Ops_I.f k (S (mkl (nvl a))) (S l) 0) (S (mkl (nvl a))) := by
      unfold operand_Ops_I.f
      have := trim_ev (mkl (nvl a)) (by have := mkl_length_le.2 (nvl_lt da); omega) (dig_mkl _)
      rw [nvl_mkl] at this
      exact Ev.bind this (Ev.now _)
    refine Ev.bind hI (Ev.bind (trim_ev a (by omega) da) ?_)
    rw [bne_self_eq_false]
    refine Ev.step (fun k => (by rw [florinlaw05_OperandParts.j5, _root_.if_neg (by decide)])) ?_
    refine Ev.bind (T_ev _ (S l) l 0 (by omega) hd) (Ev.const (W_ev _ l 0 (by omega)) ?_)
    have := parts_l3 (S (mkl (nvl a))) l (by omega) hd (l.length - (tr l).length) (tr l).length (by omega) (Nat.le_refl _)
    rw [Nat.sub_self, Nat.pow_zero, Nat.mul_one] at this
    exact this
  | succ n ih =>
    intro j hj b hb
    have hlt : j < l.length := by omega
    have hbt : bt (S l) (j : Int) = (l[j].toNat : Int) := by
      rw [bt_S, Int.toNat_natCast, List.getD_eq_getElem?_getD, List.getElem?_eq_getElem hlt]; rfl
    have hw : wrap64 ((j : Int) + 1) = ((j + 1 : Nat) : Int) := by rw [w64 (by omega) (by omega)]; rfl
    refine Ev.step (fun k => (by rw [florinlaw05_OperandParts.l2])) ?_
    refine Ev.if_pos (by rw [S_size]; omega) ?_
    rw [hw]
    have hstep : nzb (l.take (j + 1)) = (nzb (l.take j) && (l[j] == 48)) := by
      rw [List.take_succ_eq_append_getElem hlt]
      unfold nzb
      rw [List.all_append]
      simp
    cases hbb : b with
    | true =>
      refine Ev.if_pos rfl (Ev.if_pos (by omega) ?_)
      refine ih (j + 1) (by omega) _ ?_
      rw [hstep, ← hb, hbb, Bool.true_and, hbt]
      by_cases hc : l[j] = 48
      · rw [hc]; rfl
      · rw [beq_eq_false_iff_ne.2 hc]
        apply beq_eq_false_iff_ne.2
        intro h
        apply hc
        apply UInt8.toNat_inj.1
        have : (48 : UInt8).toNat = 48 := rfl
        omega
    | false =>
      refine Ev.if_neg (by decide) ?_
      refine ih (j + 1) (by omega) _ ?_
      rw [hstep, ← hb, hbb, Bool.false_and]
theorem parts_l1 (x1 : List Int) (z : Nat) (a l : List UInt8) (neg : Bool) (h1 : x1.length ≤ 60) (hz : z ≤ 7) (hlen : l.length = x1.length + z) (ha : a.length ≤ 100) (da : Dig a) (hd : Dig l) (j : Nat) : j ≤ l.length → tr (l.take j) = tr l →
    Ev (fun k => florinlaw05_OperandParts.l1 k x1 (z : Int) (j : Int) neg (S a) (S l) (S (mkl (nvl a))) (S l) 0) true := by
  have fin : ∀ j : Nat, (tr l).length = j → Ev (fun k => florinlaw05_OperandParts.j3 k x1 (z : Int) (j : Int) neg (S a) (S l) (S (mkl (nvl a))) (S l) 0) true := by
    intro j hj
    refine Ev.step (fun k => (by rw [florinlaw05_OperandParts.j3])) ?_
    rw [← hj]
    exact parts_l2 x1 z a l neg h1 hz hlen ha da hd l.length 0 (by omega) true rfl
  induction j with
  | zero =>
    intro hj ht
    refine Ev.step (fun k => (by rw [florinlaw05_OperandParts.l1])) (Ev.if_neg (by omega) (fin 0 ?_))
    rw [← ht, List.take_zero]; rfl
  | succ j ih =>
    intro hj ht
    have hlt : j < l.length := by omega
    have hbt : bt (S l) (j : Int) = (l[j].toNat : Int) := by
      rw [bt_S, Int.toNat_natCast, List.getD_eq_getElem?_getD, List.getElem?_eq_getElem hlt]; rfl
    have hw : wrap64 (((j + 1 : Nat) : Int) - 1) = (j : Int) := by rw [w64 (by omega) (by omega)]; omega
    refine Ev.step (fun k => (by rw [florinlaw05_OperandParts.l1, hw, hbt])) ?_
    refine Ev.if_pos (by omega) (Ev.if_pos (by omega) (Ev.if_pos (by rw [S_size]; omega) ?_))
    rw [List.take_succ_eq_append_getElem hlt] at ht
    by_cases hc : l[j] = 48
    · rw [hc, tr_snoc_zero] at ht
      exact Ev.if_pos (by rw [hc]; rfl) (ih (by omega) ht)
    · rw [tr_snoc hc] at ht
      refine Ev.if_neg (fun h => hc ?_) (fin (j + 1) ?_)
      · apply UInt8.toNat_inj.1
        have : (48 : UInt8).toNat = 48 := rfl
        omega
      · rw [← ht, List.length_append, List.length_take, List.length_singleton]; omega
theorem parts_l0 (x1 : List Int) (z : Nat) (a b : List UInt8) (neg : Bool) (h1 : x1.length ≤ 60) (hz : z ≤ 7) (hlen : b.length = x1.length) (ha : a.length ≤ 100) (da : Dig a) (hd : Dig b) (n : Nat) : ∀ j : Nat, j + n = z →
    Ev (fun k => florinlaw05_OperandParts.l0 k x1 (z : Int) (j : Int) neg (S a) (S (b ++ zs j))) true := by
  induction n with
  | zero =>
    intro j hj
    have hj2 : j = z := by omega
    have hlen2 : (b ++ zs j).length = x1.length + z := by rw [List.length_append, zs_length]; omega
    have hof := OpOf_ev neg a (b ++ zs j) (by omega) (by omega) da (hd.append (dig_zs j)) 0
    have e1 : ofE 0 = 0 := rfl
    have e2 : ofN (b ++ zs j) 0 = 0 := by unfold ofN; rw [e1]; simp
    have e3 : ofInt a (b ++ zs j) 0 = nvl a := by unfold ofInt; rw [e2, e1]; simp
    rw [e1, e2, e3, List.drop_zero] at hof
    refine Ev.step (fun k => (by rw [florinlaw05_OperandParts.l0])) (Ev.if_neg (by omega) (Ev.bind hof ?_))
    rw [S_size]
    exact parts_l1 x1 z a (b ++ zs j) neg h1 hz hlen2 ha da (hd.append (dig_zs j)) (b ++ zs j).length (Nat.le_refl _) (by rw [List.take_length])
  | succ n ih =>
    intro j hj
    have hw : wrap64 ((j : Int) + 1) = ((j + 1 : Nat) : Int) := by rw [w64 (by omega) (by omega)]; rfl
    refine Ev.step (fun k => (by rw [florinlaw05_OperandParts.l0, hw])) (Ev.if_pos (by omega) (Ev.if_pos (by rw [S_size, List.length_append, zs_length]; omega) ?_))
    have e0 : (S (b ++ zs j) ++ (⟨#[48]⟩ : ByteArray)) = S (b ++ zs (j + 1)) := by
      rw [show ((⟨#[48]⟩ : ByteArray)) = S [48] from rfl, S_append, List.append_assoc, zs_add j 1]; rfl
    rw [e0]
    exact ih (j + 1) (by omega)
theorem parts_end (l0 l1 : List Int) (a2 : Int) (h0 : l0.length ≤ 60) (h1 : l1.length ≤ 60) (w0 : ∀ x ∈ l0, (Lit.int .u8 x).wf = true) (w1 : ∀ x ∈ l1, (Lit.int .u8 x).wf = true) :
    Ev (fun k => florinlaw05_OperandParts.j0 k l0 l1 a2 false) true := by
  obtain ⟨a, b, da, db, la, lb, _, _, hs⟩ := Shown_ev l0 l1 (by omega) (by omega) w0 w1
  obtain ⟨z, hz, hz2⟩ := low64 3 (by decide) a2 7 (by decide)
  replace hz2 : z < 8 := hz2
  refine Ev.step (fun k => (by rw [florinlaw05_OperandParts.j0, _root_.if_neg (by decide), hz])) (Ev.bind hs ?_)
  have h := parts_l0 l1 z a b false h1 (by omega) lb (by omega) da db z 0 (by omega)
  rw [zs_zero, List.append_nil] at h
  exact h
theorem pureOperandParts : florinlaw05_OperandParts.Pure := by
  intro l0 l1 a2 _ h0 w0 _ h1 w1 _
  refine Ev.rounds ?_
  unfold florinlaw05_OperandParts.f
  have yes : Ev (fun k => florinlaw05_OperandParts.j0 k l0 l1 a2 true) true := Ev.step (f := fun _ => some true) (fun k => by rw [florinlaw05_OperandParts.j0, _root_.if_pos rfl]) (Ev.now _)
  refine Ev.bind head05 (Ev.if_pos rfl ?_)
  by_cases h2 : (l0.length : Int) > 60
  · exact Ev.if_pos h2 yes
  refine Ev.if_neg h2 ?_
  by_cases h3 : (l1.length : Int) > 60
  · rw [decide_eq_true h3]; exact yes
  rw [decide_eq_false h3]
  exact parts_end l0 l1 a2 (by omega) (by omega) w0 w1
end Go.Proofs.YtaifmgdhdnmjiaaDoor.P
