import Derived.Test.YtlkiaeipbekpkaaDoorD1
import Derived.Test.YtlkiaeipbekpkaaDoorO1
import Derived.Test.YtlkiaeipbekpkaaDoorPx2
import Derived.Test.YtlkiaeipbekpkaaDoorPx3
namespace Go.Proofs.YtlkiaeipbekpkaaDoor.P
open Go.RowKit Go.Proofs.YtlkiaeipbekpkaaDoorW.PrintWords Go.Proofs.YtlkiaeipbekpkaaDoorW.PrintLast Go.Proofs.YtlkiaeipbekpkaaDoorW.PrintMore Go.Proofs.YtlkiaeipbekpkaaDoor.FM
set_option linter.unusedVariables false
set_option linter.unusedSimpArgs false

/-! the reader of decimals -/
def hin (some r : List UInt8) : Bool := match r with | [] => false | c :: _ => decide (c ∈ some)
theorem hin_nil (s : List UInt8) : hin s [] = false := rfl
theorem hin_cons (s : List UInt8) (c : UInt8) (r : List UInt8) : hin s (c :: r) = decide (c ∈ s) := rfl
def isd (c : UInt8) : Bool := decide (48 ≤ c.toNat ∧ c.toNat ≤ 57)
def dg (r : List UInt8) : List UInt8 := r.takeWhile isd
def dr (r : List UInt8) : List UInt8 := r.dropWhile isd
theorem dig_dg (r : List UInt8) : Dig (dg r) := by
  intro c hc
  have := List.all_eq_true.1 (List.all_takeWhile (l := r) (p := isd)) c hc
  exact of_decide_eq_true this
theorem dg_dr (r : List UInt8) : dg r ++ dr r = r := List.takeWhile_append_dropWhile
theorem dr_drop (r : List UInt8) : dr r = r.drop (dg r).length := by
  have h := congrArg (List.drop (dg r).length) (dg_dr r)
  rwa [List.drop_left] at h
theorem dg_length (r : List UInt8) : (dg r).length + (dr r).length = r.length := by rw [← List.length_append, dg_dr]
theorem dg_append {ds rest : List UInt8} (h : Dig ds) (hr : hin [48, 49, 50, 51, 52, 53, 54, 55, 56, 57] rest = false) : dg (ds ++ rest) = ds ∧ dr (ds ++ rest) = rest := by
  have hd : ∀ c ∈ ds, isd c = true := fun c hc => decide_eq_true (h c hc)
  unfold dg dr
  rw [List.takeWhile_append_of_pos hd, List.dropWhile_append_of_pos hd]
  cases rest with
  | nil => simp
  | cons c t =>
    have hc : ¬ isd c = true := by
      intro h2
      have h3 := of_decide_eq_true h2
      rw [hin_cons] at hr
      have h4 : c ∉ ([48, 49, 50, 51, 52, 53, 54, 55, 56, 57] : List UInt8) := of_decide_eq_false hr
      apply h4
      have h5 : c = UInt8.ofNat c.toNat := by simp
      rw [h5]
      have : c.toNat = 48 ∨ c.toNat = 49 ∨ c.toNat = 50 ∨ c.toNat = 51 ∨ c.toNat = 52 ∨ c.toNat = 53 ∨ c.toNat = 54 ∨ c.toNat = 55 ∨ c.toNat = 56 ∨ c.toNat = 57 := by omega
      rcases this with h | h | h | h | h | h | h | h | h | h <;> rw [h] <;> decide
    rw [List.takeWhile_cons_of_neg hc, List.dropWhile_cons_of_neg hc]
    simp
theorem isd_mem (c : UInt8) : isd c = decide (c ∈ ([48, 49, 50, 51, 52, 53, 54, 55, 56, 57] : List UInt8)) := by
  have h5 : c = UInt8.ofNat c.toNat := by simp
  unfold isd
  apply decide_eq_decide.2
  constructor
  · intro h3
    rw [h5]
    have : c.toNat = 48 ∨ c.toNat = 49 ∨ c.toNat = 50 ∨ c.toNat = 51 ∨ c.toNat = 52 ∨ c.toNat = 53 ∨ c.toNat = 54 ∨ c.toNat = 55 ∨ c.toNat = 56 ∨ c.toNat = 57 := by omega
    rcases this with h | h | h | h | h | h | h | h | h | h <;> rw [h] <;> decide
  · intro h
    simp only [List.mem_cons, List.not_mem_nil, or_false] at h
    rcases h with h | h | h | h | h | h | h | h | h | h <;> subst h <;> decide
theorem take_ev (l s : List UInt8) (i : Nat) (hi : i ≤ 1000000000000) :
    dec_reader_take.f (S l) (i : Int) (S s) = some (hin s (l.drop i), S l, (((if hin s (l.drop i) = true then i + 1 else i) : Nat) : Int)) := by
  unfold dec_reader_take.f
  by_cases h : i < l.length
  · have hbt : bt (S l) (i : Int) = (l[i].toNat : Int) := by
      rw [bt_S, Int.toNat_natCast, List.getD_eq_getElem?_getD, List.getElem?_eq_getElem h]; rfl
    have hix : strings_IndexByte.f (S s) (bt (S l) (i : Int)) = some (Lib.indexByte s l[i]) := by
      unfold strings_IndexByte.f; rw [S_data, hbt, toUInt8_toNat]
    have e : l.drop i = l[i] :: l.drop (i + 1) := (List.getElem_cons_drop (h := h)).symm
    rw [_root_.if_pos (by rw [S_size]; omega), _root_.if_pos (by omega), hix, Option.bind_some, e, hin_cons]
    by_cases hc : l[i] ∈ s
    · rw [_root_.if_pos ((indexByte_mem s l[i]).2 hc), decide_eq_true hc, _root_.if_pos rfl, inc64 (by omega)]
    · rw [_root_.if_neg (fun h => hc ((indexByte_mem s l[i]).1 h)), decide_eq_false hc, _root_.if_neg (by decide)]
  · rw [_root_.if_neg (by rw [S_size]; omega), List.drop_eq_nil_of_le (by omega), hin_nil, _root_.if_neg (by decide)]
theorem digits_loop (l : List UInt8) (hl : l.length ≤ 100000000000) (i : Nat) (n : Nat) : ∀ j : Nat, i ≤ j → j + n = l.length → dg (l.drop i) = (l.drop i).take (j - i) ++ dg (l.drop j) →
    Ev (fun k => dec_reader_digits.l0 k (i : Int) (S l) (j : Int)) (S (dg (l.drop i)), S l, ((i + (dg (l.drop i)).length : Nat) : Int)) := by
  have fin : ∀ j : Nat, i ≤ j → j ≤ l.length → hin [48, 49, 50, 51, 52, 53, 54, 55, 56, 57] (l.drop j) = false → dg (l.drop i) = (l.drop i).take (j - i) ++ dg (l.drop j) →
      Ev (fun k => dec_reader_digits.l0 k (i : Int) (S l) (j : Int)) (S (dg (l.drop i)), S l, ((i + (dg (l.drop i)).length : Nat) : Int)) := by
    intro j hij hj hh he
    have ht := take_ev l [48, 49, 50, 51, 52, 53, 54, 55, 56, 57] j (by omega)
    rw [hh, _root_.if_neg (by decide)] at ht
    have h0 : dg (l.drop j) = [] := by
      have := (dg_append (ds := []) (rest := l.drop j) Dig.nil hh).1
      rwa [List.nil_append] at this
    rw [h0, List.append_nil] at he
    refine Ev.step (f := fun _ => some (S ((l.take j).drop i), S l, (j : Int))) (fun k => ?_) ?_
    · rw [dec_reader_digits.l0]
      show ((dec_reader_take.f (S l) (j : Int) (S [48, 49, 50, 51, 52, 53, 54, 55, 56, 57])).bind _) = _
      rw [ht, Option.bind_some]
      dsimp only
      rw [_root_.if_neg (by decide), _root_.if_pos (by omega), _root_.if_pos (by omega), _root_.if_pos (by rw [S_size]; omega), S_extract, Int.toNat_natCast, Int.toNat_natCast]
    · have e2 : (dg (l.drop i)).length = j - i := by rw [he, List.length_take, List.length_drop]; omega
      rw [e2, he, List.drop_take, show i + (j - i) = j by omega]
      exact Ev.now _
  induction n with
  | zero =>
    intro j hij hj he
    exact fin j hij (by omega) (by rw [List.drop_eq_nil_of_le (by omega), hin_nil]) he
  | succ n ih =>
    intro j hij hj he
    by_cases hh : hin [48, 49, 50, 51, 52, 53, 54, 55, 56, 57] (l.drop j) = true
    · have ht := take_ev l [48, 49, 50, 51, 52, 53, 54, 55, 56, 57] j (by omega)
      rw [hh, _root_.if_pos rfl] at ht
      have hlt : j < l.length := by omega
      have e : l.drop j = l[j] :: l.drop (j + 1) := (List.getElem_cons_drop (h := hlt)).symm
      have hc : isd l[j] = true := by
        rw [isd_mem]
        rw [e, hin_cons] at hh
        exact hh
      have e2 : dg (l.drop j) = l[j] :: dg (l.drop (j + 1)) := by
        unfold dg
        rw [e, List.takeWhile_cons_of_pos hc]
      refine Ev.step (f := fun k => dec_reader_digits.l0 k (i : Int) (S l) ((j + 1 : Nat) : Int)) (fun k => ?_) (ih (j + 1) (by omega) (by omega) ?_)
      · rw [dec_reader_digits.l0]
        show ((dec_reader_take.f (S l) (j : Int) (S [48, 49, 50, 51, 52, 53, 54, 55, 56, 57])).bind _) = _
        rw [ht, Option.bind_some, _root_.if_pos rfl]
      · rw [he, e2, show j + 1 - i = (j - i) + 1 by omega, List.take_succ_eq_append_getElem (by rw [List.length_drop]; omega), List.append_assoc, List.getElem_drop]
        simp only [show i + (j - i) = j by omega, List.cons_append, List.nil_append]
    · exact fin j hij (by omega) (Bool.eq_false_iff.2 hh) he
theorem digits_ev (l : List UInt8) (hl : l.length ≤ 100000000000) (i : Nat) (hi : i ≤ l.length) :
    Ev (fun k => dec_reader_digits.f k (S l) (i : Int)) (S (dg (l.drop i)), S l, ((i + (dg (l.drop i)).length : Nat) : Int)) := by
  unfold dec_reader_digits.f
  exact digits_loop l hl i (l.length - i) i (Nat.le_refl _) (by omega) (by simp)
/-- behind the letter of a power: the sign and what follows -/
def exS (r : List UInt8) : List UInt8 := if hin [43, 45] r = true then r.tail else r
def exX (r : List UInt8) : Bool := hin [101, 69] r
def exN (r : List UInt8) : Bool := exX r && hin [45] r.tail
def exD (r : List UInt8) : List UInt8 := if exX r = true then dg (exS r.tail) else []
def exR (r : List UInt8) : List UInt8 := if exX r = true then dr (exS r.tail) else r
theorem hin_take {s : List UInt8} {l : List UInt8} {i : Nat} (h : hin s (l.drop i) = true) : i < l.length := by
  rcases Nat.lt_or_ge i l.length with h1 | h1
  · exact h1
  · rw [List.drop_eq_nil_of_le h1, hin_nil] at h; cases h
theorem exponent_ev (l : List UInt8) (hl : l.length ≤ 100000000000) (i : Nat) (hi : i ≤ l.length) :
    ∃ q : Nat, q ≤ l.length ∧ l.drop q = exR (l.drop i) ∧ Ev (fun k => dec_reader_exponent.f k (S l) (i : Int)) (exN (l.drop i), S (mkl (nvl (exD (l.drop i)))), (!exX (l.drop i) || decide (exD (l.drop i) ≠ [])), S l, (q : Int)) := by
  have ht : dec_reader_take.f (S l) (i : Int) (⟨#[101, 69]⟩ : ByteArray) = _ := take_ev l [101, 69] i (by omega)
  by_cases hx : hin [101, 69] (l.drop i) = true
  · have hlt := hin_take hx
    have etail : (l.drop i).tail = l.drop (i + 1) := by rw [List.tail_drop]
    rw [hx, _root_.if_pos rfl] at ht
    have hs : dec_reader_take.f (S l) ((i + 1 : Nat) : Int) (⟨#[43, 45]⟩ : ByteArray) = _ := take_ev l [43, 45] (i + 1) (by omega)
    obtain ⟨p, hp, hp2⟩ : ∃ p : Nat, p = (if hin [43, 45] (l.drop (i + 1)) = true then i + 1 + 1 else i + 1) ∧ p ≤ l.length := by
      refine ⟨_, rfl, ?_⟩
      split
      · rename_i h; have := hin_take h; omega
      · omega
    rw [← hp] at hs
    have hdrop : l.drop p = exS (l.drop (i + 1)) := by
      unfold exS
      rw [hp]
      split
      · rw [List.tail_drop]
      · rfl
    have hd := digits_ev l hl p hp2
    rw [hdrop] at hd
    have hlen := dg_length (l.drop p)
    rw [hdrop, ← hdrop, List.length_drop, hdrop] at hlen
    have e1 : exD (l.drop i) = dg (exS (l.drop (i + 1))) := by unfold exD exX; rw [_root_.if_pos hx, etail]
    have e2 : exR (l.drop i) = dr (exS (l.drop (i + 1))) := by unfold exR exX; rw [_root_.if_pos hx, etail]
    have e3 : exN (l.drop i) = hin [45] (l.drop (i + 1)) := by unfold exN exX; rw [hx, etail, Bool.true_and]
    have e4 : exX (l.drop i) = true := hx
    rw [e1, e2, e3, e4]
    refine ⟨p + (dg (exS (l.drop (i + 1)))).length, by omega, by rw [dr_drop, ← hdrop, List.drop_drop], ?_⟩
    have htrim := Trim_dig (dg (exS (l.drop (i + 1)))) (by omega) (dig_dg _)
    have hb : (dg (exS (l.drop (i + 1))) != ([] : List UInt8)) = (!true || decide (dg (exS (l.drop (i + 1))) ≠ [])) := by
      cases dg (exS (l.drop (i + 1))) <;> rfl
    unfold dec_reader_exponent.f
    refine Ev.const ht (Ev.if_pos rfl ?_)
    by_cases hlt2 : i + 1 < l.length
    · refine Ev.if_pos (by dsimp only; rw [S_size]; omega) (Ev.if_pos (by dsimp only; omega) (Ev.const hs (Ev.bind hd (Ev.bind htrim ?_))))
      have hbt : (bt (S l) ((i + 1 : Nat) : Int) == 45) = hin [45] (l.drop (i + 1)) := by
        have e : l.drop (i + 1) = l[i + 1] :: l.drop (i + 1 + 1) := (List.getElem_cons_drop (h := hlt2)).symm
        have hbt : bt (S l) ((i + 1 : Nat) : Int) = (l[i + 1].toNat : Int) := by
          rw [bt_S, Int.toNat_natCast, List.getD_eq_getElem?_getD, List.getElem?_eq_getElem hlt2]; rfl
        rw [hbt, e, hin_cons]
        by_cases hc : l[i + 1] = 45
        · rw [hc]; rfl
        · rw [decide_eq_false (by simpa using hc)]
          apply beq_eq_false_iff_ne.2
          intro h
          apply hc
          apply UInt8.toNat_inj.1
          have : (45 : UInt8).toNat = 45 := rfl
          omega
      rw [hbt, S_toList, hb]
      exact Ev.now _
    · refine Ev.if_neg (by dsimp only; rw [S_size]; omega) (Ev.const hs (Ev.bind hd (Ev.bind htrim ?_)))
      have e0 : hin [45] (l.drop (i + 1)) = false := by rw [List.drop_eq_nil_of_le (by omega), hin_nil]
      rw [e0, S_toList, hb]
      exact Ev.now _
  · have hx2 : hin [101, 69] (l.drop i) = false := Bool.eq_false_iff.2 hx
    rw [hx2, _root_.if_neg (by decide)] at ht
    have e1 : exD (l.drop i) = [] := by unfold exD exX; rw [_root_.if_neg hx]
    have e2 : exR (l.drop i) = l.drop i := by unfold exR exX; rw [_root_.if_neg hx]
    have e3 : exN (l.drop i) = false := by unfold exN exX; rw [hx2, Bool.false_and]
    have e4 : exX (l.drop i) = false := hx2
    rw [e1, e2, e3, e4]
    refine ⟨i, hi, rfl, ?_⟩
    unfold dec_reader_exponent.f
    refine Ev.const ht (Ev.if_neg (by dsimp only; decide) ?_)
    rw [nvl_nil, mkl_zero]
    exact Ev.now _
/-! what a decimal's text is made of -/
def qr0 (l : List UInt8) : List UInt8 := if hin [45] l = true then l.tail else l
def qW (l : List UInt8) : List UInt8 := dg (qr0 l)
def qr1 (l : List UInt8) : List UInt8 := dr (qr0 l)
def qP (l : List UInt8) : List UInt8 := if hin [46] (qr1 l) = true then dg (qr1 l).tail else []
def qr2 (l : List UInt8) : List UInt8 := if hin [46] (qr1 l) = true then dr (qr1 l).tail else qr1 l
def qOk (l : List UInt8) : Prop := qW l ≠ [] ∧ (hin [46] (qr1 l) = true → qP l ≠ []) ∧ (exX (qr2 l) = true → exD (qr2 l) ≠ []) ∧ exR (qr2 l) = []
instance decOk (l : List UInt8) : Decidable (qOk l) := by unfold qOk; infer_instance
def qLong (l : List UInt8) : Prop := 1000 < (qW l).length + (qP l).length ∨ 10000 < nvl (exD (qr2 l))
/-- the power that is meant -/
def qE (l : List UInt8) : Int := if exN (qr2 l) = true then -(nvl (exD (qr2 l)) : Int) else nvl (exD (qr2 l))
def qD (l : List UInt8) : D := nrm (hin [45] l) (nvl (qW l ++ qP l)) (qE l - (qP l).length)
theorem Parse_gen (l : List UInt8) (hl : l.length ≤ 10000000000) (r : Bool × ByteArray × Int × Int) (hbad : ¬ qOk l → r = (false, S [], 0, 1))
    (hgood : qOk l → Ev (fun k => dec_Parse.j1 k (hin [45] l) (S (qW l)) (S (qP l)) (exN (qr2 l)) (S (mkl (nvl (exD (qr2 l))))) false) r) : Ev (fun k => dec_Parse.f k (S l)) r := by
  have bad : ¬ qOk l → Ev (fun k : Nat => some ((false, (⟨#[]⟩ : ByteArray), (0 : Int), (1 : Int)))) r := fun h => by rw [hbad h]; exact Ev.now _
  have t0 : dec_reader_take.f (S l) 0 (⟨#[45]⟩ : ByteArray) = _ := take_ev l [45] 0 (by omega)
  rw [List.drop_zero] at t0
  obtain ⟨p0, hp0, lp0, dp0⟩ : ∃ p : Nat, (if hin [45] l = true then 0 + 1 else 0) = p ∧ p ≤ l.length ∧ l.drop p = qr0 l := by
    refine ⟨_, rfl, ?_, ?_⟩
    · split
      · rename_i h; have := hin_take (i := 0) (s := [45]) (l := l) (by rwa [List.drop_zero]); omega
      · omega
    · unfold qr0
      split
      · rw [List.drop_one]
      · rw [List.drop_zero]
  rw [hp0] at t0
  have h0 := digits_ev l (by omega) p0 lp0
  rw [dp0] at h0
  have e0 := dg_length (l.drop p0)
  rw [List.length_drop, dp0] at e0
  have d1 : l.drop (p0 + (dg (qr0 l)).length) = qr1 l := by unfold qr1; rw [dr_drop, ← dp0, List.drop_drop]
  have t1 : dec_reader_take.f (S l) ((p0 + (dg (qr0 l)).length : Nat) : Int) (⟨#[46]⟩ : ByteArray) = _ := take_ev l [46] _ (by omega)
  rw [d1] at t1
  unfold dec_Parse.f
  refine Ev.const t0 (Ev.bind h0 ?_)
  dsimp only
  rw [S_toList]
  have w0 : dg (qr0 l) = qW l := rfl
  by_cases hw : qW l = []
  · exact Ev.if_pos hw (bad (fun h => h.1 hw))
  refine Ev.if_neg hw (Ev.const t1 ?_)
  have rest : ∀ (q : Nat), q ≤ l.length → l.drop q = qr2 l → (hin [46] (qr1 l) = true → qP l ≠ []) → Ev (fun k => dec_Parse.j0 k (S l) (hin [45] l) (S (qW l)) (S (qP l)) (S l) (q : Int)) r := by
    intro q hq hd hpt
    obtain ⟨q2, hq2, hd2, hev⟩ := exponent_ev l (by omega) q hq
    rw [hd] at hd2 hev
    refine Ev.step (fun k => (by rw [dec_Parse.j0])) (Ev.bind hev ?_)
    dsimp only
    have no : ¬ qOk l → Ev (fun k => dec_Parse.j1 k (hin [45] l) (S (qW l)) (S (qP l)) (exN (qr2 l)) (S (mkl (nvl (exD (qr2 l))))) true) r := fun h =>
      Ev.step (f := fun k => some ((false, (⟨#[]⟩ : ByteArray), (0 : Int), (1 : Int)))) (fun k => by rw [dec_Parse.j1, _root_.if_pos rfl]) (bad h)
    by_cases hx : (!exX (qr2 l) || decide (exD (qr2 l) ≠ [])) = true
    · have hx2 : exX (qr2 l) = true → exD (qr2 l) ≠ [] := by
        intro h
        rw [h] at hx
        simpa using hx
      refine Ev.if_pos hx ?_
      by_cases hend : q2 < l.length
      · rw [decide_eq_true (by rw [S_size]; omega)]
        refine no (fun h => ?_)
        have := h.2.2.2
        rw [← hd2] at this
        have := congrArg List.length this
        rw [List.length_drop, List.length_nil] at this
        omega
      · rw [decide_eq_false (by rw [S_size]; omega)]
        refine hgood ⟨hw, hpt, hx2, ?_⟩
        rw [← hd2]
        exact List.drop_eq_nil_of_le (by omega)
    · refine Ev.if_neg hx (no (fun h => hx ?_))
      cases hxx : exX (qr2 l) with
      | false => rfl
      | true => simpa using h.2.2.1 hxx
  by_cases hp : hin [46] (qr1 l) = true
  · have hlt := hin_take (i := p0 + (dg (qr0 l)).length) (s := [46]) (l := l) (by rw [d1]; exact hp)
    have etail : l.drop (p0 + (dg (qr0 l)).length + 1) = (qr1 l).tail := by rw [← d1, List.tail_drop]
    have h2 := digits_ev l (by omega) (p0 + (dg (qr0 l)).length + 1) (by omega)
    have e2 := dg_length (l.drop (p0 + (dg (qr0 l)).length + 1))
    rw [List.length_drop, etail] at e2
    rw [etail] at h2
    have eP : qP l = dg (qr1 l).tail := by unfold qP; rw [_root_.if_pos hp]
    have eR : qr2 l = dr (qr1 l).tail := by unfold qr2; rw [_root_.if_pos hp]
    refine Ev.if_pos hp ?_
    rw [hp, _root_.if_pos rfl]
    refine Ev.bind h2 ?_
    dsimp only
    rw [S_toList, ← eP]
    by_cases hp0 : qP l = []
    · exact Ev.if_pos hp0 (bad (fun h => h.2.1 hp hp0))
    refine Ev.if_neg hp0 (rest _ (by rw [eP]; omega) ?_ (fun _ => hp0))
    rw [eR, dr_drop, eP, ← etail, List.drop_drop]
  · have hpf : hin [46] (qr1 l) = false := Bool.eq_false_iff.2 hp
    have eP : qP l = [] := by unfold qP; rw [_root_.if_neg hp]
    have eR : qr2 l = qr1 l := by unfold qr2; rw [_root_.if_neg hp]
    refine Ev.if_neg hp ?_
    rw [hpf, _root_.if_neg (by decide)]
    have := rest (p0 + (dg (qr0 l)).length) (by omega) (by rw [eR]; exact d1) (fun h => absurd h hp)
    rw [eP] at this
    exact this
theorem Parse_bad (l : List UInt8) (hl : l.length ≤ 10000000000) (h : ¬ qOk l) : Ev (fun k => dec_Parse.f k (S l)) (false, S [], 0, 1) :=
  Parse_gen l hl _ (fun _ => rfl) (fun h2 => absurd h2 h)
theorem qlen (l : List UInt8) : (qW l).length + (qP l).length + (exD (qr2 l)).length ≤ l.length := by
  have h0 : (qr0 l).length ≤ l.length := by
    unfold qr0; split
    · rw [List.length_tail]; omega
    · omega
  have h1 := dg_length (qr0 l)
  have h2 : (qP l).length + (qr2 l).length ≤ (qr1 l).length := by
    unfold qP qr2
    split
    · have := dg_length (qr1 l).tail
      rw [List.length_tail] at this
      omega
    · simp
  have h3 : (exD (qr2 l)).length ≤ (qr2 l).length := by
    unfold exD
    split
    · have := dg_length (exS (qr2 l).tail)
      have h4 : (exS (qr2 l).tail).length ≤ (qr2 l).length := by
        unfold exS
        split
        · simp only [List.length_tail]; omega
        · simp only [List.length_tail]; omega
      omega
    · simp
  have : (qW l).length = (dg (qr0 l)).length := rfl
  have : (qr1 l).length = (dr (qr0 l)).length := rfl
  omega
theorem dig_exD (r : List UInt8) : Dig (exD r) := by
  unfold exD; split
  · exact dig_dg _
  · exact Dig.nil
theorem dig_qP (l : List UInt8) : Dig (qP l) := by
  unfold qP; split
  · exact dig_dg _
  · exact Dig.nil
theorem dig_qW (l : List UInt8) : Dig (qW l) := dig_dg _
theorem Parse_long (l : List UInt8) (hl : l.length ≤ 10000000000) (h : qOk l) (hlong : qLong l) : Ev (fun k => dec_Parse.f k (S l)) (false, S [], 0, 2) := by
  have hq := qlen l
  refine Parse_gen l hl _ (fun h2 => absurd h h2) (fun _ => ?_)
  have out : ∀ (x : Int), Ev (fun k => dec_Parse.j2 k (hin [45] l) (S (qW l)) (S (qP l)) (exN (qr2 l)) x true) (false, S [], 0, 2) := fun x =>
    Ev.step (f := fun k => some ((false, (⟨#[]⟩ : ByteArray), (0 : Int), (2 : Int)))) (fun k => by rw [dec_Parse.j2, _root_.if_pos rfl]) (Ev.now _)
  have hlen : (mkl (nvl (exD (qr2 l)))).length ≤ (exD (qr2 l)).length := mkl_length_le.2 (nvl_lt (dig_exD _))
  refine Ev.step (fun k => (by rw [dec_Parse.j1, _root_.if_neg (by decide), S_size, S_size, w64 (by omega) (by omega)])) ?_
  rcases Nat.lt_or_ge (nvl (exD (qr2 l))) (10 ^ 18) with h18 | h18
  · have hi := Int_ev (mkl (nvl (exD (qr2 l)))) (by unfold Sm; omega) (dig_mkl _) (by rw [nvl_mkl]; exact h18)
    rw [nvl_mkl] at hi
    refine Ev.bind hi ?_
    by_cases h1 : ((qW l).length : Int) + ((qP l).length : Int) > 1000
    · exact Ev.if_pos h1 (out _)
    · refine Ev.if_neg h1 (Ev.if_pos rfl ?_)
      unfold qLong at hlong
      rw [decide_eq_true (by dsimp only; omega)]
      exact out _
  · refine Ev.bind (Int_long (mkl (nvl (exD (qr2 l)))) (by unfold Sm; omega) (dig_mkl _) (by rw [nvl_mkl]; exact h18)) ?_
    by_cases h1 : ((qW l).length : Int) + ((qP l).length : Int) > 1000
    · exact Ev.if_pos h1 (out _)
    · exact Ev.if_neg h1 (Ev.if_neg (by dsimp only; decide) (out _))
theorem Parse_ok (l : List UInt8) (hl : l.length ≤ 10000000000) (h : qOk l) (hlong : ¬ qLong l) : Ev (fun k => dec_Parse.f k (S l)) ((qD l).neg, S (mkl (qD l).m), (qD l).e, 0) := by
  have hq := qlen l
  unfold qLong at hlong
  refine Parse_gen l hl _ (fun h2 => absurd h h2) (fun _ => ?_)
  refine Ev.step (fun k => (by rw [dec_Parse.j1, _root_.if_neg (by decide), S_size, S_size, w64 (by omega) (by omega)])) ?_
  have hlen : (mkl (nvl (exD (qr2 l)))).length ≤ (exD (qr2 l)).length := mkl_length_le.2 (nvl_lt (dig_exD _))
  have h18 : nvl (exD (qr2 l)) < 10 ^ 18 := by
    have : (10000 : Nat) < 10 ^ 18 := by decide
    omega
  have hi := Int_ev (mkl (nvl (exD (qr2 l)))) (by unfold Sm; omega) (dig_mkl _) (by rw [nvl_mkl]; exact h18)
  rw [nvl_mkl] at hi
  refine Ev.bind hi (Ev.if_neg (by omega) (Ev.if_pos rfl ?_))
  rw [decide_eq_false (by dsimp only; omega)]
  have hm := Made_ev (hin [45] l) (qW l ++ qP l) (by rw [List.length_append]; omega) ((dig_qW l).append (dig_qP l)) (qE l - (qP l).length)
  refine Ev.step (fun k => (by rw [dec_Parse.j2, _root_.if_neg (by decide)])) ?_
  unfold qD
  unfold qE at hm ⊢
  by_cases hn : exN (qr2 l) = true
  · rw [_root_.if_pos hn] at hm ⊢
    refine Ev.if_pos hn (Ev.if_pos (by rw [S_size, S_size]; omega) ?_)
    rw [S_append, S_size, w64 (x := -((nvl (exD (qr2 l)) : Nat) : Int)) (by omega) (by omega), w64 (by omega) (by omega)]
    exact Ev.bind hm (Ev.now _)
  · rw [_root_.if_neg hn] at hm ⊢
    refine Ev.if_neg hn (Ev.if_pos (by rw [S_size, S_size]; omega) ?_)
    rw [S_append, S_size, w64 (by omega) (by omega)]
    exact Ev.bind hm (Ev.now _)
end Go.Proofs.YtlkiaeipbekpkaaDoor.P
