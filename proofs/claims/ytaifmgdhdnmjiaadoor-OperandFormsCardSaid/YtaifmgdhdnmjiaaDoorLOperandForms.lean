import Derived.Test.YtaifmgdhdnmjiaaDoorO2
import Derived.Test.YtaifmgdhdnmjiaaDoorPx5
namespace Go.Proofs.YtaifmgdhdnmjiaaDoor.P
open Go.RowKit Go.Proofs.YtaifmgdhdnmjiaaDoorW.PrintWords Go.Proofs.YtaifmgdhdnmjiaaDoorW.PrintLast Go.Proofs.YtaifmgdhdnmjiaaDoorW.PrintMore Go.Proofs.YtaifmgdhdnmjiaaDoor.FM
set_option linter.unusedVariables false
set_option linter.unusedSimpArgs false

/-- the states of a reader of numbers -/
def fm : Nat → List UInt8 → Bool
  | s, [] => decide (s % 2 = 1)
  | s, c :: l => if 48 ≤ c.toNat ∧ c.toNat ≤ 57 then (if s % 2 = 0 then fm (s + 1) l else fm s l) else if s = 1 ∧ c = 46 then fm 2 l else if (s = 1 ∨ s = 3) ∧ (c = 99 ∨ c = 101) then fm 4 l else false
theorem not_dig_of {c : UInt8} (h : ¬ (48 ≤ c.toNat ∧ c.toNat ≤ 57)) (l : List UInt8) : ¬ Dig (c :: l) := fun hd => h (hd c List.mem_cons_self)
theorem fm5 : ∀ l, fm 5 l = true ↔ Dig l
  | [] => by simp [fm, Dig]
  | c :: l => by
    by_cases h : 48 ≤ c.toNat ∧ c.toNat ≤ 57
    · rw [fm, _root_.if_pos h, _root_.if_neg (by decide), fm5 l, dig_cons]
      exact ⟨fun k => ⟨h, k⟩, fun k => k.2⟩
    · rw [fm, _root_.if_neg h, _root_.if_neg (by simp), _root_.if_neg (by simp)]
      exact ⟨fun k => by simp at k, fun k => absurd k (not_dig_of h l)⟩
theorem fm4 : ∀ l, fm 4 l = true ↔ l ≠ [] ∧ Dig l
  | [] => by simp [fm]
  | c :: l => by
    by_cases h : 48 ≤ c.toNat ∧ c.toNat ≤ 57
    · rw [fm, _root_.if_pos h, _root_.if_pos (by decide), fm5 l, dig_cons]
      exact ⟨fun k => ⟨by simp, h, k⟩, fun k => k.2.2⟩
    · rw [fm, _root_.if_neg h, _root_.if_neg (by simp), _root_.if_neg (by simp)]
      exact ⟨fun k => by simp at k, fun k => absurd k.2 (not_dig_of h l)⟩
theorem dig_ne {c : UInt8} (h : 48 ≤ c.toNat ∧ c.toNat ≤ 57) : c ≠ 46 ∧ c ≠ 99 ∧ c ≠ 101 := by
  refine ⟨?_, ?_, ?_⟩
  all_goals
    rintro rfl
    revert h
    decide
theorem mem_ce {c : UInt8} : c ∈ ([99, 101] : List UInt8) ↔ c = 99 ∨ c = 101 := by simp
theorem mem_pt {c : UInt8} : c ∈ ([46] : List UInt8) ↔ c = 46 := by simp
/-- what the power of a text must be -/
def rdPow (A : List UInt8 × List UInt8 × Bool) : Prop := (A.2.2 = true → A.2.1 ≠ []) ∧ Dig A.2.1
theorem fm3 : ∀ l, fm 3 l = true ↔ Dig (cutL l [99, 101]).1 ∧ rdPow (cutL l [99, 101])
  | [] => by simp [fm, cutL_nil, rdPow, Dig]
  | c :: l => by
    by_cases h : 48 ≤ c.toNat ∧ c.toNat ≤ 57
    · have hn : c ∉ ([99, 101] : List UInt8) := fun hm => by rcases mem_ce.1 hm with e | e; exact (dig_ne h).2.1 e; exact (dig_ne h).2.2 e
      rw [fm, _root_.if_pos h, _root_.if_neg (by decide), fm3 l, cutL_not hn, dig_cons]
      exact ⟨fun k => ⟨⟨h, k.1⟩, k.2⟩, fun k => ⟨k.1.2, k.2⟩⟩
    · rw [fm, _root_.if_neg h, _root_.if_neg (by simp)]
      by_cases hc : c = 99 ∨ c = 101
      · rw [_root_.if_pos ⟨Or.inr rfl, hc⟩, fm4, cutL_in (mem_ce.2 hc)]
        exact ⟨fun k => ⟨Dig.nil, fun _ => k.1, k.2⟩, fun k => ⟨k.2.1 rfl, k.2.2⟩⟩
      · rw [_root_.if_neg (fun k => hc k.2), cutL_not (fun hm => hc (mem_ce.1 hm))]
        exact ⟨fun k => by simp at k, fun k => absurd k.1 (not_dig_of h _)⟩
theorem fm2 : ∀ l, fm 2 l = true ↔ (cutL l [99, 101]).1 ≠ [] ∧ Dig (cutL l [99, 101]).1 ∧ rdPow (cutL l [99, 101])
  | [] => by simp [fm, cutL_nil]
  | c :: l => by
    by_cases h : 48 ≤ c.toNat ∧ c.toNat ≤ 57
    · have hn : c ∉ ([99, 101] : List UInt8) := fun hm => by rcases mem_ce.1 hm with e | e; exact (dig_ne h).2.1 e; exact (dig_ne h).2.2 e
      rw [fm, _root_.if_pos h, _root_.if_pos (by decide), fm3 l, cutL_not hn, dig_cons]
      exact ⟨fun k => ⟨by simp, ⟨h, k.1⟩, k.2⟩, fun k => ⟨k.2.1.2, k.2.2⟩⟩
    · rw [fm, _root_.if_neg h, _root_.if_neg (by simp), _root_.if_neg (by simp)]
      refine ⟨fun k => by simp at k, fun k => ?_⟩
      by_cases hc : c = 99 ∨ c = 101
      · rw [cutL_in (mem_ce.2 hc)] at k; exact absurd rfl k.1
      · rw [cutL_not (fun hm => hc (mem_ce.1 hm))] at k; exact absurd k.2.1 (not_dig_of h _)
/-- what stands ahead of the power -/
def rdMant (B : List UInt8 × List UInt8 × Bool) : Prop := Dig B.1 ∧ (B.2.2 = true → B.2.1 ≠ []) ∧ Dig B.2.1
theorem fm1 : ∀ l, fm 1 l = true ↔ rdMant (cutL (cutL l [99, 101]).1 [46]) ∧ rdPow (cutL l [99, 101])
  | [] => by simp [fm, cutL_nil, rdMant, rdPow, Dig]
  | c :: l => by
    by_cases h : 48 ≤ c.toNat ∧ c.toNat ≤ 57
    · have hn : c ∉ ([99, 101] : List UInt8) := fun hm => by rcases mem_ce.1 hm with e | e; exact (dig_ne h).2.1 e; exact (dig_ne h).2.2 e
      have hp : c ∉ ([46] : List UInt8) := fun hm => (dig_ne h).1 (mem_pt.1 hm)
      rw [fm, _root_.if_pos h, _root_.if_neg (by decide), fm1 l, cutL_not hn]
      show _ ↔ rdMant (cutL (c :: (cutL l [99, 101]).1) [46]) ∧ _
      rw [cutL_not hp]
      unfold rdMant
      rw [dig_cons]
      exact ⟨fun k => ⟨⟨⟨h, k.1.1⟩, k.1.2⟩, k.2⟩, fun k => ⟨⟨k.1.1.2, k.1.2⟩, k.2⟩⟩
    · rw [fm, _root_.if_neg h]
      by_cases hd : c = 46
      · subst hd
        rw [_root_.if_pos ⟨rfl, rfl⟩, fm2, cutL_not (by decide)]
        show _ ↔ rdMant (cutL (46 :: (cutL l [99, 101]).1) [46]) ∧ _
        rw [cutL_in (by decide)]
        exact ⟨fun k => ⟨⟨Dig.nil, fun _ => k.1, k.2.1⟩, k.2.2⟩, fun k => ⟨k.1.2.1 rfl, k.1.2.2, k.2⟩⟩
      · rw [_root_.if_neg (fun k => hd k.2)]
        by_cases hc : c = 99 ∨ c = 101
        · rw [_root_.if_pos ⟨Or.inl rfl, hc⟩, fm4, cutL_in (mem_ce.2 hc)]
          refine ⟨fun k => ⟨⟨Dig.nil, fun e => by simp [cutL_nil] at e, Dig.nil⟩, fun _ => k.1, k.2⟩, fun k => ⟨k.2.1 rfl, k.2.2⟩⟩
        · rw [_root_.if_neg (fun k => hc k.2), cutL_not (fun hm => hc (mem_ce.1 hm))]
          show _ ↔ rdMant (cutL (c :: (cutL l [99, 101]).1) [46]) ∧ _
          rw [cutL_not (fun hm => hd (mem_pt.1 hm))]
          exact ⟨fun k => by simp at k, fun k => absurd k.1.1 (not_dig_of h _)⟩
theorem fm0 : ∀ l, fm 0 l = true ↔ readOk l
  | [] => by simp [fm, readOk, cutL_nil]
  | c :: l => by
    by_cases h : 48 ≤ c.toNat ∧ c.toNat ≤ 57
    · have hn : c ∉ ([99, 101] : List UInt8) := fun hm => by rcases mem_ce.1 hm with e | e; exact (dig_ne h).2.1 e; exact (dig_ne h).2.2 e
      have hp : c ∉ ([46] : List UInt8) := fun hm => (dig_ne h).1 (mem_pt.1 hm)
      rw [fm, _root_.if_pos h, _root_.if_pos (by decide), fm1 l]
      unfold readOk
      rw [cutL_not hn]
      show _ ↔ (cutL (c :: (cutL l [99, 101]).1) [46]).1 ≠ [] ∧ ((cutL (c :: (cutL l [99, 101]).1) [46]).2.2 = true → (cutL (c :: (cutL l [99, 101]).1) [46]).2.1 ≠ []) ∧ _ ∧ Dig (cutL (c :: (cutL l [99, 101]).1) [46]).1 ∧ Dig (cutL (c :: (cutL l [99, 101]).1) [46]).2.1 ∧ _
      rw [cutL_not hp, dig_cons]
      exact ⟨fun k => ⟨by simp, k.1.2.1, k.2.1, ⟨h, k.1.1⟩, k.1.2.2, k.2.2⟩, fun k => ⟨⟨k.2.2.2.1.2, k.2.1, k.2.2.2.2.1⟩, k.2.2.1, k.2.2.2.2.2⟩⟩
    · rw [fm, _root_.if_neg h, _root_.if_neg (by simp), _root_.if_neg (by simp)]
      refine ⟨fun k => by simp at k, fun k => ?_⟩
      unfold readOk at k
      by_cases hc : c = 99 ∨ c = 101
      · rw [cutL_in (mem_ce.2 hc)] at k; exact absurd rfl k.1
      · rw [cutL_not (fun hm => hc (mem_ce.1 hm))] at k
        by_cases hd : c = 46
        · subst hd
          have k1 := k.1
          rw [cutL_in (by decide)] at k1; exact absurd rfl k1
        · have k1 := k.2.2.2.1
          rw [cutL_not (fun hm => hd (mem_pt.1 hm))] at k1
          exact absurd k1 (not_dig_of h _)
theorem u8int (c d : UInt8) : ((c.toNat : Int) = (d.toNat : Int)) ↔ c = d := ⟨fun e => UInt8.toNat_inj.1 (Int.ofNat.inj e), fun e => by rw [e]⟩
theorem form_loop (l : List UInt8) (hl : l.length ≤ 1000000000000) (d : Nat) : ∀ (i s : Nat), i + d = l.length → s ≤ 5 → Ev (fun k => florinlaw05_form.l0 k (S l) (s : Int) (i : Int)) (fm s (l.drop i)) := by
  induction d with
  | zero =>
    intro i s hi hs
    refine Ev.step (f := fun k => some ((Int.tmod (s : Int) 2) == 1)) (fun k => ?_) ?_
    · rw [florinlaw05_form.l0, _root_.if_neg (by rw [S_size]; omega)]
    · rw [List.drop_eq_nil_of_le (by omega), show Int.tmod (s : Int) 2 = ((s % 2 : Nat) : Int) from (Int.ofNat_tmod s 2).symm, fm]
      have e : (((s % 2 : Nat) : Int) == 1) = decide (s % 2 = 1) := by
        by_cases h : s % 2 = 1
        · rw [h]; rfl
        · rw [decide_eq_false h]; simp; omega
      rw [e]; exact Ev.now _
  | succ d ih =>
    intro i s hi hs
    have hlt : i < l.length := by omega
    have hb : bt (S l) (i : Int) = (l[i].toNat : Int) := by
      rw [bt_S, Int.toNat_natCast, List.getD_eq_getElem?_getD, List.getElem?_eq_getElem hlt]; rfl
    have hm : Int.tmod (s : Int) 2 = ((s % 2 : Nat) : Int) := (Int.ofNat_tmod s 2).symm
    have ho : l.drop i = l[i] :: l.drop (i + 1) := (List.getElem_cons_drop (h := hlt)).symm
    obtain ⟨c, hc⟩ : ∃ c, l[i] = c := ⟨_, rfl⟩
    rw [hc] at hb ho
    rw [ho, fm]
    have hcN := c.toNat_lt
    by_cases h : 48 ≤ c.toNat ∧ c.toNat ≤ 57
    · rw [_root_.if_pos h]
      refine Ev.step (f := fun k => florinlaw05_form.j1 k (S l) (s : Int) (i : Int) true) (fun k => ?_) ?_
      · rw [florinlaw05_form.l0, _root_.if_pos (by rw [S_size]; omega), _root_.if_pos (by omega), hb, _root_.if_pos (by omega), decide_eq_true (by omega)]
      by_cases h2 : s % 2 = 0
      · rw [_root_.if_pos h2]
        refine Ev.step (f := fun k => florinlaw05_form.j2 k (S l) (s : Int) (i : Int) true true) (fun k => ?_) ?_
        · rw [florinlaw05_form.j1, hm, _root_.if_pos (by omega)]
        refine Ev.step (f := fun k => florinlaw05_form.l0 k (S l) ((s + 1 : Nat) : Int) ((i + 1 : Nat) : Int)) (fun k => ?_) (ih (i + 1) (s + 1) (by omega) (by omega))
        rw [florinlaw05_form.j2, _root_.if_pos rfl, inc64 (by omega), inc64 (by omega)]
      · rw [_root_.if_neg h2]
        refine Ev.step (f := fun k => florinlaw05_form.j2 k (S l) (s : Int) (i : Int) true false) (fun k => ?_) ?_
        · rw [florinlaw05_form.j1, hm, _root_.if_neg (by omega)]
        refine Ev.step (f := fun k => florinlaw05_form.j3 k (S l) (s : Int) (i : Int) true) (fun k => ?_) ?_
        · rw [florinlaw05_form.j2, _root_.if_neg (by decide), hm, _root_.if_pos (by omega)]
        refine Ev.step (f := fun k => florinlaw05_form.l0 k (S l) (s : Int) ((i + 1 : Nat) : Int)) (fun k => ?_) (ih (i + 1) s (by omega) hs)
        rw [florinlaw05_form.j3, _root_.if_pos rfl, inc64 (by omega)]
    · rw [_root_.if_neg h]
      refine Ev.step (f := fun k => florinlaw05_form.j1 k (S l) (s : Int) (i : Int) false) (fun k => ?_) ?_
      · rw [florinlaw05_form.l0, _root_.if_pos (by rw [S_size]; omega), _root_.if_pos (by omega), hb]
        by_cases h1 : (c.toNat : Int) ≥ 48
        · rw [_root_.if_pos h1, decide_eq_false (by omega)]
        · rw [_root_.if_neg h1]
      refine Ev.step (f := fun k => florinlaw05_form.j2 k (S l) (s : Int) (i : Int) false false) (fun k => ?_) ?_
      · rw [florinlaw05_form.j1, ite_self]
      refine Ev.step (f := fun k => florinlaw05_form.j3 k (S l) (s : Int) (i : Int) false) (fun k => ?_) ?_
      · rw [florinlaw05_form.j2, _root_.if_neg (by decide), ite_self]
      have four : ∀ k, florinlaw05_form.l0 k (S l) 4 ((i + 1 : Nat) : Int) = florinlaw05_form.l0 k (S l) ((4 : Nat) : Int) ((i + 1 : Nat) : Int) := fun k => rfl
      have two : ∀ k, florinlaw05_form.l0 k (S l) 2 ((i + 1 : Nat) : Int) = florinlaw05_form.l0 k (S l) ((2 : Nat) : Int) ((i + 1 : Nat) : Int) := fun k => rfl
      have c99 : ((c.toNat : Int) = 99) ↔ c = 99 := ⟨fun e => (u8int c 99).1 e, fun e => by rw [e]; rfl⟩
      have c101 : ((c.toNat : Int) = 101) ↔ c = 101 := ⟨fun e => (u8int c 101).1 e, fun e => by rw [e]; rfl⟩
      have c46 : ((c.toNat : Int) = 46) ↔ c = 46 := ⟨fun e => (u8int c 46).1 e, fun e => by rw [e]; rfl⟩
      by_cases s1 : s = 1
      · subst s1
        refine Ev.step (f := fun k => florinlaw05_form.j4 k (S l) ((1 : Nat) : Int) (i : Int) (decide (c = 46))) (fun k => ?_) ?_
        · rw [florinlaw05_form.j3, _root_.if_neg (by decide), _root_.if_pos (show ((1 : Nat) : Int) = 1 from rfl), _root_.if_pos (by omega), _root_.if_pos (by rw [S_size]; omega), hb]
          have e : ((c.toNat : Int) == 46) = decide (c = 46) := by
            by_cases hd : c = 46
            · subst hd; rfl
            · rw [decide_eq_false hd]; exact beq_eq_false_iff_ne.2 (fun e => hd (c46.1 e))
          rw [e]
        by_cases hd : c = 46
        · rw [decide_eq_true hd, _root_.if_pos ⟨rfl, hd⟩]
          refine Ev.step (f := fun k => florinlaw05_form.l0 k (S l) ((2 : Nat) : Int) ((i + 1 : Nat) : Int)) (fun k => ?_) (ih (i + 1) 2 (by omega) (by omega))
          rw [florinlaw05_form.j4, _root_.if_pos rfl, inc64 (by omega)]; exact two k
        · rw [decide_eq_false hd, _root_.if_neg (fun e => hd e.2)]
          by_cases hx : c = 99 ∨ c = 101
          · rw [_root_.if_pos ⟨Or.inl rfl, hx⟩]
            refine Ev.step (f := fun k => florinlaw05_form.l0 k (S l) ((4 : Nat) : Int) ((i + 1 : Nat) : Int)) (fun k => ?_) (ih (i + 1) 4 (by omega) (by omega))
            rw [florinlaw05_form.j4, _root_.if_neg (by decide), _root_.if_pos (show ((1 : Nat) : Int) = 1 from rfl), _root_.if_pos (by omega), _root_.if_pos (by rw [S_size]; omega), hb, inc64 (by omega)]
            rcases hx with hx | hx
            · rw [_root_.if_pos (c99.2 hx)]; exact four k
            · rw [_root_.if_neg (fun e => by rw [hx] at e; exact absurd e (by decide)), _root_.if_pos (c101.2 hx)]; exact four k
          · rw [_root_.if_neg (fun e => hx e.2)]
            refine Ev.step (f := fun k => some false) (fun k => ?_) (Ev.now _)
            rw [florinlaw05_form.j4, _root_.if_neg (by decide), _root_.if_pos (show ((1 : Nat) : Int) = 1 from rfl), _root_.if_pos (by omega), _root_.if_pos (by rw [S_size]; omega), hb, _root_.if_neg (fun e => hx (Or.inl (c99.1 e))), _root_.if_neg (fun e => hx (Or.inr (c101.1 e)))]
      · rw [_root_.if_neg (fun e => s1 e.1)]
        refine Ev.step (f := fun k => florinlaw05_form.j4 k (S l) (s : Int) (i : Int) false) (fun k => ?_) ?_
        · rw [florinlaw05_form.j3, _root_.if_neg (by decide), _root_.if_neg (by omega)]
        by_cases s3 : s = 3
        · subst s3
          by_cases hx : c = 99 ∨ c = 101
          · rw [_root_.if_pos ⟨Or.inr rfl, hx⟩]
            refine Ev.step (f := fun k => florinlaw05_form.l0 k (S l) ((4 : Nat) : Int) ((i + 1 : Nat) : Int)) (fun k => ?_) (ih (i + 1) 4 (by omega) (by omega))
            rw [florinlaw05_form.j4, _root_.if_neg (by decide), _root_.if_neg (by decide), _root_.if_pos (show ((3 : Nat) : Int) = 3 from rfl), _root_.if_pos (by omega), _root_.if_pos (by rw [S_size]; omega), hb, inc64 (by omega)]
            rcases hx with hx | hx
            · rw [_root_.if_pos (c99.2 hx)]; exact four k
            · rw [_root_.if_neg (fun e => by rw [hx] at e; exact absurd e (by decide)), _root_.if_pos (c101.2 hx)]; exact four k
          · rw [_root_.if_neg (fun e => hx e.2)]
            refine Ev.step (f := fun k => some false) (fun k => ?_) (Ev.now _)
            rw [florinlaw05_form.j4, _root_.if_neg (by decide), _root_.if_neg (by decide), _root_.if_pos (show ((3 : Nat) : Int) = 3 from rfl), _root_.if_pos (by omega), _root_.if_pos (by rw [S_size]; omega), hb, _root_.if_neg (fun e => hx (Or.inl (c99.1 e))), _root_.if_neg (fun e => hx (Or.inr (c101.1 e)))]
        · rw [_root_.if_neg (by rintro ⟨e | e, _⟩; exact s1 e; exact s3 e)]
          refine Ev.step (f := fun k => some false) (fun k => ?_) (Ev.now _)
          rw [florinlaw05_form.j4, _root_.if_neg (by decide), _root_.if_neg (by omega), _root_.if_neg (by omega)]
theorem form_ev (l : List UInt8) (hl : l.length ≤ 1000000000000) : Ev (fun k => florinlaw05_form.f k (S l)) (fm 0 l) := by
  unfold florinlaw05_form.f
  exact form_loop l hl l.length 0 0 (by omega) (by omega)
theorem pureOperandForms : florinlaw05_OperandForms.Pure := by
  intro a0 _
  refine Ev.rounds ?_
  rw [S_of a0]
  obtain ⟨l, hl⟩ : ∃ l, a0.data.toList = l := ⟨_, rfl⟩
  rw [hl]
  unfold florinlaw05_OperandForms.f
  refine Ev.bind head05 (Ev.if_pos rfl ?_)
  by_cases h : ((S l).size : Int) > 100
  · exact Ev.if_pos h (Ev.now _)
  refine Ev.if_neg h ?_
  rw [S_size] at h
  have hf := form_ev l (by omega)
  by_cases ho : readOk l
  · rw [(fm0 l).2 ho] at hf
    by_cases hlong : 10000 < nvl (rdE l) ∨ 1000 < (rdW l).length + (rdP l).length
    · refine Ev.bind (Read_long l (by omega) ho hlong) (Ev.bind hf (Ev.if_pos rfl (Ev.if_neg (by decide) (Ev.if_pos rfl (Ev.yes ?_)))))
      rw [S_toList]; rfl
    · refine Ev.bind (Read_ok l (by omega) ho (by omega) (by omega)) (Ev.bind hf (Ev.if_pos rfl (Ev.if_pos rfl ?_)))
      have dP : Dig (rdP l) := ho.2.2.2.2.1
      have hc1 := cutL_len l [99, 101]
      have hc2 := cutL_len (cutL l [99, 101]).1 [46]
      have hlen : (mkl (ofInt (rdW l) (rdP l) (nvl (rdE l) : Int))).length ≤ 20000 := by
        have hI := ofInt_lt (rdW l) (rdP l) ho.2.2.2.1 dP (nvl (rdE l) : Int)
        have := mkl_length_le.2 hI
        unfold ofE at this
        omega
      refine Ev.bind (Is_ev _ (by omega)) (Ev.if_pos (decide_eq_true (dig_mkl _)) (Ev.bind (Is_ev _ ?_) (Ev.if_pos (decide_eq_true (dP.drop _)) (Ev.now _))))
      rw [List.length_drop]; unfold rdP; omega
  · have hff : fm 0 l = false := by
      cases hx : fm 0 l with
      | false => rfl
      | true => exact absurd ((fm0 l).1 hx) ho
    rw [hff] at hf
    refine Ev.bind (Read_bad l (by omega) ho) (Ev.bind hf (Ev.if_neg (by decide) (Ev.if_pos rfl (Ev.yes ?_))))
    rw [S_toList]; rfl
end Go.Proofs.YtaifmgdhdnmjiaaDoor.P
