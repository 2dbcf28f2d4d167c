import Derived.Test.YtnpohgoacbpcjaaGreatDoorOC
import Derived.Test.YtnpohgoacbpcjaaGreatDoorPx11
import Derived.Test.YtnpohgoacbpcjaaGreatDoorPx2
import Derived.Test.YtnpohgoacbpcjaaGreatDoorPx9
namespace Go.Proofs.YtnpohgoacbpcjaaGreatDoor.P
open Go.RowKit Go.Proofs.YtnpohgoacbpcjaaGreatDoorW.PrintWords Go.Proofs.YtnpohgoacbpcjaaGreatDoorW.PrintLast Go.Proofs.YtnpohgoacbpcjaaGreatDoorW.PrintMore Go.Proofs.YtnpohgoacbpcjaaGreatDoor.FM
set_option linter.unusedVariables false
set_option linter.unusedSimpArgs false

theorem makes_end {l acc c : List Rg} (h30 : l.length ≤ 30) (hc : Cl c (In l) 30) (hal : acc.length ≤ 30) (ha : ∀ r, In acc r ↔ In l r) (x : Int) (n : Int) :
    Ev (fun k => florinlaw10_ClassMakes.l2 k l x c acc n (l.length : Int) (l.length : Int)) true := by
  obtain ⟨d, h1, h2⟩ := Cl.made (l := acc) (n := 30) hal (by omega)
  have hcl := hc.2.2
  obtain ⟨e, h3, h4⟩ := Cl.made (l := c) (n := 30) hcl (by omega)
  obtain ⟨f, h5, h6⟩ := Cl.made (l := []) (n := 0) (Nat.le_refl _) (by omega)
  have hf : f = [] := List.length_eq_zero_iff.1 (by have := h6.2.2; omega)
  refine Ev.step (fun k => (by rw [florinlaw10_ClassMakes.l2, _root_.if_neg (by omega)])) (Ev.bind (settled_ev (by omega) hc.1) (Ev.if_pos rfl (Ev.bind h1 (Ev.bind (h2.same hc (by omega) (fun r _ _ => ha r)) (Ev.if_pos rfl (Ev.bind h3 (Ev.bind (h4.same hc (by omega) (fun r a b => ?_)) (Ev.if_pos rfl (Ev.bind h5 (Ev.yes ?_))))))))))
  · rw [hc.2.1]; exact ⟨fun h => h.1, fun h => ⟨h, a, b⟩⟩
  · rw [hf]; rfl
theorem makes_l2 {l c : List Rg} (h30 : l.length ≤ 30) (hc : Cl c (In l) 30) (a1 : Int) (x : Nat) (hx : Go.bits .and .i64 a1 65535 = (x : Int)) (hx2 : x < 65536) (d : Nat) : ∀ (i : Nat) (acc : List Rg), i + d = l.length → acc.length = i →
    (∀ t, t < i → acc[t]? = l[(t + x) % max l.length 1]?) →
    Ev (fun k => florinlaw10_ClassMakes.l2 k l a1 c acc (mx (l.length : Int) 1) (l.length : Int) (i : Int)) true := by
  have hn : mx (l.length : Int) 1 = ((max l.length 1 : Nat) : Int) := by rw [mx_eq]; omega
  rw [hn]
  induction d with
  | zero =>
    intro i acc hi ha hv
    obtain rfl : i = l.length := by omega
    refine makes_end h30 hc (by omega) (fun r => ?_) a1 _
    by_cases h0 : l.length = 0
    · have e1 : l = [] := List.length_eq_zero_iff.1 h0
      have e2 : acc = [] := List.length_eq_zero_iff.1 (by omega)
      rw [e1, e2]
    have hm : max l.length 1 = l.length := by omega
    rw [hm] at hv
    constructor
    · rintro ⟨y, hy, h⟩
      obtain ⟨t, ht, rfl⟩ := List.getElem_of_mem hy
      have h2 := hv t (by omega)
      rw [List.getElem?_eq_getElem ht] at h2
      exact ⟨_, List.mem_of_getElem? h2.symm, h⟩
    · rintro ⟨y, hy, h⟩
      obtain ⟨j, hj, rfl⟩ := List.getElem_of_mem hy
      have hq : ((j + l.length - x % l.length) % l.length + x) % l.length = j := by
        have h1 := Nat.mod_lt x (show 0 < l.length by omega)
        have h2 := Nat.div_add_mod x l.length
        obtain ⟨q, hq⟩ : ∃ q, x / l.length = q := ⟨_, rfl⟩
        obtain ⟨s, hs⟩ : ∃ s, x % l.length = s := ⟨_, rfl⟩
        rw [hs] at h1 h2 ⊢
        rw [hq] at h2
        rw [Nat.mod_add_mod, ← h2, show j + l.length - s + (l.length * q + s) = j + l.length * (q + 1) by rw [Nat.mul_add]; omega, Nat.add_mul_mod_self_left, Nat.mod_eq_of_lt hj]
      have h2 := hv ((j + l.length - x % l.length) % l.length) (Nat.mod_lt _ (by omega))
      rw [hq, List.getElem?_eq_getElem hj] at h2
      exact ⟨_, List.mem_of_getElem? h2, h⟩
  | succ d ih =>
    intro i acc hi ha hv
    have hlt : i < l.length := by omega
    have hm : max l.length 1 = l.length := by omega
    have hj := Nat.mod_lt (i + x) (show 0 < max l.length 1 by omega)
    have hw : wrap64 ((i : Int) + Go.bits .and .i64 a1 65535) = ((i + x : Nat) : Int) := by rw [hx, w64 (by omega) (by omega)]; rfl
    have ht : Int.tmod ((i + x : Nat) : Int) ((max l.length 1 : Nat) : Int) = (((i + x) % max l.length 1 : Nat) : Int) := (Int.ofNat_tmod _ _).symm
    have hj2 : (i + x) % max l.length 1 < l.length := by omega
    refine Ev.step (fun k => ?_) (ih (i + 1) (acc ++ [l[(i + x) % max l.length 1]]) (by omega) (by rw [List.length_append, ha]; rfl) (fun t ht => ?_))
    · rw [florinlaw10_ClassMakes.l2, _root_.if_pos (by omega), _root_.if_neg (by omega), hw, ht, _root_.if_pos (by omega), _root_.if_pos (by omega), _root_.if_pos (by omega), rdT l _ hj2, inc64' (by omega)]
    · rcases Nat.lt_or_ge t i with h | h
      · rw [List.getElem?_append_left (by omega)]; exact hv t h
      · obtain rfl : t = i := by omega
        rw [List.getElem?_append_right (by omega), ha, Nat.sub_self, List.getElem?_eq_getElem hj2]; rfl
theorem makes_l1 {l c : List Rg} (h30 : l.length ≤ 30) (hc : Cl c (In l) 30) (a1 : Int) (bs : List Int) (hb : bs.length ≤ 1000) (d : Nat) : ∀ i : Nat, i + d = bs.length →
    Ev (fun k => florinlaw10_ClassMakes.l1 k l a1 c bs (bs.length : Int) (i : Int)) true := by
  have hcl := hc.2.2
  induction d with
  | zero =>
    intro i hi
    obtain ⟨x, h1, h2⟩ := low64 16 (by omega) a1 65535 (by decide)
    have h16 : (2 : Nat) ^ 16 = 65536 := by decide
    refine Ev.step (fun k => (by rw [florinlaw10_ClassMakes.l1, _root_.if_neg (by omega)]; rfl)) (makes_l2 h30 hc a1 x h1 (by omega) l.length 0 [] (by omega) rfl (fun t ht => by omega))
  | succ d ih =>
    intro i hi
    have hlt : i < bs.length := by omega
    have hr : rd bs (i : Int) = bs[i] := by
      unfold rd
      rw [Int.toNat_natCast, List.getD_eq_getElem?_getD, List.getElem?_eq_getElem hlt]; rfl
    obtain ⟨p, hp1, hp2⟩ := Has_ev (l := c) (by omega) hc.1 bs[i]
    obtain ⟨q, hq1, hq2⟩ := in_ev l (by omega) bs[i]
    have hpq : p = q := by rw [Bool.eq_iff_iff, hp1, hq1, hc.2.1]
    have h2 := ih (i + 1) (by omega)
    rw [← inc64' (by omega)] at h2
    refine Ev.step (f := fun k => (class_Class_Has.f c (rd bs (i : Int))).bind fun t => ((florinlaw10_in.f k l (rd bs (i : Int))).bind fun t2 => (if (t != t2) = true then (none) else (florinlaw10_ClassMakes.l1 k l a1 c bs (bs.length : Int) (wrap64 ((i : Int) + 1)))))) (fun k => ?_) ?_
    · rw [florinlaw10_ClassMakes.l1, _root_.if_pos (by omega), _root_.if_pos (by omega), _root_.if_pos (by omega)]
    · rw [hr]
      exact Ev.const hp2 (Ev.bind hq2 (Ev.if_neg (by rw [hpq]; simp) h2))
theorem makes_l0 {l c : List Rg} (h30 : l.length ≤ 30) (hc : Cl c (In l) 30) (a1 : Int) (d : Nat) : ∀ i : Nat, i + d = l.length →
    Ev (fun k => florinlaw10_ClassMakes.l0 k l a1 l c (l.length : Int) (i : Int)) true := by
  induction d with
  | zero =>
    intro i hi
    obtain ⟨bs, h1, h2, _⟩ := bounds_ev [l] (by simp) (fun z hz => by rw [List.mem_singleton.1 hz]; exact h30)
    exact Ev.step (fun k => (by rw [florinlaw10_ClassMakes.l0, _root_.if_neg (by omega)])) (Ev.bind h1 (makes_l1 h30 hc a1 bs h2 bs.length 0 (by omega)))
  | succ d ih =>
    intro i hi
    refine Ev.step (fun k => ?_) (ih (i + 1) (by omega))
    rw [florinlaw10_ClassMakes.l0, _root_.if_pos (by omega), _root_.if_pos (by omega), _root_.if_pos (by omega), _root_.if_pos (by omega), _root_.if_neg (by simp), inc64' (by omega)]
theorem pureClassMakes (l0 : List Rg) (a1 : Int) (w1 : (Lit.int .i64 a1).wf = true) : ∃ k, florinlaw10_ClassMakes.f k l0 a1 = some true := by
  refine Ev.rounds ?_
  unfold florinlaw10_ClassMakes.f
  obtain ⟨q, h1, h2⟩ := few_ev [l0] (by simp)
  refine Ev.bind head10 (Ev.if_pos rfl (Ev.bind h2 ?_))
  cases q with
  | false => exact Ev.if_neg (by decide) (Ev.now _)
  | true =>
    have h30 := h1.1 rfl l0 (List.mem_singleton.2 rfl)
    obtain ⟨c, h3, h4⟩ := Cl.made (l := l0) (n := 30) h30 (by omega)
    refine Ev.if_pos rfl (Ev.const rfl (Ev.if_pos (by simp; omega) (Ev.const rfl ?_)))
    rw [List.nil_append]
    exact Ev.bind h3 (makes_l0 h30 h4 a1 l0.length 0 (by omega))
end Go.Proofs.YtnpohgoacbpcjaaGreatDoor.P
