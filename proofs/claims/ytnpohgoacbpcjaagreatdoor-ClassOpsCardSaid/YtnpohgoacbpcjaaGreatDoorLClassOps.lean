import Derived.Test.YtnpohgoacbpcjaaGreatDoorOC
import Derived.Test.YtnpohgoacbpcjaaGreatDoorPx22
namespace Go.Proofs.YtnpohgoacbpcjaaGreatDoor.P
open Go.RowKit Go.Proofs.YtnpohgoacbpcjaaGreatDoorW.PrintWords Go.Proofs.YtnpohgoacbpcjaaGreatDoorW.PrintLast Go.Proofs.YtnpohgoacbpcjaaGreatDoorW.PrintMore Go.Proofs.YtnpohgoacbpcjaaGreatDoor.FM
set_option linter.unusedVariables false
set_option linter.unusedSimpArgs false

theorem bool_ne {p q : Bool} (h : p = true ↔ q = true) : ¬ (p != q) = true := by
  have : p = q := by rw [Bool.eq_iff_iff]; exact h
  rw [this]; simp
theorem ops_end {a b c d n : List Rg} (hc : Cl c (In a) 30) (hd : Cl d (In b) 30) (hn : Cl n (fun r => ¬ In a r) 31) (o e m : List Rg) (s : Bool) (hs : s = true ↔ c = d) (bs : List Int) :
    Ev (fun k => florinlaw10_ClassOps.l0 k a b c d o e m n s bs (bs.length : Int) (bs.length : Int)) true := by
  obtain ⟨q, h1, h2⟩ := Same_ev c d (by have := hc.2.2; omega)
  have hq : (q == s) = true := by
    have : q = s := by rw [Bool.eq_iff_iff, h1, hs]
    rw [this]; simp
  obtain ⟨mm, a1, b1⟩ := hc.minus hc (by omega)
  obtain ⟨z, a2, b2⟩ := Cl.made (l := []) (n := 0) (Nat.le_refl _) (by omega)
  obtain ⟨al, a3, b3⟩ := hc.or hn (by omega)
  obtain ⟨tp, a4, b4⟩ := Cl.made (l := [⟨0, 1114111⟩]) (n := 1) (Nat.le_refl _) (by omega)
  refine Ev.step (fun k => (by rw [florinlaw10_ClassOps.l0, _root_.if_neg (by omega)])) (Ev.bind h2 (Ev.if_pos hq (Ev.bind a1 (Ev.bind a2 (Ev.bind (b1.same b2 (by omega) ?_) (Ev.if_pos rfl (Ev.bind a3 (Ev.bind a4 (Ev.bind (b3.same b4 (by omega) ?_) ?_)))))))))
  · intro r _ _
    by_cases h : In a r <;> simp [h, In_nil]
  · intro r x y
    rw [In_cons]
    by_cases h : In a r <;> simp [h, In_nil, x, y]
  · exact Ev.step (f := fun _ => some true) (fun k => (by rw [florinlaw10_ClassOps.j2])) (Ev.now _)
theorem ops_l0 {a b c d o e m n : List Rg} (ha : a.length ≤ 30) (hb : b.length ≤ 30) (hc : Cl c (In a) 30) (hd : Cl d (In b) 30) (hn : Cl n (fun r => ¬ In a r) 31)
    (ho : Cl o (fun r => In a r ∨ In b r) 60) (he : Cl e (fun r => In a r ∧ In b r) 63) (hm : Cl m (fun r => In a r ∧ ¬ In b r) 64) (bs : List Int) (hbl : bs.length ≤ 1000)
    (tell : (∀ r ∈ bs, 0 ≤ r → r ≤ 1114111 → (In a r ↔ In b r)) → c = d) (w : Nat) : ∀ (i : Nat) (s : Bool), i + w = bs.length →
    (s = true ↔ ∀ r ∈ bs.take i, 0 ≤ r → r ≤ 1114111 → (In a r ↔ In b r)) →
    Ev (fun k => florinlaw10_ClassOps.l0 k a b c d o e m n s bs (bs.length : Int) (i : Int)) true := by
  induction w with
  | zero =>
    intro i s hi hs
    obtain rfl : i = bs.length := by omega
    refine ops_end hc hd hn o e m s ?_ bs
    rw [hs, List.take_length]
    constructor
    · exact tell
    · intro hcd r hr h0 h1
      have g1 := hc.2.1 r
      have g2 := hd.2.1 r
      rw [hcd, g2] at g1
      constructor
      · intro x; exact (g1.2 ⟨x, h0, h1⟩).1
      · intro x; exact (g1.1 ⟨x, h0, h1⟩).1
  | succ w ih =>
    intro i s hi hs
    have hlt : i < bs.length := by omega
    have hr : rd bs (i : Int) = bs[i] := by
      unfold rd
      rw [Int.toNat_natCast, List.getD_eq_getElem?_getD, List.getElem?_eq_getElem hlt]; rfl
    obtain ⟨r, hrr⟩ : ∃ r, bs[i] = r := ⟨_, rfl⟩
    obtain ⟨p, hp, ep⟩ := in_ev a (by omega) r
    obtain ⟨q, hq, eq⟩ := in_ev b (by omega) r
    obtain ⟨p1, hp1, ep1⟩ := Has_ev (l := o) (by have := ho.2.2; omega) ho.1 r
    obtain ⟨p2, hp2, ep2⟩ := Has_ev (l := e) (by have := he.2.2; omega) he.1 r
    obtain ⟨p3, hp3, ep3⟩ := Has_ev (l := m) (by have := hm.2.2; omega) hm.1 r
    obtain ⟨p4, hp4, ep4⟩ := Has_ev (l := n) (by have := hn.2.2; omega) hn.1 r
    rw [ho.2.1] at hp1
    rw [he.2.1] at hp2
    rw [hm.2.1] at hp3
    rw [hn.2.1] at hp4
    -- what goes on
    have next : ∀ s' : Bool, (s' = true ↔ s = true ∧ p = q) → Ev (fun k => florinlaw10_ClassOps.l0 k a b c d o e m n s' bs (bs.length : Int) (wrap64 ((i : Int) + 1))) true := by
      intro s' hs'
      rw [inc64' (by omega)]
      refine ih (i + 1) s' (by omega) ?_
      rw [hs', hs, List.take_succ_eq_append_getElem hlt, hrr]
      have hpq : p = q ↔ (0 ≤ r → r ≤ 1114111 → (In a r ↔ In b r)) := by
        rw [Bool.eq_iff_iff, hp, hq]
        constructor
        · intro h x y
          constructor
          · intro z; exact (h.1 ⟨z, x, y⟩).1
          · intro z; exact (h.2 ⟨z, x, y⟩).1
        · intro h
          constructor
          · rintro ⟨z, x, y⟩; exact ⟨(h x y).1 z, x, y⟩
          · rintro ⟨z, x, y⟩; exact ⟨(h x y).2 z, x, y⟩
      rw [hpq]
      constructor
      · rintro ⟨h1, h2⟩ z hz
        rcases List.mem_append.1 hz with hz | hz
        · exact h1 z hz
        · rw [List.mem_singleton.1 hz]; exact h2
      · intro h
        exact ⟨fun z hz => h z (List.mem_append_left _ hz), h r (List.mem_append_right _ (List.mem_singleton.2 rfl))⟩
    have nextS : Ev (fun k => if s = true then florinlaw10_ClassOps.l0 k a b c d o e m n (p == q) bs (bs.length : Int) (wrap64 ((i : Int) + 1)) else florinlaw10_ClassOps.l0 k a b c d o e m n false bs (bs.length : Int) (wrap64 ((i : Int) + 1))) true := by
      cases hs0 : s with
      | true => exact Ev.if_pos rfl (next (p == q) (by rw [hs0]; simp))
      | false => exact Ev.if_neg (by decide) (next false (by rw [hs0]; simp))
    refine Ev.step (fun k => (by rw [florinlaw10_ClassOps.l0, _root_.if_pos (by omega), _root_.if_pos (by omega), _root_.if_pos (by omega), hr, hrr])) (Ev.bind ep (Ev.bind eq (Ev.const ep1 ?_)))
    cases hpb : p with
    | true =>
      rw [hpb] at hp nextS
      have ⟨ia, i0, i1⟩ := hp.1 rfl
      refine Ev.if_pos rfl (Ev.if_neg (bool_ne ?_) (Ev.const ep2 (Ev.if_neg (bool_ne ?_) (Ev.const ep3 (Ev.if_neg (bool_ne ?_) (Ev.const ep4 (Ev.if_neg (bool_ne ?_) nextS)))))))
      · rw [hp1]; simp [ia, i0, i1]
      · rw [hp2, hq]; simp [ia, i0, i1]
      · rw [hp3]
        simp only [Bool.not_eq_true', ← Bool.not_eq_true, hq]
        simp [ia, i0, i1]
      · rw [hp4]; simp [ia]
    | false =>
      rw [hpb] at hp nextS
      have hno : ¬ (In a r ∧ 0 ≤ r ∧ r ≤ 1114111) := fun h => by have := hp.2 h; cases this
      refine Ev.if_neg (by decide) (Ev.if_neg (bool_ne ?_) (Ev.const ep2 (Ev.if_neg (bool_ne ?_) (Ev.const ep3 (Ev.if_neg (bool_ne ?_) (Ev.const ep4 ?_))))))
      · rw [hp1, hq]
        constructor
        · rintro ⟨h | h, x⟩
          · exact absurd ⟨h, x⟩ hno
          · exact ⟨h, x⟩
        · rintro ⟨h, x⟩; exact ⟨.inr h, x⟩
      · rw [hp2]; exact ⟨fun h => absurd ⟨h.1.1, h.2⟩ hno, fun h => by cases h⟩
      · rw [hp3]; exact ⟨fun h => absurd ⟨h.1.1, h.2⟩ hno, fun h => by cases h⟩
      · by_cases h0 : r ≥ 0
        · refine Ev.if_pos h0 (Ev.if_neg (bool_ne ?_) nextS)
          rw [hp4, decide_eq_true_eq]
          constructor
          · exact fun h => h.2.2
          · exact fun h => ⟨fun x => hno ⟨x, h0, h⟩, h0, h⟩
        · refine Ev.if_neg h0 (Ev.if_neg (bool_ne ?_) nextS)
          rw [hp4]; simp; intro _ h; omega
theorem pureClassOps (l0 l1 : List Rg) : ∃ k, florinlaw10_ClassOps.f k l0 l1 = some true := by
  refine Ev.rounds ?_
  unfold florinlaw10_ClassOps.f
  obtain ⟨q, h1, h2⟩ := few_ev [l0, l1] (by simp)
  refine Ev.bind head10 (Ev.if_pos rfl (Ev.bind h2 ?_))
  cases q with
  | false => exact Ev.if_neg (by decide) (Ev.now _)
  | true =>
    have h30 := h1.1 rfl
    have k0 := h30 l0 (by simp)
    have k1 := h30 l1 (by simp)
    obtain ⟨c, h3, hc⟩ := Cl.made (l := l0) (n := 30) k0 (by omega)
    obtain ⟨d, h4, hd⟩ := Cl.made (l := l1) (n := 30) k1 (by omega)
    obtain ⟨o, a1, ho⟩ := hc.or hd (by omega)
    obtain ⟨e, a2, he⟩ := hc.and hd (by omega)
    obtain ⟨m, a3, hm⟩ := hc.minus hd (by omega)
    obtain ⟨n, a4, hn⟩ := hc.not (by omega)
    obtain ⟨nn, a5, hnn⟩ := hn.not (by omega)
    obtain ⟨o2, a6, ho2⟩ := hd.or hc (by omega)
    obtain ⟨e2, a7, he2⟩ := hd.and hc (by omega)
    refine Ev.if_pos rfl (Ev.bind h3 (Ev.bind h4 (Ev.bind a1 (Ev.bind a2 (Ev.bind a3 (Ev.bind a4 (Ev.bind (settled_ev (by have := ho.2.2; omega) ho.1) (Ev.if_pos rfl (Ev.bind (settled_ev (by have := he.2.2; omega) he.1) (Ev.if_pos rfl (Ev.bind (settled_ev (by have := hm.2.2; omega) hm.1) (Ev.if_pos rfl (Ev.bind (settled_ev (by have := hn.2.2; omega) hn.1) (Ev.if_pos rfl ?_))))))))))))))
    refine Ev.bind a5 (Ev.bind (hnn.same hc (by omega) ?_) (Ev.if_pos rfl (Ev.bind a6 (Ev.bind (ho.same ho2 (by omega) ?_) (Ev.if_pos rfl (Ev.bind a7 (Ev.bind (he.same he2 (by omega) ?_) ?_)))))))
    · intro r _ _; exact Classical.not_not
    · intro r _ _; exact or_comm
    · intro r _ _; exact and_comm
    obtain ⟨bs, g1, g2, g3, g4, _⟩ := bounds_ev [l0, l1] (by simp) h30
    have tell : (∀ r ∈ bs, 0 ≤ r → r ≤ 1114111 → (In l0 r ↔ In l1 r)) → c = d := by
      intro h
      refine hc.uniq hd (bounds_tell fun r x y hr => ?_)
      refine h r ?_ x y
      rcases hr with rfl | ⟨z, hz, hr⟩
      · exact g3
      · have hl : ∃ l ∈ [l0, l1], z ∈ l := by
          rcases List.mem_append.1 hz with hz | hz
          · exact ⟨l0, by simp, hz⟩
          · exact ⟨l1, by simp, hz⟩
        obtain ⟨l, hl1, hl2⟩ := hl
        have g := g4 l hl1 z hl2
        rcases hr with rfl | rfl
        · exact g.1 x y
        · exact g.2 x y
    refine Ev.step (fun k => (by rw [Bool.not_true, florinlaw10_ClassOps.j0, _root_.if_neg (by decide)])) (Ev.bind g1 ?_)
    exact ops_l0 k0 k1 hc hd hn ho he hm bs g2 tell bs.length 0 true (by omega) (by simp)
end Go.Proofs.YtnpohgoacbpcjaaGreatDoor.P
