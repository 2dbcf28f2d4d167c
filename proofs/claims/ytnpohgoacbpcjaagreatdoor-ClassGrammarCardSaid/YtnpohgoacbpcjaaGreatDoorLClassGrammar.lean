import Derived.Test.YtnpohgoacbpcjaaGreatDoorOC
import Derived.Test.YtnpohgoacbpcjaaGreatDoorSA
import Derived.Test.YtnpohgoacbpcjaaGreatDoorPx15
import Derived.Test.YtnpohgoacbpcjaaGreatDoorPx16
import Derived.Test.YtnpohgoacbpcjaaGreatDoorPx17
namespace Go.Proofs.YtnpohgoacbpcjaaGreatDoor.P
open Go.RowKit Go.Proofs.YtnpohgoacbpcjaaGreatDoorW.PrintWords Go.Proofs.YtnpohgoacbpcjaaGreatDoorW.PrintLast Go.Proofs.YtnpohgoacbpcjaaGreatDoorW.PrintMore Go.Proofs.YtnpohgoacbpcjaaGreatDoor.FM
set_option linter.unusedVariables false
set_option linter.unusedSimpArgs false

abbrev Pr := S60
theorem rdP (l : List Pr) (i : Nat) (h : i < l.length) : rd_T60 l (i : Int) = l[i] := by
  unfold rd_T60
  rw [Int.toNat_natCast, List.getD_eq_getElem?_getD, List.getElem?_eq_getElem h]; rfl
def gaps : List ByteArray := [(⟨#[]⟩ : ByteArray), (⟨#[32]⟩ : ByteArray), (⟨#[32, 32]⟩ : ByteArray), (⟨#[]⟩ : ByteArray)]
theorem gap_ev (n : Int) : ∃ g : Nat, g ≤ 2 ∧ 0 ≤ Go.bits .and .i64 n 3 ∧ Go.bits .and .i64 n 3 < (gaps.length : Int) ∧ rdOf ByteArray.empty gaps (Go.bits .and .i64 n 3) = S (List.replicate g 32) := by
  obtain ⟨x, h1, h2⟩ := low64 2 (by omega) n 3 (by decide)
  rw [h1]
  have h4 : x < 4 := h2
  refine ⟨if x = 1 then 1 else if x = 2 then 2 else 0, by split; omega; split <;> omega, by omega, by show (x : Int) < 4; omega, ?_⟩
  match x, h4 with
  | 0, _ => rfl
  | 1, _ => rfl
  | 2, _ => rfl
  | 3, _ => rfl
theorem txt_two (g : Nat) (x y : List UInt8) (p q : Int) (t : List UInt8) : (((((t ++ List.replicate g 32) ++ x) ++ List.replicate g 32) ++ [45]) ++ List.replicate g 32) ++ y = t ++ Itm.txt ⟨g, x, p, true, y, q⟩ := by
  unfold Itm.txt
  simp
theorem txt_one (g : Nat) (x y : List UInt8) (p q : Int) (t : List UInt8) : (t ++ List.replicate g 32) ++ x = t ++ Itm.txt ⟨g, x, p, false, y, q⟩ := by
  unfold Itm.txt
  simp
theorem sz_app (a b : List UInt8) {n m : Nat} (h1 : (S a).size ≤ n) (h2 : (S b).size ≤ m) : (S a ++ S b).size ≤ n + m := by
  rw [S_append, S_size, List.length_append]
  rw [S_size] at h1 h2
  omega
theorem write_go (two : Bool) (g : Nat) (t u v : List UInt8) (a b : Int) (acc : List Rg) (l : List Pr) (i : Nat) (r : List Rg × ByteArray) (hg : g ≤ 2) (ht : t.length ≤ 10000) (hu : u.length ≤ 10) (hv : v.length ≤ 10) (hacc : acc.length ≤ 100) (wa : wrap32 a = a) (wb : wrap32 b = b) (wi : wrap64 ((i : Int) + 1) = ((i + 1 : Nat) : Int))
    (h : Ev (fun k => florinlaw10_Write.l0 k (acc ++ [Itm.rg ⟨g, u, a, two, v, b⟩]) (S (t ++ Itm.txt ⟨g, u, a, two, v, b⟩)) l (l.length : Int) ((i + 1 : Nat) : Int)) r) :
    Ev (fun k => if (S t).size + (S (List.replicate g 32)).size ≤ 9223372036854775807 then (if (S t ++ S (List.replicate g 32)).size + (S u).size ≤ 9223372036854775807 then (if two = true then (if ((S t ++ S (List.replicate g 32)) ++ S u).size + (S (List.replicate g 32)).size ≤ 9223372036854775807 then (if (((S t ++ S (List.replicate g 32)) ++ S u) ++ S (List.replicate g 32)).size + 1 ≤ 9223372036854775807 then (if ((((S t ++ S (List.replicate g 32)) ++ S u) ++ S (List.replicate g 32)) ++ (⟨#[45]⟩ : ByteArray)).size + (S (List.replicate g 32)).size ≤ 9223372036854775807 then (if (((((S t ++ S (List.replicate g 32)) ++ S u) ++ S (List.replicate g 32)) ++ (⟨#[45]⟩ : ByteArray)) ++ S (List.replicate g 32)).size + (S v).size ≤ 9223372036854775807 then (if acc.length < 17592186044416 then (florinlaw10_Write.l0 k (acc ++ [(⟨wrap32 a, wrap32 b⟩ : S28)]) ((((((S t ++ S (List.replicate g 32)) ++ S u) ++ S (List.replicate g 32)) ++ (⟨#[45]⟩ : ByteArray)) ++ S (List.replicate g 32)) ++ S v) l (l.length : Int) (wrap64 ((i : Int) + 1))) else (none)) else (none)) else (none)) else (none)) else (none)) else (if acc.length < 17592186044416 then (florinlaw10_Write.l0 k (acc ++ [(⟨wrap32 a, wrap32 a⟩ : S28)]) ((S t ++ S (List.replicate g 32)) ++ S u) l (l.length : Int) (wrap64 ((i : Int) + 1))) else (none))) else (none)) else (none)) r := by
  rw [wa, wb, wi, show (⟨#[45]⟩ : ByteArray) = S [45] from rfl]
  clear wa wb wi
  have k1 : (S t).size ≤ 10000 := ht
  have k2 : (S (List.replicate g (32 : UInt8))).size ≤ 2 := by rw [S_size, List.length_replicate]; exact hg
  have k3 : (S u).size ≤ 10 := hu
  have k4 : (S v).size ≤ 10 := hv
  have k5 : (S [(45 : UInt8)]).size ≤ 1 := Nat.le_refl _
  have c1 := sz_app t (List.replicate g 32) k1 k2
  rw [S_append t] at c1
  have c2 := sz_app _ u c1 k3
  rw [S_append _ u] at c2
  have c3 := sz_app _ (List.replicate g 32) c2 k2
  rw [S_append _ (List.replicate g 32)] at c3
  have c4 := sz_app _ [45] c3 k5
  rw [S_append _ [45]] at c4
  have c5 := sz_app _ (List.replicate g 32) c4 k2
  rw [S_append _ (List.replicate g 32)] at c5
  rw [S_append t, S_append _ u]
  have f1 : (S t).size + (S (List.replicate g (32 : UInt8))).size ≤ 9223372036854775807 := Nat.le_trans (Nat.add_le_add k1 k2) (by decide)
  have f2 := Nat.le_trans (Nat.add_le_add c1 k3) (show 10000 + 2 + 10 ≤ 9223372036854775807 by decide)
  have f3 := Nat.le_trans (Nat.add_le_add c2 k2) (show 10000 + 2 + 10 + 2 ≤ 9223372036854775807 by decide)
  have f4 := Nat.le_trans (Nat.add_le_add_right c3 1) (show 10000 + 2 + 10 + 2 + 1 ≤ 9223372036854775807 by decide)
  have f5 := Nat.le_trans (Nat.add_le_add c4 k2) (show 10000 + 2 + 10 + 2 + 1 + 2 ≤ 9223372036854775807 by decide)
  have f6 := Nat.le_trans (Nat.add_le_add c5 k4) (show 10000 + 2 + 10 + 2 + 1 + 2 + 10 ≤ 9223372036854775807 by decide)
  have f7 : acc.length < 17592186044416 := Nat.lt_of_le_of_lt hacc (by decide)
  refine Ev.if_pos f1 (Ev.if_pos f2 ?_)
  cases two with
  | true =>
    rw [S_append _ (List.replicate g 32), S_append _ [45], S_append _ (List.replicate g 32), S_append _ v, txt_two g u v a b t]
    exact Ev.if_pos rfl (Ev.if_pos f3 (Ev.if_pos f4 (Ev.if_pos f5 (Ev.if_pos f6 (Ev.if_pos f7 h)))))
  | false =>
    rw [txt_one g u v a b t]
    exact Ev.if_neg (by decide) (Ev.if_pos f7 h)
theorem txt_le (g : Nat) (x y : List UInt8) (p q : Int) (two : Bool) (hg : g ≤ 2) (hx : x.length ≤ 10) (hy : y.length ≤ 10) : (Itm.txt ⟨g, x, p, two, y, q⟩).length ≤ 40 := by
  unfold Itm.txt
  cases two <;> simp <;> omega
theorem write_l0 (l : List Pr) (hl : l.length ≤ 20) (d : Nat) : ∀ (i : Nat) (acc : List Rg) (t : List UInt8), i + d = l.length → acc.length ≤ i → t.length ≤ 2 + 40 * i →
    ∃ is : List Itm, (∀ j ∈ is, j.Ok) ∧ is.length = d ∧ (is.flatMap Itm.txt).length ≤ 40 * d ∧ Ev (fun k => florinlaw10_Write.l0 k acc (S t) l (l.length : Int) (i : Int)) (acc ++ is.map Itm.rg, S (t ++ (is.flatMap Itm.txt ++ [93]))) := by
  induction d with
  | zero =>
    intro i acc t hi ha ht
    refine ⟨[], fun _ h => (by cases h), rfl, Nat.le_refl _, ?_⟩
    refine Ev.step (f := fun _ => some (acc, S (t ++ [93]))) (fun k => ?_) (by simpa using Ev.now _)
    rw [florinlaw10_Write.l0, _root_.if_neg (by omega), _root_.if_pos (by rw [S_size]; omega), show (⟨#[93]⟩ : ByteArray) = S [93] from rfl, S_append]
  | succ d ih =>
    intro i acc t hi ha ht
    have hlt : i < l.length := by omega
    have ht2 : t.length ≤ 10000 := by omega
    have ha2 : acc.length ≤ 100 := by omega
    have wi := inc64' (i := i) (by omega)
    obtain ⟨pr, hpr⟩ : ∃ pr, l[i] = pr := ⟨_, rfl⟩
    have key : ∀ it : Itm, it.Ok → it.txt.length ≤ 40 → (∀ r, Ev (fun k => florinlaw10_Write.l0 k (acc ++ [it.rg]) (S (t ++ it.txt)) l (l.length : Int) ((i + 1 : Nat) : Int)) r → Ev (fun k => florinlaw10_Write.l0 k acc (S t) l (l.length : Int) (i : Int)) r) →
        ∃ is : List Itm, (∀ j ∈ is, j.Ok) ∧ is.length = d + 1 ∧ (is.flatMap Itm.txt).length ≤ 40 * (d + 1) ∧ Ev (fun k => florinlaw10_Write.l0 k acc (S t) l (l.length : Int) (i : Int)) (acc ++ is.map Itm.rg, S (t ++ (is.flatMap Itm.txt ++ [93]))) := by
      intro it c0 c1 go
      obtain ⟨is, c2, c3, c4, c5⟩ := ih (i + 1) (acc ++ [it.rg]) (t ++ it.txt) (by omega) (by rw [List.length_append, List.length_singleton]; omega) (by rw [List.length_append]; omega)
      refine ⟨it :: is, fun j hj => ?_, by rw [List.length_cons, c3], by rw [List.flatMap_cons, List.length_append]; omega, ?_⟩
      · rcases List.mem_cons.1 hj with rfl | hj
        · exact c0
        · exact c2 j hj
      · rw [List.map_cons, List.flatMap_cons]
        rw [List.append_assoc, List.append_assoc] at c5
        rw [List.append_assoc]
        exact go _ c5
    clear ih
    obtain ⟨g, g1, g2, g3, g4⟩ := gap_ev pr.f3
    obtain ⟨p, x, a1, a2, a3, a4⟩ := One_write_ev pr.f0.f0 pr.f0.f1
    obtain ⟨q, y, b1, b2, b3, b4⟩ := One_write_ev pr.f1.f0 pr.f1.f1
    have wp : wrap32 ((p : Nat) : Int) = (p : Int) := w32 (by clear g2 g3; omega) (by clear g2 g3; omega)
    have wq : wrap32 ((q : Nat) : Int) = (q : Int) := w32 (by clear g2 g3 wp; omega) (by clear g2 g3 wp; omega)
    have start : ∀ r, Ev (fun k => (florinlaw10_One_write.f k (pr.f0.f0) (pr.f0.f1)).bind fun bt361 => ((florinlaw10_One_write.f k (pr.f1.f0) (pr.f1.f1)).bind fun bt363 => (if bt361.1 > bt363.1 then _ else _))) r → Ev (fun k => florinlaw10_Write.l0 k acc (S t) l (l.length : Int) (i : Int)) r := fun r h => Ev.step (fun k => by
      rw [florinlaw10_Write.l0, _root_.if_pos (by omega), _root_.if_pos (by omega), _root_.if_pos (by omega), rdP l i hlt, hpr, Option.bind_some]
      rw [show ([(⟨#[]⟩ : ByteArray), (⟨#[32]⟩ : ByteArray), (⟨#[32, 32]⟩ : ByteArray), (⟨#[]⟩ : ByteArray)] : List ByteArray) = gaps from rfl, g4, _root_.if_pos g2, _root_.if_pos g3]) h
    by_cases hgt : (p : Int) > (q : Int)
    · refine key ⟨g, y, q, pr.f2, x, p⟩ ⟨b2, fun _ => ⟨a2, Int.le_of_lt hgt⟩⟩ (txt_le g y x q p pr.f2 g1 b3 a3) (fun r h => start r (Ev.bind a1 (Ev.bind b1 (Ev.if_pos hgt ?_))))
      exact write_go pr.f2 g t y x q p acc l i r g1 ht2 b3 a3 ha2 wq wp wi h
    · refine key ⟨g, x, p, pr.f2, y, q⟩ ⟨a2, fun _ => ⟨b2, Int.not_lt.1 hgt⟩⟩ (txt_le g x y p q pr.f2 g1 a3 b3) (fun r h => start r (Ev.bind a1 (Ev.bind b1 (Ev.if_neg hgt ?_))))
      exact write_go pr.f2 g t x y p q acc l i r g1 ht2 a3 b3 ha2 wp wq wi h
theorem Write_ev (l : List Pr) (hl : l.length ≤ 20) (not : Bool) : ∃ is : List Itm, (∀ j ∈ is, j.Ok) ∧ is.length ≤ 20 ∧ (gtxt not is).length ≤ 1000 ∧ Ev (fun k => florinlaw10_Write.f k l not) (is.map Itm.rg, S (gtxt not is)) := by
  obtain ⟨is, h1, h2, h3, h4⟩ := write_l0 l hl l.length 0 [] ([91] ++ if not = true then [94] else []) (by omega) (Nat.le_refl _) (by cases not <;> simp)
  refine ⟨is, h1, by omega, ?_, ?_⟩
  · unfold gtxt
    cases not <;> simp <;> simp at h3 <;> omega
  · unfold florinlaw10_Write.f
    refine Ev.const rfl ?_
    have e : S (([91] ++ if not = true then [94] else []) ++ (is.flatMap Itm.txt ++ [93])) = S (gtxt not is) := by
      unfold gtxt
      simp
    rw [e, List.nil_append] at h4
    cases not with
    | true =>
      refine Ev.if_pos rfl (Ev.if_pos (by decide) (Ev.step (fun k => ?_) h4))
      rw [florinlaw10_Write.j0]; rfl
    | false =>
      refine Ev.if_neg (by decide) (Ev.step (fun k => ?_) h4)
      rw [florinlaw10_Write.j0]; rfl
theorem pureClassGrammar (l0 : List Pr) (a1 : Bool) : ∃ k, florinlaw10_ClassGrammar.f k l0 a1 = some true := by
  refine Ev.rounds ?_
  unfold florinlaw10_ClassGrammar.f
  refine Ev.bind head10 (Ev.if_pos rfl ?_)
  by_cases hl : (l0.length : Int) > 20
  · exact Ev.if_pos hl (Ev.now _)
  refine Ev.if_neg hl ?_
  obtain ⟨is, h1, h2, h3, h4⟩ := Write_ev l0 (by omega) a1
  obtain ⟨c, m1, m2⟩ := Cl.made (l := is.map Itm.rg) (n := 20) (by rw [List.length_map]; exact h2) (by omega)
  obtain ⟨_, h5⟩ := Parse_ev (gtxt a1 is) (by omega)
  obtain ⟨_, d, p1, p2⟩ := h5 a1 (is.map Itm.rg) (parse_items a1 is h1)
  refine Ev.bind h4 (Ev.bind m1 ?_)
  have hd := p2.2.2
  rw [List.length_map] at hd
  cases a1 with
  | true =>
    obtain ⟨e, n1, n2⟩ := m2.not (by omega)
    have s := p2.same n2 (by rw [List.length_map]; omega) (fun r _ _ => by simp)
    exact Ev.if_pos rfl (Ev.bind n1 (Ev.bind p1 (Ev.if_pos rfl (Ev.if_pos rfl (Ev.bind s (Ev.now _))))))
  | false =>
    have s := p2.same m2 (by rw [List.length_map]; omega) (fun r _ _ => by simp)
    exact Ev.if_neg (by decide) (Ev.bind p1 (Ev.if_pos rfl (Ev.if_pos rfl (Ev.bind s (Ev.now _)))))
end Go.Proofs.YtnpohgoacbpcjaaGreatDoor.P
