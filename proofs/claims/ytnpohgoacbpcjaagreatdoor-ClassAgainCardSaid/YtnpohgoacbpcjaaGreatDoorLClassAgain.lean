import Derived.Test.YtnpohgoacbpcjaaGreatDoorOC
import Derived.Test.YtnpohgoacbpcjaaGreatDoorSA
import Derived.Test.YtnpohgoacbpcjaaGreatDoorPx19
import Derived.Test.YtnpohgoacbpcjaaGreatDoorPx8
namespace Go.Proofs.YtnpohgoacbpcjaaGreatDoor.P
open Go.RowKit Go.Proofs.YtnpohgoacbpcjaaGreatDoorW.PrintWords Go.Proofs.YtnpohgoacbpcjaaGreatDoorW.PrintLast Go.Proofs.YtnpohgoacbpcjaaGreatDoorW.PrintMore Go.Proofs.YtnpohgoacbpcjaaGreatDoor.FM
set_option linter.unusedVariables false
set_option linter.unusedSimpArgs false

theorem again_l0 {c : List Rg} (hl : c.length ≤ 100) (hs : Stl c) (d : Nat) : ∀ (i : Nat) (acc : List UInt8), i + d = c.length → acc.length ≤ 1 + 21 * i → acc ++ (c.drop i).flatMap class_Class_String.one ++ [93] = class_Class_String.L c →
    Ev (fun k => florinlaw10_ClassAgain.l0 k c (S acc) c (c.length : Int) (i : Int)) true := by
  induction d with
  | zero =>
    intro i acc hi ha he
    rw [List.drop_of_length_le (by omega), List.flatMap_nil, List.append_nil] at he
    have s1 := String_ev (c := c) (by omega) hs.2
    have s2 := Parse_string (c := c) (by omega) hs
    have s4 := Same_yes (a := c) (b := c) (by omega) rfl
    refine Ev.step (fun k => (by rw [florinlaw10_ClassAgain.l0, _root_.if_neg (by omega)])) (Ev.const s1 (Ev.bind s2 (Ev.const s1 (Ev.if_pos ?_ (Ev.if_pos ?_ (Ev.if_pos rfl (Ev.bind s4 (Ev.now _))))))))
    · rw [S_size]; omega
    · rw [show (⟨#[93]⟩ : ByteArray) = S [93] from rfl, S_append, S_toList, S_toList, he]
  | succ d ih =>
    intro i acc hi ha he
    have hlt : i < c.length := by omega
    have hx := hs.2 c[i] (List.getElem_mem hlt)
    obtain ⟨x, hxx⟩ : ∃ x, c[i] = x := ⟨_, rfl⟩
    rw [hxx] at hx
    unfold Set1 at hx
    rw [drop_at c i hlt, List.flatMap_cons, hxx] at he
    have e1 := sign_ev x.f0 (by omega) (by omega)
    have e2 := sign_ev x.f1 (by omega) (by omega)
    have l1 := sign_len x.f0 (by omega) (by omega)
    have l2 := sign_len x.f1 (by omega) (by omega)
    have w1 : wrap64 x.f0 = x.f0 := w64 (by omega) (by omega)
    have w2 : wrap64 x.f1 = x.f1 := w64 (by omega) (by omega)
    refine Ev.step (fun k => (by rw [florinlaw10_ClassAgain.l0, _root_.if_pos (by omega), _root_.if_pos (by omega), _root_.if_pos (by omega), rdT c i hlt, hxx, w1, w2, inc64' (by omega)])) (Ev.bind e1 (Ev.if_pos ?_ ?_))
    · rw [S_size, S_size]; omega
    rw [show (⟨#[45]⟩ : ByteArray) = S [45] from rfl, S_append, S_append]
    by_cases h : x.f0 = x.f1
    · refine Ev.if_pos h (ih (i + 1) _ (by omega) (by rw [List.length_append]; omega) ?_)
      rw [← he]
      unfold class_Class_String.one
      rw [_root_.if_neg (by simpa using h)]
      simp
    · refine Ev.if_neg h (Ev.if_pos (by rw [S_size, List.length_append]; omega) (Ev.bind e2 ?_))
      rw [S_append]
      refine Ev.if_pos (by rw [S_size, S_size, List.length_append, List.length_append]; simp; omega) (ih (i + 1) _ (by omega) (by simp; omega) ?_)
      rw [← he]
      unfold class_Class_String.one
      rw [_root_.if_pos (by simpa using h)]
      simp
theorem pureClassAgain (l0 : List Rg) : ∃ k, florinlaw10_ClassAgain.f k l0 = some true := by
  refine Ev.rounds ?_
  unfold florinlaw10_ClassAgain.f
  obtain ⟨q, h1, h2⟩ := few_ev [l0] (by simp)
  refine Ev.bind head10 (Ev.if_pos rfl (Ev.bind h2 ?_))
  cases q with
  | false => exact Ev.if_neg (by decide) (Ev.now _)
  | true =>
    have h30 := h1.1 rfl l0 (List.mem_singleton.2 rfl)
    obtain ⟨c, h3, h4⟩ := Cl.made (l := l0) (n := 30) h30 (by omega)
    have hcl := h4.2.2
    exact Ev.if_pos rfl (Ev.bind h3 (again_l0 (by omega) h4.1 c.length 0 [91] (by omega) (by decide) (by unfold class_Class_String.L; simp)))
end Go.Proofs.YtnpohgoacbpcjaaGreatDoor.P
