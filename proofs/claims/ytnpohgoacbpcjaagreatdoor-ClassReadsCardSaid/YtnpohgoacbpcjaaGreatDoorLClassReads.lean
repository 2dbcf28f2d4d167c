import Derived.Test.YtnpohgoacbpcjaaGreatDoorOC
import Derived.Test.YtnpohgoacbpcjaaGreatDoorSA
import Derived.Test.YtnpohgoacbpcjaaGreatDoorPx20
namespace Go.Proofs.YtnpohgoacbpcjaaGreatDoor.P
open Go.RowKit Go.Proofs.YtnpohgoacbpcjaaGreatDoorW.PrintWords Go.Proofs.YtnpohgoacbpcjaaGreatDoorW.PrintLast Go.Proofs.YtnpohgoacbpcjaaGreatDoorW.PrintMore Go.Proofs.YtnpohgoacbpcjaaGreatDoor.FM
set_option linter.unusedVariables false
set_option linter.unusedSimpArgs false

theorem pureClassReads (a0 : ByteArray) (h0 : a0.size ≤ 140737488351232) : ∃ k, florinlaw10_ClassReads.f k a0 = some true := by
  obtain ⟨l, rfl⟩ : ∃ l, a0 = S l := ⟨_, S_of a0⟩
  refine Ev.rounds ?_
  unfold florinlaw10_ClassReads.f
  refine Ev.bind head10 (Ev.if_pos rfl ?_)
  rw [S_size]
  by_cases hl : (l.length : Int) > 100
  · exact Ev.if_pos hl (Ev.now _)
  refine Ev.if_neg hl ?_
  obtain ⟨h1, h2⟩ := Parse_ev l (by omega)
  cases hp : parse l with
  | error e =>
    obtain ⟨he, h3⟩ := h1 e hp
    have hle := he.length_le
    refine Ev.bind h3 (Ev.if_neg (by simp) (Ev.if_pos rfl (Ev.if_pos rfl (Ev.if_pos ?_ (Ev.yes (decide_eq_true ?_))))))
    · exact pos_nn he
    · show pos l e ≤ _
      unfold pos; omega
  | ok q =>
    obtain ⟨not, acc⟩ := q
    obtain ⟨hl2, c, h3, h4⟩ := h2 not acc hp
    have hcl := h4.2.2
    have s1 := String_ev (c := c) (by omega) h4.1.2
    have s2 := Parse_string (c := c) (by omega) h4.1
    have s3 := settled_ev (l := c) (by omega) h4.1
    have s4 := Same_yes (a := c) (b := c) (by omega) rfl
    exact Ev.bind h3 (Ev.if_pos rfl (Ev.const s1 (Ev.bind s2 (Ev.bind s3 (Ev.if_pos rfl (Ev.if_pos rfl (Ev.bind s4 (Ev.now _))))))))
end Go.Proofs.YtnpohgoacbpcjaaGreatDoor.P
