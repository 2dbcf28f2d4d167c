import Derived.Test.YtnpohgoacbpcjaaGreatDoorSA
import Derived.Test.YtnpohgoacbpcjaaGreatDoorPx8
namespace Go.Proofs.YtnpohgoacbpcjaaGreatDoor.P
open Go.RowKit Go.Proofs.YtnpohgoacbpcjaaGreatDoorW.PrintWords Go.Proofs.YtnpohgoacbpcjaaGreatDoorW.PrintLast Go.Proofs.YtnpohgoacbpcjaaGreatDoorW.PrintMore Go.Proofs.YtnpohgoacbpcjaaGreatDoor.FM
set_option linter.unusedVariables false
set_option linter.unusedSimpArgs false
theorem head10 : Ev (fun k => florinlaw10_head.f k) true := by
  obtain ⟨_, h⟩ := Parse_ev [91, 97, 45, 99, 32, 120, 93] (by decide)
  obtain ⟨_, c, h1, h2⟩ := h false [⟨97, 99⟩, ⟨120, 120⟩] (by rfl)
  have hc : c = [⟨97, 99⟩, ⟨120, 120⟩] := by
    have hs : Stl [⟨97, 99⟩, ⟨120, 120⟩] := by
      refine ⟨?_, ?_⟩
      · simp
      · intro x hx
        simp at hx
        unfold Set1
        rcases hx with rfl | rfl <;> (dsimp only; omega)
    refine stl_ext h2.1 hs fun r => ?_
    rw [h2.2.1]
    constructor
    · intro hh; simpa using hh.1
    · intro hh; exact ⟨by simpa using hh, hs.range hh⟩
  subst hc
  unfold florinlaw10_head.f
  refine Ev.bind h1 (Ev.if_pos rfl (Ev.const (a := true) (by rfl) (Ev.if_pos rfl (Ev.const (a := true) (by rfl) (Ev.if_pos rfl (Ev.const (a := false) (by rfl) (Ev.if_neg (by decide) (Ev.const (a := S [91, 97, 45, 99, 120, 93]) (by rfl) (Ev.yes ?_)))))))))
  rw [S_toList]; rfl
end Go.Proofs.YtnpohgoacbpcjaaGreatDoor.P
