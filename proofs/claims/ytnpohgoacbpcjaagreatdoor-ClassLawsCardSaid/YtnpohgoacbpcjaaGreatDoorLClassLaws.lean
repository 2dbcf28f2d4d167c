import Derived.Test.YtnpohgoacbpcjaaGreatDoorOC
import Derived.Test.YtnpohgoacbpcjaaGreatDoorPx23
namespace Go.Proofs.YtnpohgoacbpcjaaGreatDoor.P
open Go.RowKit Go.Proofs.YtnpohgoacbpcjaaGreatDoorW.PrintWords Go.Proofs.YtnpohgoacbpcjaaGreatDoorW.PrintLast Go.Proofs.YtnpohgoacbpcjaaGreatDoorW.PrintMore Go.Proofs.YtnpohgoacbpcjaaGreatDoor.FM
set_option linter.unusedVariables false
set_option linter.unusedSimpArgs false

theorem laws_j0 {x y z : List Rg} {P Q R : Int → Prop} (hx : Cl x P 30) (hy : Cl y Q 30) (hz : Cl z R 30) : Ev (fun k => florinlaw10_ClassLaws.j0 k x y z false) true := by
  obtain ⟨yz, a1, b1⟩ := hy.or hz (by omega)
  obtain ⟨l1, a2, b2⟩ := hx.and b1 (by omega)
  obtain ⟨xy, a3, b3⟩ := hx.and hy (by omega)
  obtain ⟨xz, a4, b4⟩ := hx.and hz (by omega)
  obtain ⟨r1, a5, b5⟩ := b3.or b4 (by omega)
  obtain ⟨yaz, a6, b6⟩ := hy.and hz (by omega)
  obtain ⟨l2, a7, b7⟩ := hx.or b6 (by omega)
  obtain ⟨xoy, a8, b8⟩ := hx.or hy (by omega)
  obtain ⟨xoz, a9, b9⟩ := hx.or hz (by omega)
  obtain ⟨r2, a10, b10⟩ := b8.and b9 (by omega)
  obtain ⟨l3, a11, b11⟩ := b8.or hz (by omega)
  obtain ⟨r3, a12, b12⟩ := hx.or b1 (by omega)
  obtain ⟨xmy, a13, b13⟩ := hx.minus hy (by omega)
  obtain ⟨ny, a14, b14⟩ := hy.not (by omega)
  obtain ⟨r4, a15, b15⟩ := hx.and b14 (by omega)
  obtain ⟨l5, a16, b16⟩ := b13.or b3 (by omega)
  refine Ev.step (fun k => (by rw [florinlaw10_ClassLaws.j0, _root_.if_neg (by decide)])) ?_
  refine Ev.bind a1 (Ev.bind a2 (Ev.bind a3 (Ev.bind a4 (Ev.bind a5 (Ev.bind (b2.same b5 (by omega) ?_) (Ev.if_pos rfl ?_))))))
  · intro r _ _
    constructor
    · rintro ⟨a, b | b⟩
      · exact .inl ⟨a, b⟩
      · exact .inr ⟨a, b⟩
    · rintro (⟨a, b⟩ | ⟨a, b⟩)
      · exact ⟨a, .inl b⟩
      · exact ⟨a, .inr b⟩
  refine Ev.bind a6 (Ev.bind a7 (Ev.bind a8 (Ev.bind a9 (Ev.bind a10 (Ev.bind (b7.same b10 (by omega) ?_) (Ev.if_pos rfl ?_))))))
  · intro r _ _
    constructor
    · rintro (a | ⟨a, b⟩)
      · exact ⟨.inl a, .inl a⟩
      · exact ⟨.inr a, .inr b⟩
    · rintro ⟨a | a, b | b⟩
      · exact .inl a
      · exact .inl a
      · exact .inl b
      · exact .inr ⟨a, b⟩
  refine Ev.bind a8 (Ev.bind a11 (Ev.bind a1 (Ev.bind a12 (Ev.bind (b11.same b12 (by omega) ?_) (Ev.if_pos rfl ?_)))))
  · intro r _ _
    exact or_assoc
  refine Ev.bind a13 (Ev.bind a14 (Ev.bind a15 (Ev.bind (b13.same b15 (by omega) (fun r _ _ => Iff.rfl)) (Ev.if_pos rfl (Ev.bind a13 (Ev.bind a3 (Ev.bind a16 (Ev.bind (b16.same hx (by omega) ?_) (Ev.step (f := fun _ => some true) (fun k => (by rw [florinlaw10_ClassLaws.j1])) (Ev.now _))))))))))
  intro r _ _
  by_cases h : P r <;> by_cases h2 : Q r <;> simp [h, h2]
theorem pureClassLaws (l0 l1 l2 : List Rg) : ∃ k, florinlaw10_ClassLaws.f k l0 l1 l2 = some true := by
  refine Ev.rounds ?_
  unfold florinlaw10_ClassLaws.f
  obtain ⟨q, h1, h2⟩ := few_ev [l0, l1, l2] (by simp)
  refine Ev.bind head10 (Ev.if_pos rfl (Ev.bind h2 ?_))
  cases q with
  | false => exact Ev.if_neg (by decide) (Ev.now _)
  | true =>
    have h30 := h1.1 rfl
    obtain ⟨x, h3, hx⟩ := Cl.made (l := l0) (n := 30) (h30 l0 (by simp)) (by omega)
    obtain ⟨y, h4, hy⟩ := Cl.made (l := l1) (n := 30) (h30 l1 (by simp)) (by omega)
    obtain ⟨z, h5, hz⟩ := Cl.made (l := l2) (n := 30) (h30 l2 (by simp)) (by omega)
    obtain ⟨xoy, a1, b1⟩ := hx.or hy (by omega)
    obtain ⟨nxoy, a2, b2⟩ := b1.not (by omega)
    obtain ⟨nx, a3, b3⟩ := hx.not (by omega)
    obtain ⟨ny, a4, b4⟩ := hy.not (by omega)
    obtain ⟨r1, a5, b5⟩ := b3.and b4 (by omega)
    obtain ⟨xy, a6, b6⟩ := hx.and hy (by omega)
    obtain ⟨nxy, a7, b7⟩ := b6.not (by omega)
    obtain ⟨r2, a8, b8⟩ := b3.or b4 (by omega)
    obtain ⟨xx, a9, b9⟩ := hx.or hx (by omega)
    obtain ⟨xax, a10, b10⟩ := hx.and hx (by omega)
    refine Ev.if_pos rfl (Ev.bind h3 (Ev.bind h4 (Ev.bind h5 (Ev.bind a1 (Ev.bind a2 (Ev.bind a3 (Ev.bind a4 (Ev.bind a5 (Ev.bind (b2.same b5 (by omega) ?_) (Ev.if_pos rfl ?_))))))))))
    · intro r _ _
      by_cases h : In l0 r <;> by_cases h2 : In l1 r <;> simp [h, h2]
    refine Ev.bind a6 (Ev.bind a7 (Ev.bind a3 (Ev.bind a4 (Ev.bind a8 (Ev.bind (b7.same b8 (by omega) ?_) (Ev.if_pos rfl (Ev.bind a9 (Ev.bind (b9.same hx (by omega) ?_) (Ev.if_pos rfl (Ev.bind a10 (Ev.bind (b10.same hx (by omega) ?_) ?_)))))))))))
    · intro r _ _
      by_cases h : In l0 r <;> by_cases h2 : In l1 r <;> simp [h, h2]
    · intro r _ _; exact or_self_iff
    · intro r _ _; exact and_self_iff
    · exact laws_j0 hx hy hz
end Go.Proofs.YtnpohgoacbpcjaaGreatDoor.P
