import Derived.Test.YtaifmgdhdnmjiaaDoorO2
import Derived.Test.YtaifmgdhdnmjiaaDoorPx6
namespace Go.Proofs.YtaifmgdhdnmjiaaDoor.P
open Go.RowKit Go.Proofs.YtaifmgdhdnmjiaaDoorW.PrintWords Go.Proofs.YtaifmgdhdnmjiaaDoorW.PrintLast Go.Proofs.YtaifmgdhdnmjiaaDoorW.PrintMore Go.Proofs.YtaifmgdhdnmjiaaDoor.FM
set_option linter.unusedVariables false
set_option linter.unusedSimpArgs false

theorem shifts5_end (l0 l1 : List Int) (a2 a3 : Int) (h0 : l0.length ≤ 60) (h1 : l1.length ≤ 60) (w0 : ∀ x ∈ l0, (Lit.int .u8 x).wf = true) (w1 : ∀ x ∈ l1, (Lit.int .u8 x).wf = true) :
    Ev (fun k => florinlaw05_OperandShifts.j0 k l0 l1 a2 a3 false) true := by
  obtain ⟨a, b, da, db, la, lb, _, _, hs⟩ := Shown_ev l0 l1 (by omega) (by omega) w0 w1
  obtain ⟨e, he, he2⟩ := low64 4 (by decide) a2 15 (by decide)
  obtain ⟨f, hf, hf2⟩ := low64 4 (by decide) a3 15 (by decide)
  replace he2 : e < 16 := he2
  replace hf2 : f < 16 := hf2
  have E1 : ofE (e : Int) = e := by unfold ofE; omega
  have E2 : ofE (f : Int) = f := by unfold ofE; omega
  have E3 : ofE ((e + f : Nat) : Int) = e + f := by unfold ofE; omega
  have hI := ofInt_lt a b da db (e : Int)
  rw [E1] at hI
  have hl : (mkl (ofInt a b (e : Int))).length ≤ a.length + e := mkl_length_le.2 hI
  have ht := of_twice a b e f he2 hf2
  refine Ev.step (fun k => (by rw [florinlaw05_OperandShifts.j0, _root_.if_neg (by decide), he, hf])) ?_
  rw [show wrap64 ((e : Int) + (f : Int)) = ((e + f : Nat) : Int) by rw [w64 (by omega) (by omega)]; omega]
  refine Ev.bind hs ?_
  refine Ev.bind (OpOf_ev false a b (by omega) (by omega) da db (e : Int)) ?_
  refine Ev.bind (OpOf_ev false _ _ (by omega) (by rw [List.length_drop]; omega) (dig_mkl _) (db.drop _) (f : Int)) ?_
  refine Ev.bind (OpOf_ev false a b (by omega) (by omega) da db ((e + f : Nat) : Int)) ?_
  refine Ev.if_pos (by rw [S_toList, S_toList, ht.1]) (Ev.if_pos (by rw [S_toList, S_toList, ht.2]) (Ev.if_pos (by rw [E3]) (Ev.if_pos (by rw [E2]) (Ev.yes ?_))))
  rw [E1]; simp
theorem pureOperandShifts : florinlaw05_OperandShifts.Pure := by
  intro l0 l1 a2 a3 _ h0 w0 _ h1 w1 _ _
  refine Ev.rounds ?_
  unfold florinlaw05_OperandShifts.f
  have yes : Ev (fun k => florinlaw05_OperandShifts.j0 k l0 l1 a2 a3 true) true := Ev.step (f := fun _ => some true) (fun k => by rw [florinlaw05_OperandShifts.j0, _root_.if_pos rfl]) (Ev.now _)
  refine Ev.bind head05 (Ev.if_pos rfl ?_)
  by_cases h2 : (l0.length : Int) > 60
  · exact Ev.if_pos h2 yes
  refine Ev.if_neg h2 ?_
  by_cases h3 : (l1.length : Int) > 60
  · rw [decide_eq_true h3]; exact yes
  rw [decide_eq_false h3]
  exact shifts5_end l0 l1 a2 a3 (by omega) (by omega) w0 w1
end Go.Proofs.YtaifmgdhdnmjiaaDoor.P
