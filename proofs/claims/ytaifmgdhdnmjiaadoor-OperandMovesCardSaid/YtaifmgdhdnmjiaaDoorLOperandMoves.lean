import Derived.Test.YtaifmgdhdnmjiaaDoorO2
import Derived.Test.YtaifmgdhdnmjiaaDoorD1
import Derived.Test.YtaifmgdhdnmjiaaDoorPx12
import Derived.Test.YtaifmgdhdnmjiaaDoorPx13
import Derived.Test.YtaifmgdhdnmjiaaDoorPx3
import Derived.Test.YtaifmgdhdnmjiaaDoorPx4
namespace Go.Proofs.YtaifmgdhdnmjiaaDoor.P
open Go.RowKit Go.Proofs.YtaifmgdhdnmjiaaDoorW.PrintWords Go.Proofs.YtaifmgdhdnmjiaaDoorW.PrintLast Go.Proofs.YtaifmgdhdnmjiaaDoorW.PrintMore Go.Proofs.YtaifmgdhdnmjiaaDoor.FM
set_option linter.unusedVariables false
set_option linter.unusedSimpArgs false

theorem st_snd_le {n k : Nat} (h : n < 10 ^ k) : (st n).2 ≤ k := by
  rcases Nat.eq_zero_or_pos n with rfl | h0
  · rw [st_zero]; exact Nat.zero_le _
  · exact Nat.le_of_lt (st_snd_lt h0 h)
theorem moves_val (a b : List UInt8) (da : Dig a) (db : Dig b) (lb : b.length ≤ 60) (e : Int) :
    nrm false (nvl (mkl (ofInt a b e) ++ b.drop (ofN b e))) (-((b.length - ofN b e : Nat) : Int)) = nrm false (nvl (a ++ b)) (-(b.length : Int) + ofE e) := by
  have hE : ofE e ≤ 10000 := by unfold ofE; omega
  unfold ofInt ofN
  obtain ⟨E, hEE⟩ : ∃ E, ofE e = E := ⟨_, rfl⟩
  rw [hEE] at hE ⊢
  rw [nvl_append, nvl_mkl]
  rcases Nat.lt_or_ge b.length E with h | h
  · rw [Nat.min_eq_right (by omega), List.drop_length, List.take_length, nvl_nil, List.length_nil, Nat.pow_zero, Nat.mul_one, Nat.add_zero, nrm_shift (by omega) (by omega)]
    congr 1
    omega
  · rw [Nat.min_eq_left h, Nat.sub_self, Nat.pow_zero, Nat.mul_one, ← nvl_append, List.append_assoc, List.take_append_drop]
    congr 1
    omega
theorem moves_end (l0 l1 : List Int) (a2 : Bool) (a3 : Int) (h0 : l0.length ≤ 60) (h1 : l1.length ≤ 60) (w0 : ∀ x ∈ l0, (Lit.int .u8 x).wf = true) (w1 : ∀ x ∈ l1, (Lit.int .u8 x).wf = true) :
    Ev (fun k => florinlaw05_OperandMoves.j0 k l0 l1 a2 a3 false) true := by
  obtain ⟨a, b, da, db, la, lb, _, _, hs⟩ := Shown_ev l0 l1 (by omega) (by omega) w0 w1
  have hE : mn (mx a3 0) 10000 = (ofE a3 : Int) := by
    unfold mn mx ofE
    repeat' split
    all_goals omega
  have hE2 : ofE a3 ≤ 10000 := by unfold ofE; omega
  have hn : ofN b a3 = min (ofE a3) b.length := rfl
  have hI := ofInt_lt a b da db a3
  have lI : (mkl (ofInt a b a3)).length ≤ a.length + ofE a3 := mkl_length_le.2 hI
  have hX := nvl_lt (da.append db)
  rw [List.length_append] at hX
  have hv := moves_val a b da db (by omega) a3
  refine Ev.step (fun k => (by rw [florinlaw05_OperandMoves.j0, _root_.if_neg (by decide), hE])) (Ev.bind hs ?_)
  dsimp only
  refine Ev.bind (OpOf_ev a2 a b (by omega) (by omega) da db a3) ?_
  dsimp only
  obtain ⟨I, hIe⟩ : ∃ I, ofInt a b a3 = I := ⟨_, rfl⟩
  obtain ⟨F, hF⟩ : ∃ F, b.drop (ofN b a3) = F := ⟨_, rfl⟩
  have lF : F.length = b.length - ofN b a3 := by rw [← hF, List.length_drop]
  have dF : Dig F := by rw [← hF]; exact db.drop _
  rw [hIe, hF] at hv ⊢
  rw [hIe] at lI
  have ht : Ev (fun k => num_Trim.f k (S (mkl I))) (S (mkl I)) := by
    have := Trim_dig (mkl I) (by omega) (dig_mkl _)
    rwa [nvl_mkl] at this
  refine Ev.if_pos rfl (Ev.bind ht (Ev.if_pos rfl ?_))
  refine Ev.bind (a := S (mkl I)) (by unfold operand_Ops_I.f; exact Ev.bind ht (Ev.now _)) (Ev.if_pos rfl ?_)
  refine Ev.const (a := (F.length : Int)) rfl ?_
  have hV : ((F.length : Int) != mx (wrap64 (((S b).size : Int) - (ofE a3 : Int))) 0) = false := by
    apply bne_eq_false_iff_eq.2
    rw [S_size, w64 (by omega) (by omega)]
    unfold mx
    split <;> omega
  rw [hV]
  refine Ev.step (fun k => (by rw [florinlaw05_OperandMoves.j1, _root_.if_neg (by decide)])) ?_
  refine Ev.if_pos (by rw [S_size, S_size]; omega) ?_
  rw [S_append, S_size]
  refine Ev.bind (Made_ev false (mkl I ++ F) (by rw [List.length_append]; omega) ((dig_mkl _).append dF) _) ?_
  have hval : Ev (fun k => show_Vis_Value.f k a2 (S a) (S b)) (tri (nrm a2 (nvl (a ++ b)) (-(b.length : Int)))) := by
    unfold show_Vis_Value.f
    rw [S_append, S_size b]
    exact Ev.if_pos (by rw [S_size]; omega) (Ev.bind (Made_ev a2 (a ++ b) (by rw [List.length_append]; omega) (da.append db) _) (Ev.now _))
  refine Ev.bind hval ?_
  have f1 : Few (nrm a2 (nvl (a ++ b)) (-(b.length : Int))) := few_dig (by rw [List.length_append]; omega) (da.append db)
  have hab := Abs_tri _ f1
  rw [nrm_again] at hab
  refine Ev.bind hab ?_
  have f2 : Few (nrm false (nvl (a ++ b)) (-(b.length : Int))) := few_dig (by rw [List.length_append]; omega) (da.append db)
  have hsc := Scale_tri _ f2 (ofE a3 : Int)
  rw [nrm_idem] at hsc
  unfold scl at hsc
  have hst := st_snd_le hX
  rw [nrm_scale (by omega) (by omega) (by omega) (by omega) (by omega) (by omega)] at hsc
  refine Ev.bind hsc ?_
  rw [lF, hv]
  refine Ev.if_pos (by simp) ?_
  rw [S_toList, S_size b]
  by_cases hF0 : F = []
  · exact Ev.if_pos hF0 (Ev.now _)
  · have hpos : F.length ≠ 0 := fun h => hF0 (List.eq_nil_of_length_eq_zero h)
    refine Ev.if_neg hF0 (Ev.if_pos (by omega) (Ev.if_pos (by omega) (Ev.yes ?_)))
    rw [S_extract, S_toList, List.take_length, Int.toNat_natCast, ← hF, show ofN b a3 = ofE a3 by omega]
    simp
theorem pureOperandMoves : florinlaw05_OperandMoves.Pure := by
  intro l0 l1 a2 a3 _ h0 w0 _ h1 w1 _
  refine Ev.rounds ?_
  unfold florinlaw05_OperandMoves.f
  have yes : Ev (fun k => florinlaw05_OperandMoves.j0 k l0 l1 a2 a3 true) true := Ev.step (f := fun _ => some true) (fun k => by rw [florinlaw05_OperandMoves.j0, _root_.if_pos rfl]) (Ev.now _)
  refine Ev.bind head05 (Ev.if_pos rfl ?_)
  by_cases h2 : (l0.length : Int) > 60
  · exact Ev.if_pos h2 yes
  refine Ev.if_neg h2 ?_
  by_cases h3 : (l1.length : Int) > 60
  · rw [decide_eq_true h3]; exact yes
  rw [decide_eq_false h3]
  exact moves_end l0 l1 a2 a3 (by omega) (by omega) w0 w1
end Go.Proofs.YtaifmgdhdnmjiaaDoor.P
