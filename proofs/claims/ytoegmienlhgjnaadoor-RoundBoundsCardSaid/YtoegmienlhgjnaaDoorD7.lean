import Derived.Test.YtoegmienlhgjnaaDoorD6
import Derived.Test.YtoegmienlhgjnaaDoorPx4
import Derived.Test.YtoegmienlhgjnaaDoorPx5
namespace Go.Proofs.YtoegmienlhgjnaaDoor.P
open Go.RowKit Go.Proofs.YtoegmienlhgjnaaDoorW.PrintWords Go.Proofs.YtoegmienlhgjnaaDoorW.PrintLast Go.Proofs.YtoegmienlhgjnaaDoorW.PrintMore Go.Proofs.YtoegmienlhgjnaaDoor.FM
set_option linter.unusedVariables false
set_option linter.unusedSimpArgs false

/-- what an order says -/
def cmpZ (u v : Int) : Int := cmpI u v
theorem cmpI_lt0 {u v : Int} : cmpI u v < 0 ↔ u < v := by
  unfold cmpI
  repeat' split
  all_goals omega
theorem cmpI_eq0 {u v : Int} : cmpI u v = 0 ↔ u = v := by
  unfold cmpI
  repeat' split
  all_goals omega
theorem cmpI_gt0 {u v : Int} : cmpI u v > 0 ↔ v < u := by
  unfold cmpI
  repeat' split
  all_goals omega
theorem teq3 (a b : D) : ((tri a).1 == (tri b).1 && ((tri a).2.1.toList == (tri b).2.1.toList && ((tri a).2.2 == (tri b).2.2))) = decide (a = b) := by
  have h := ane3 a b
  rw [← Bool.not_and, ← Bool.not_and] at h
  have h2 := congrArg (!·) h
  simp only [Bool.not_not] at h2
  rw [h2]
  by_cases hh : a = b <;> simp [hh]
theorem dk_mod {K : Nat} {z : Int} (h : z ≠ 0) : (dk K z).m % 10 ≠ 0 ∧ 0 < (dk K z).m := by
  rw [dk_m]
  exact ⟨st_mod (by omega), st_pos (by omega)⟩
theorem Plc.succ {M K : Nat} {z : Int} (h : Plc M K z) (hM : M + 1 ≤ 29000) : Plc (M + 1) K z := h.up (Nat.le_succ M) hM
/-- an increment: a decimal above nought of few digits -/
structure Inc (M K : Nat) (U : Nat) : Prop where
  plc : Plc M K (U : Int)
  pos : 0 < U
  small : (dk K (U : Int)).m ≤ 1000000000
theorem head03_At (m : Int) (h0 : 0 ≤ m) (h6 : m ≤ 6) (neg : Bool) : Ev (fun k => round_At.f k neg (S [50, 53]) (-1) 0 m) (tri (nrm neg (qn m neg 25 10) 0)) := by
  have hs : st 25 = (25, 0) := st_uniq (m := 25) (k := 0) (by decide)
  have hd : nrm neg 25 (-1) = ⟨neg, 25, -1⟩ := by
    rw [nrm_pos (by decide), hs]; rfl
  have hv : Val neg [50, 53] (-1) ⟨neg, 25, -1⟩ := ⟨by unfold Dig; decide, by decide, by rw [show nvl [50, 53] = 25 by decide]; exact hd⟩
  have h := At_ev hv 0 m
  rw [show okM m = true from decide_eq_true ⟨h0, h6⟩, _root_.if_pos rfl] at h
  have e1 : atD m ⟨neg, 25, -1⟩ (held 0) = nrm neg (qn m neg 25 10) 0 := by
    unfold atD
    rw [show held 0 = 0 by decide, _root_.if_neg (show ¬ (0 : Int) ≤ -1 by decide)]
    rfl
  rw [e1] at h
  exact h
theorem head03_plain (neg : Bool) (q : Nat) (hq : q = 2 ∨ q = 3) : Ev (fun k => dec_Dec_Plain.f k (tri (nrm neg q 0)).1 (tri (nrm neg q 0)).2.1 (tri (nrm neg q 0)).2.2) (S ((if neg = true then [45] else []) ++ [UInt8.ofNat (48 + q)])) := by
  have hd : nrm neg q 0 = ⟨neg, q, 0⟩ := by
    have hs : st q = (q, 0) := by
      have := st_uniq (m := q) (k := 0) (by omega)
      simpa using this
    rw [nrm_pos (by omega), hs]; rfl
  have hm : mkl q = [UInt8.ofNat (48 + q)] := by
    rcases hq with rfl | rfl
    · exact mkl_lit _ (by decide) (by unfold Dig; decide) (by unfold Bare; decide)
    · exact mkl_lit _ (by decide) (by unfold Dig; decide) (by unfold Bare; decide)
  have hf : Few (nrm neg q 0) := few_nrm (by rw [hm]; simp)
  have h := Plain_tri _ hf
  rw [nrm_idem] at h
  have e1 : plainL (nrm neg q 0) = (if neg = true then [45] else []) ++ [UInt8.ofNat (48 + q)] := by
    rw [hd]
    unfold plainL
    have w : wholeN q 0 = q := by unfold wholeN; rw [_root_.if_pos (by decide)]; simp
    have p : partL q 0 = [] := by unfold partL; rw [_root_.if_pos (by decide)]
    dsimp only
    rw [w, p, hm]
    simp
  rw [e1] at h
  exact h
theorem head03 : Ev (fun k => florinlaw03_head.f k) true := by
  unfold florinlaw03_head.f
  have hs : st 25 = (25, 0) := st_uniq (m := 25) (k := 0) (by decide)
  have hm25 : mkl 25 = [50, 53] := mkl_lit _ (by decide) (by unfold Dig; decide) (by unfold Bare; decide)
  have hd : ∀ neg, nrm neg 25 (-1) = ⟨neg, 25, -1⟩ := fun neg => by rw [nrm_pos (by decide), hs]; rfl
  have h1 := Made_ev false [50, 53] (by decide) (by unfold Dig; decide) (-1)
  rw [show nvl [50, 53] = 25 by decide, hd] at h1
  have hf : Few (⟨false, 25, -1⟩ : D) := by rw [← hd false]; exact few_nrm (by rw [hm25]; decide)
  have h2 := Minus_tri (⟨false, 25, -1⟩ : D) hf
  have e2 : nrm (!(⟨false, 25, -1⟩ : D).neg) (⟨false, 25, -1⟩ : D).m (⟨false, 25, -1⟩ : D).e = ⟨true, 25, -1⟩ := hd true
  rw [e2] at h2
  have t1 : tri (⟨false, 25, -1⟩ : D) = (false, S [50, 53], -1) := by unfold tri; rw [hm25]
  have t2 : tri (⟨true, 25, -1⟩ : D) = (true, S [50, 53], -1) := by unfold tri; rw [hm25]
  rw [t1] at h1 h2
  rw [t2] at h2
  refine Ev.bind h1 (Ev.bind h2 ?_)
  dsimp only
  obtain ⟨ups, hups⟩ : ∃ y, y = ([(⟨#[50]⟩ : ByteArray), (⟨#[51]⟩ : ByteArray), (⟨#[50]⟩ : ByteArray), (⟨#[51]⟩ : ByteArray), (⟨#[50]⟩ : ByteArray), (⟨#[51]⟩ : ByteArray), (⟨#[50]⟩ : ByteArray)] : List ByteArray) := ⟨_, rfl⟩
  obtain ⟨dns, hdns⟩ : ∃ y, y = ([(⟨#[45, 50]⟩ : ByteArray), (⟨#[45, 51]⟩ : ByteArray), (⟨#[45, 50]⟩ : ByteArray), (⟨#[45, 51]⟩ : ByteArray), (⟨#[45, 50]⟩ : ByteArray), (⟨#[45, 50]⟩ : ByteArray), (⟨#[45, 51]⟩ : ByteArray)] : List ByteArray) := ⟨_, rfl⟩
  rw [← hups, ← hdns]
  have l1 : (ups.length : Int) = 7 := by rw [hups]; rfl
  have l2 : (dns.length : Int) = 7 := by rw [hdns]; rfl
  have stp : ∀ m : Int, 0 ≤ m → m ≤ 6 → (rdOf ByteArray.empty ups m).toList = [UInt8.ofNat (48 + qn m false 25 10)] → (rdOf ByteArray.empty dns m).toList = [45, UInt8.ofNat (48 + qn m true 25 10)] → (qn m false 25 10 = 2 ∨ qn m false 25 10 = 3) → (qn m true 25 10 = 2 ∨ qn m true 25 10 = 3) →
      Ev (fun k => florinlaw03_head.l0 k ups dns (m + 1) false (S [50, 53]) (-1) true (S [50, 53]) (-1)) true → Ev (fun k => florinlaw03_head.l0 k ups dns m false (S [50, 53]) (-1) true (S [50, 53]) (-1)) true := by
    intro m g0 g6 e1 e2 q1 q2 hn
    refine Ev.step (fun k => (by rw [florinlaw03_head.l0, show wrap64 (m + 1) = m + 1 from w64 (by omega) (by omega)])) ?_
    refine Ev.if_pos g6 ?_
    refine Ev.bind (head03_At m g0 g6 false) ?_
    refine Ev.bind (head03_plain false _ q1) ?_
    refine Ev.if_pos g0 ?_
    refine Ev.if_pos (by rw [l1]; omega) ?_
    refine Ev.if_pos ?_ ?_
    rotate_left
    refine Ev.bind (head03_At m g0 g6 true) ?_
    refine Ev.bind (head03_plain true _ q2) ?_
    refine Ev.if_pos (by rw [l2]; omega) ?_
    refine Ev.if_pos ?_ hn
    rotate_left
    · rw [S_toList, e1]; rfl
    · rw [S_toList, e2]; rfl
  refine stp 0 (by decide) (by decide) ?_ ?_ (by decide) (by decide) ?_
  · rw [hups]; show (ByteArray.toList ⟨#[50]⟩) = _; exact S_toList [50]
  · rw [hdns]; show (ByteArray.toList ⟨#[45, 50]⟩) = _; exact S_toList [45, 50]
  refine stp 1 (by decide) (by decide) ?_ ?_ (by decide) (by decide) ?_
  · rw [hups]; show (ByteArray.toList ⟨#[51]⟩) = _; exact S_toList [51]
  · rw [hdns]; show (ByteArray.toList ⟨#[45, 51]⟩) = _; exact S_toList [45, 51]
  refine stp 2 (by decide) (by decide) ?_ ?_ (by decide) (by decide) ?_
  · rw [hups]; show (ByteArray.toList ⟨#[50]⟩) = _; exact S_toList [50]
  · rw [hdns]; show (ByteArray.toList ⟨#[45, 50]⟩) = _; exact S_toList [45, 50]
  refine stp 3 (by decide) (by decide) ?_ ?_ (by decide) (by decide) ?_
  · rw [hups]; show (ByteArray.toList ⟨#[51]⟩) = _; exact S_toList [51]
  · rw [hdns]; show (ByteArray.toList ⟨#[45, 51]⟩) = _; exact S_toList [45, 51]
  refine stp 4 (by decide) (by decide) ?_ ?_ (by decide) (by decide) ?_
  · rw [hups]; show (ByteArray.toList ⟨#[50]⟩) = _; exact S_toList [50]
  · rw [hdns]; show (ByteArray.toList ⟨#[45, 50]⟩) = _; exact S_toList [45, 50]
  refine stp 5 (by decide) (by decide) ?_ ?_ (by decide) (by decide) ?_
  · rw [hups]; show (ByteArray.toList ⟨#[51]⟩) = _; exact S_toList [51]
  · rw [hdns]; show (ByteArray.toList ⟨#[45, 50]⟩) = _; exact S_toList [45, 50]
  refine stp 6 (by decide) (by decide) ?_ ?_ (by decide) (by decide) ?_
  · rw [hups]; show (ByteArray.toList ⟨#[50]⟩) = _; exact S_toList [50]
  · rw [hdns]; show (ByteArray.toList ⟨#[45, 51]⟩) = _; exact S_toList [45, 51]
  exact Ev.step (fun k => (by rw [florinlaw03_head.l0, _root_.if_neg (by decide)])) (Ev.now _)
end Go.Proofs.YtoegmienlhgjnaaDoor.P
