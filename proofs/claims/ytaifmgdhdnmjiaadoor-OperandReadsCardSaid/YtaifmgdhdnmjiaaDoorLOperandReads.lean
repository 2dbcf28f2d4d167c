import Derived.Test.YtaifmgdhdnmjiaaDoorO2
import Derived.Test.YtaifmgdhdnmjiaaDoorPx6
import Derived.Test.YtaifmgdhdnmjiaaDoorPx7
namespace Go.Proofs.YtaifmgdhdnmjiaaDoor.P
open Go.RowKit Go.Proofs.YtaifmgdhdnmjiaaDoorW.PrintWords Go.Proofs.YtaifmgdhdnmjiaaDoorW.PrintLast Go.Proofs.YtaifmgdhdnmjiaaDoorW.PrintMore Go.Proofs.YtaifmgdhdnmjiaaDoor.FM
set_option linter.unusedVariables false
set_option linter.unusedSimpArgs false

theorem mx0 (e : Int) : mx e 0 = ((e.toNat : Nat) : Int) := by unfold mx; split <;> omega
theorem reads_j2 (l A P : List UInt8) (e : Int) (hl : l.length ≤ 100000) (ho : readOk l) (hA : rdW l = A) (hP : rdP l = P) (hE : nvl (rdE l) = e.toNat) (lA : A.length ≤ 100000) (lP : P.length ≤ 100000) :
    Ev (fun k => florinlaw05_OperandReads.j2 k e (S l) false (S A) (S P)) true := by
  refine Ev.step (fun k => (by rw [florinlaw05_OperandReads.j2, S_size, S_size, w64 (by omega) (by omega), mx0])) ?_
  by_cases hlong : 10000 < nvl (rdE l) ∨ 1000 < (rdW l).length + (rdP l).length
  · refine Ev.bind (Read_long l hl ho hlong) ?_
    rw [hA, hP, hE] at hlong
    by_cases h1 : (A.length : Int) + (P.length : Int) > 1000
    · exact Ev.if_pos h1 (Ev.if_pos rfl (Ev.yes (by rw [S_toList]; rfl)))
    · exact Ev.if_neg h1 (Ev.if_pos (by omega) (Ev.if_pos rfl (Ev.yes (by rw [S_toList]; rfl))))
  · have dA : Dig A := hA ▸ ho.2.2.2.1
    have dP : Dig P := hP ▸ ho.2.2.2.2.1
    have hr := Read_ok l hl ho (by omega) (by omega)
    rw [hA, hP, hE] at hr hlong
    refine Ev.bind hr (Ev.if_neg (by omega) (Ev.if_neg (by omega) (Ev.if_pos rfl (Ev.bind (OpOf_ev false A P (by omega) (by omega) dA dP _) (Ev.yes ?_)))))
    simp
theorem reads_text {A P : List UInt8} {pt : Bool} (dA : Dig A) (dP : Dig P) (hP2 : pt = false → P = []) :
    (∀ c ∈ (if pt = true then A ++ 46 :: P else A), c ∉ ([99, 101] : List UInt8)) ∧ cutL (if pt = true then A ++ 46 :: P else A) [46] = (A, P, pt) := by
  cases pt with
  | true =>
    refine ⟨?_, cutL_mid P (by decide) A (dig_not_pt dA)⟩
    intro c hc
    rw [_root_.if_pos rfl, List.mem_append, List.mem_cons] at hc
    rcases hc with hc | rfl | hc
    · exact dig_not_ce dA c hc
    · decide
    · exact dig_not_ce dP c hc
  | false =>
    rw [hP2 rfl, _root_.if_neg (by decide)]
    exact ⟨dig_not_ce dA, cutL_none A (dig_not_pt dA)⟩
theorem reads_bare {M A P : List UInt8} {pt : Bool} (h1 : ∀ c ∈ M, c ∉ ([99, 101] : List UInt8)) (h2 : cutL M [46] = (A, P, pt)) (dA : Dig A) (dP : Dig P) (hA : A ≠ []) (hP : pt = true → P ≠ []) :
    readOk M ∧ rdW M = A ∧ rdP M = P ∧ rdE M = [] := by
  unfold readOk rdW rdP rdE
  rw [cutL_none M h1]
  show ((cutL M [46]).1 ≠ [] ∧ ((cutL M [46]).2.2 = true → (cutL M [46]).2.1 ≠ []) ∧ _ ∧ Dig (cutL M [46]).1 ∧ Dig (cutL M [46]).2.1 ∧ _) ∧ (cutL M [46]).1 = A ∧ (cutL M [46]).2.1 = P ∧ _
  rw [h2]
  exact ⟨⟨hA, hP, (fun h => by cases h), dA, dP, Dig.nil⟩, rfl, rfl, rfl⟩
theorem reads_pow {M A P E : List UInt8} {pt : Bool} {c : UInt8} (hc : c ∈ ([99, 101] : List UInt8)) (h1 : ∀ c ∈ M, c ∉ ([99, 101] : List UInt8)) (h2 : cutL M [46] = (A, P, pt)) (dA : Dig A) (dP : Dig P) (dE : Dig E) (hA : A ≠ []) (hP : pt = true → P ≠ []) (hE : E ≠ []) :
    readOk (M ++ c :: E) ∧ rdW (M ++ c :: E) = A ∧ rdP (M ++ c :: E) = P ∧ rdE (M ++ c :: E) = E := by
  unfold readOk rdW rdP rdE
  rw [cutL_mid E hc M h1]
  show ((cutL M [46]).1 ≠ [] ∧ ((cutL M [46]).2.2 = true → (cutL M [46]).2.1 ≠ []) ∧ _ ∧ Dig (cutL M [46]).1 ∧ Dig (cutL M [46]).2.1 ∧ _) ∧ (cutL M [46]).1 = A ∧ (cutL M [46]).2.1 = P ∧ _
  rw [h2]
  exact ⟨⟨hA, hP, fun _ => hE, dA, dP, dE⟩, rfl, rfl, rfl⟩
theorem reads_j1 (M A P : List UInt8) (pt : Bool) (e : Int) (x4 : Bool) (he : e ≤ 11000) (lM : M.length ≤ 50000) (lA : A.length ≤ 50000) (lP : P.length ≤ 50000) (h1 : ∀ c ∈ M, c ∉ ([99, 101] : List UInt8)) (h2 : cutL M [46] = (A, P, pt)) (dA : Dig A) (dP : Dig P) (hA : A ≠ []) (hP : pt = true → P ≠ []) :
    Ev (fun k => florinlaw05_OperandReads.j1 k e x4 (S M) false (S A) (S P)) true := by
  by_cases h : e ≥ 0
  · have hof : Ev (fun k => num_Of.f k e) (S (mkl e.toNat)) := by
      have := Of_ev e.toNat (by omega)
      rwa [Int.toNat_of_nonneg h] at this
    have lE : (mkl e.toNat).length ≤ 5 := mkl_length_le.2 (by omega)
    have fin : ∀ (c : UInt8) (E : List UInt8), c ∈ ([99, 101] : List UInt8) → Dig E → E ≠ [] → E.length ≤ 5 → nvl E = e.toNat → Ev (fun k => florinlaw05_OperandReads.j2 k e (S (M ++ [c] ++ E)) false (S A) (S P)) true := by
      intro c E hc dE hE lE' hv
      obtain ⟨r1, r2, r3, r4⟩ := reads_pow (E := E) hc h1 h2 dA dP dE hA hP hE
      have eT : M ++ [c] ++ E = M ++ c :: E := by simp
      rw [eT]
      exact reads_j2 _ A P e (by rw [List.length_append, List.length_cons]; omega) r1 r2 r3 (by rw [r4]; exact hv) (by omega) (by omega)
    have ce : ((⟨#[101]⟩ : ByteArray)) = S [101] := rfl
    have cc : ((⟨#[99]⟩ : ByteArray)) = S [99] := rfl
    have c0 : ((⟨#[48]⟩ : ByteArray)) = S [48] := rfl
    cases x4 with
    | true =>
      refine Ev.step (fun k => (by rw [florinlaw05_OperandReads.j1, _root_.if_pos h, _root_.if_pos rfl, ce, c0, S_append, S_append])) (Ev.bind hof ?_)
      rw [S_toList]
      by_cases hz : mkl e.toNat = []
      · refine Ev.if_pos hz (Ev.if_pos (by rw [S_size]; omega) (Ev.if_pos (by rw [S_size, List.length_append, List.length_singleton]; omega) (fin 101 [48] (by decide) (by unfold Dig; decide) (by decide) (by decide) ?_)))
        rw [mkl_eq_nil.1 hz]; rfl
      · rw [S_append]
        exact Ev.if_neg hz (Ev.if_pos (by rw [S_size]; omega) (Ev.if_pos (by rw [S_size, S_size, List.length_append, List.length_singleton]; omega) (fin 101 _ (by decide) (dig_mkl _) hz lE (nvl_mkl _))))
    | false =>
      refine Ev.step (fun k => (by rw [florinlaw05_OperandReads.j1, _root_.if_pos h, _root_.if_neg (by decide), cc, c0, S_append, S_append])) (Ev.bind hof ?_)
      rw [S_toList]
      by_cases hz : mkl e.toNat = []
      · refine Ev.if_pos hz (Ev.if_pos (by rw [S_size]; omega) (Ev.if_pos (by rw [S_size, List.length_append, List.length_singleton]; omega) (fin 99 [48] (by decide) (by unfold Dig; decide) (by decide) (by decide) ?_)))
        rw [mkl_eq_nil.1 hz]; rfl
      · rw [S_append]
        exact Ev.if_neg hz (Ev.if_pos (by rw [S_size]; omega) (Ev.if_pos (by rw [S_size, S_size, List.length_append, List.length_singleton]; omega) (fin 99 _ (by decide) (dig_mkl _) hz lE (nvl_mkl _))))
  · obtain ⟨r1, r2, r3, r4⟩ := reads_bare h1 h2 dA dP hA hP
    refine Ev.step (fun k => (by rw [florinlaw05_OperandReads.j1, _root_.if_neg h])) ?_
    exact reads_j2 M A P e (by omega) r1 r2 r3 (by rw [r4, show e.toNat = 0 by omega]; rfl) (by omega) (by omega)
theorem reads_j0 (l0 l1 : List Int) (x2 : Bool) (e : Int) (x4 : Bool) (he : e ≤ 11000) (h0 : l0.length ≤ 1100) (h1 : l1.length ≤ 1100) (hz : l0.length ≠ 0) (hp : x2 = true → l1.length ≠ 0) (w0 : ∀ x ∈ l0, (Lit.int .u8 x).wf = true) (w1 : ∀ x ∈ l1, (Lit.int .u8 x).wf = true) :
    Ev (fun k => florinlaw05_OperandReads.j0 k l0 l1 x2 e x4 false) true := by
  have hne : ∀ l : List Int, l.length ≠ 0 → digs l ≠ [] := fun l hl hh => hl (by rw [← digs_length, hh]; rfl)
  refine Ev.step (fun k => (by rw [florinlaw05_OperandReads.j0, _root_.if_neg (by decide)])) (Ev.bind (Digits_ev l0 (by omega) w0) ?_)
  have la := digs_length l0
  have lb := digs_length l1
  cases x2 with
  | true =>
    refine Ev.if_pos rfl (Ev.bind (Digits_ev l1 (by omega) w1) ?_)
    rw [show ((⟨#[46]⟩ : ByteArray)) = S [46] from rfl, S_append, S_append]
    refine Ev.if_pos (by rw [S_size]; omega) (Ev.if_pos (by rw [S_size, S_size, List.length_append, List.length_singleton]; omega) ?_)
    have ht := reads_text (A := digs l0) (P := digs l1) (pt := true) (digs_dig l0) (digs_dig l1) (fun h => by cases h)
    rw [_root_.if_pos rfl] at ht
    rw [show digs l0 ++ [46] ++ digs l1 = digs l0 ++ 46 :: digs l1 by simp]
    exact reads_j1 _ _ _ true e x4 he (by rw [List.length_append, List.length_cons]; omega) (by omega) (by omega) ht.1 ht.2 (digs_dig l0) (digs_dig l1) (hne l0 hz) (fun _ => hne l1 (hp rfl))
  | false =>
    refine Ev.if_neg (by decide) ?_
    have ht := reads_text (A := digs l0) (P := []) (pt := false) (digs_dig l0) Dig.nil (fun _ => rfl)
    rw [_root_.if_neg (by decide)] at ht
    exact reads_j1 _ _ [] false e x4 he (by omega) (by omega) (by decide) ht.1 ht.2 (digs_dig l0) Dig.nil (hne l0 hz) (fun h => by cases h)
theorem pureOperandReads : florinlaw05_OperandReads.Pure := by
  intro l0 l1 a2 a3 a4 _ h0 w0 _ h1 w1
  intros
  refine Ev.rounds ?_
  unfold florinlaw05_OperandReads.f
  have yes : Ev (fun k => florinlaw05_OperandReads.j0 k l0 l1 a2 a3 a4 true) true := Ev.step (f := fun _ => some true) (fun k => by rw [florinlaw05_OperandReads.j0, _root_.if_pos rfl]) (Ev.now _)
  refine Ev.bind head05 (Ev.if_pos rfl ?_)
  by_cases h2 : (l0.length : Int) > 1100
  · exact Ev.if_pos h2 yes
  refine Ev.if_neg h2 ?_
  by_cases h3 : (l1.length : Int) > 1100
  · exact Ev.if_pos h3 yes
  refine Ev.if_neg h3 ?_
  by_cases h4 : (l0.length : Int) = 0
  · exact Ev.if_pos h4 yes
  refine Ev.if_neg h4 ?_
  have last : (a2 = true → l1.length ≠ 0) → Ev (fun k => florinlaw05_OperandReads.j0 k l0 l1 a2 a3 a4 (decide (a3 > 11000))) true := by
    intro hp
    by_cases h5 : a3 > 11000
    · rw [decide_eq_true h5]; exact yes
    · rw [decide_eq_false h5]
      exact reads_j0 l0 l1 a2 a3 a4 (by omega) (by omega) (by omega) (by omega) hp w0 w1
  by_cases h6 : a2 = true
  · refine Ev.if_pos h6 ?_
    by_cases h7 : (l1.length : Int) = 0
    · exact Ev.if_pos h7 yes
    · exact Ev.if_neg h7 (last (fun _ => by omega))
  · exact Ev.if_neg h6 (last (fun h => absurd h h6))
end Go.Proofs.YtaifmgdhdnmjiaaDoor.P
