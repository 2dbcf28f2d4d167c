import Derived.Test.YtefacokhmmpiaaaDoorS6
import Derived.Test.YtefacokhmmpiaaaDoorPx8
namespace Go.Proofs.YtefacokhmmpiaaaDoor.P
open Go.RowKit Go.Proofs.YtefacokhmmpiaaaDoorW.PrintWords Go.Proofs.YtefacokhmmpiaaaDoorW.PrintLast Go.Proofs.YtefacokhmmpiaaaDoorW.PrintMore Go.Proofs.YtefacokhmmpiaaaDoor.FM
set_option linter.unusedVariables false
set_option linter.unusedSimpArgs false

theorem smalls_end (x y m : Nat) (hx : x < 1099511627776) (hy : y < 1099511627776) (hm : m < 65536) (s : ByteArray) (is : Bool) (h : y ≤ x ∧ s = S (mkl (x - y)) ∧ is = true ∨ x < y ∧ s = S [] ∧ is = false) (c : Int) (hc : c = cmpN x y) :
    Ev (fun k => florinlaw01_NumSmall.j2 k (x : Int) (y : Int) (m : Int) (S (mkl x)) (S (mkl y)) s is (S (mkl (x / (m + 1)))) ((x % (m + 1) : Nat) : Int) c) true := by
  have bx : Sm (mkl x) := mkl_len_of (k := 13) (Nat.lt_of_lt_of_le hx (by decide)) (by omega)
  have by' : Sm (mkl y) := mkl_len_of (k := 13) (Nat.lt_of_lt_of_le hy (by decide)) (by omega)
  have e1 := Add_ev (mkl x) (mkl y) bx by' (dig_mkl _) (dig_mkl _)
  rw [nvl_mkl, nvl_mkl] at e1
  have e2 := Of_ev (x + y) (by omega)
  rw [show ((x + y : Nat) : Int) = wrap64 ((x : Int) + (y : Int)) by rw [w64 (by omega) (by omega)]; omega] at e2
  have e3 := Cmp_ev (mkl x) (mkl y) bx by' (dig_mkl _) (dig_mkl _)
  rw [nvl_mkl, nvl_mkl] at e3
  have e4 := Times_ev (mkl x) bx (dig_mkl _) m (by omega)
  rw [nvl_mkl] at e4
  have hxm : x * m ≤ 1099511627776 * 65536 := Nat.mul_le_mul (by omega) (by omega)
  have e5 := Of_ev (x * m) (Nat.le_trans hxm (by decide))
  have hw5 : ((x * m : Nat) : Int) = wrap64 ((x : Int) * (m : Int)) := by
    rw [← Int.natCast_mul]
    obtain ⟨p, hp⟩ : ∃ p, x * m = p := ⟨_, rfl⟩
    rw [hp] at hxm ⊢
    rw [w64 (by omega) (by omega)]
  rw [hw5] at e5
  have em : wrap64 ((m : Int) + 1) = ((m + 1 : Nat) : Int) := inc64 (by omega)
  have hq : x / (m + 1) ≤ x := Nat.div_le_self _ _
  have e6 := Of_ev (x / (m + 1)) (by omega)
  have ed : wrap64 (Int.tdiv (x : Int) ((m + 1 : Nat) : Int)) = ((x / (m + 1) : Nat) : Int) := by
    rw [← Int.ofNat_tdiv]
    obtain ⟨q, hq2⟩ : ∃ q, x / (m + 1) = q := ⟨_, rfl⟩
    rw [hq2] at hq ⊢
    rw [w64 (by omega) (by omega)]
  have et : Int.tmod (x : Int) ((m + 1 : Nat) : Int) = ((x % (m + 1) : Nat) : Int) := (Int.ofNat_tmod _ _).symm
  have hlast : Ev (fun k => (num_Times.f k (S (mkl x)) (m : Int)).bind fun t272 => (num_Of.f k (wrap64 ((x : Int) * (m : Int)))).bind fun t273 => if t272.toList = t273.toList then (if wrap64 ((m : Int) + 1) = 0 then none else (num_Of.f k (wrap64 (Int.tdiv (x : Int) (wrap64 ((m : Int) + 1))))).bind fun t274 => if (S (mkl (x / (m + 1)))).toList = t274.toList then some (((x % (m + 1) : Nat) : Int) == Int.tmod (x : Int) (wrap64 ((m : Int) + 1))) else some false) else some false) true := by
    refine Ev.bind e4 (Ev.bind e5 (Ev.if_pos rfl ?_))
    rw [em, ed, et]
    exact Ev.if_neg (by omega) (Ev.bind e6 (Ev.if_pos rfl (Ev.yes (by simp))))
  refine Ev.step (fun k => (by rw [florinlaw01_NumSmall.j2])) ?_
  refine Ev.bind e1 (Ev.bind e2 (Ev.if_pos rfl (Ev.bind e3 (Ev.if_pos hc.symm ?_))))
  rcases h with ⟨h, rfl, rfl⟩ | ⟨h, rfl, rfl⟩
  · refine Ev.if_pos (by rw [decide_eq_true (by omega : (x : Int) ≥ (y : Int))]; rfl) ?_
    have e7 := Of_ev (x - y) (by omega)
    rw [show ((x - y : Nat) : Int) = mx (wrap64 ((x : Int) - (y : Int))) 0 by
      rw [w64 (by omega) (by omega)]
      unfold mx; split <;> omega] at e7
    exact Ev.bind e7 (Ev.if_pos rfl hlast)
  · refine Ev.if_pos (by rw [decide_eq_false (by omega : ¬ (x : Int) ≥ (y : Int))]; rfl) ?_
    have e7 := Of_neg (mx (wrap64 ((x : Int) - (y : Int))) 0) (by
      rw [w64 (by omega) (by omega)]
      unfold mx; split <;> omega)
    exact Ev.bind e7 (Ev.if_pos rfl hlast)
theorem pureNumSmall : florinlaw01_NumSmall.Pure := by
  intro a0 a1 a2 _ _ _
  refine Ev.rounds ?_
  unfold florinlaw01_NumSmall.f
  refine Ev.bind head01 (Ev.if_pos rfl ?_)
  obtain ⟨x, hx, hx2⟩ := low64 40 (by decide) a0 1099511627775 (by decide)
  obtain ⟨y, hy, hy2⟩ := low64 40 (by decide) a1 1099511627775 (by decide)
  obtain ⟨m, hm, hm2⟩ := low64 16 (by decide) a2 65535 (by decide)
  rw [hx, hy, hm]
  have hx3 : x < 1099511627776 := hx2
  have hy3 : y < 1099511627776 := hy2
  have hm3 : m < 65536 := hm2
  clear hx2 hy2 hm2 hx hy hm
  have lx : (mkl x).length ≤ 13 := mkl_length_le.2 (Nat.lt_of_lt_of_le hx3 (by decide))
  have bx : Sm (mkl x) := sm_le lx (by omega)
  have by' : Sm (mkl y) := mkl_len_of (k := 13) (Nat.lt_of_lt_of_le hy3 (by decide)) (by omega)
  refine Ev.bind (Of_ev x (by omega)) (Ev.bind (Of_ev y (by omega)) (Ev.if_pos (by rw [S_size]; omega) ?_))
  rw [show (⟨#[48, 48]⟩ : ByteArray) ++ S (mkl x) = S (zs 2 ++ mkl x) from S_append [48, 48] (mkl x)]
  have e1 := Int_ev (zs 2 ++ mkl x) (sm_le (n := 20) (by rw [List.length_append, zs_length]; omega) (by omega)) ((dig_zs 2).append (dig_mkl x)) (by rw [nvl_zs_append, nvl_mkl]; exact Nat.lt_of_lt_of_le hx3 (by decide))
  rw [nvl_zs_append, nvl_mkl] at e1
  refine Ev.bind e1 (Ev.if_pos rfl (Ev.if_pos rfl ?_))
  have e2 := Bare_ev (mkl x) (by omega) (dig_mkl x)
  rw [nvl_mkl] at e2
  refine Ev.bind e2 (Ev.if_pos rfl (Ev.bind (Of_neg (-1) (by omega)) (Ev.if_pos (by rw [S_toList]) (Ev.bind (Of_neg 0 (by omega)) ?_))))
  rw [S_toList]
  refine Ev.step (fun k => (by rw [florinlaw01_NumSmall.j0, _root_.if_neg (by decide)])) ?_
  have em : wrap64 ((m : Int) + 1) = ((m + 1 : Nat) : Int) := inc64 (by omega)
  have e3 := Div_ev (mkl x) bx (dig_mkl x) (m + 1) (by omega) (by omega)
  rw [nvl_mkl] at e3
  rw [em]
  have two : ∀ (s : ByteArray) (is : Bool) (c0 : Int), (y ≤ x ∧ s = S (mkl (x - y)) ∧ is = true ∨ x < y ∧ s = S [] ∧ is = false) → (x < y ∧ c0 = -1 ∨ y ≤ x ∧ c0 = 0) →
      Ev (fun k => florinlaw01_NumSmall.j1 k (x : Int) (y : Int) (m : Int) (S (mkl x)) (S (mkl y)) s is (S (mkl (x / (m + 1)))) ((x % (m + 1) : Nat) : Int) c0) true := by
    intro s is c0 h hc
    refine Ev.step (fun k => (by rw [florinlaw01_NumSmall.j1])) ?_
    by_cases hgt : (x : Int) > (y : Int)
    · exact Ev.if_pos hgt (smalls_end x y m hx3 hy3 hm3 s is h 1 (by unfold cmpN; rw [_root_.if_neg (by omega), _root_.if_pos (by omega)]))
    · refine Ev.if_neg hgt (smalls_end x y m hx3 hy3 hm3 s is h c0 ?_)
      unfold cmpN
      rcases hc with ⟨h1, rfl⟩ | ⟨h1, rfl⟩
      · rw [_root_.if_pos h1]
      · rw [_root_.if_neg (by omega), _root_.if_neg (by omega)]
  rcases Nat.lt_or_ge x y with h | h
  · have e4 := Sub_less (mkl x) (mkl y) bx by' (dig_mkl _) (dig_mkl _) (by rw [nvl_mkl, nvl_mkl]; exact h)
    exact Ev.bind e4 (Ev.bind e3 (Ev.if_pos (by omega) (two _ _ _ (.inr ⟨h, rfl, rfl⟩) (.inl ⟨h, rfl⟩))))
  · have e4 := Sub_ev (mkl x) (mkl y) bx by' (dig_mkl _) (dig_mkl _) (by rw [nvl_mkl, nvl_mkl]; exact h)
    rw [nvl_mkl, nvl_mkl] at e4
    exact Ev.bind e4 (Ev.bind e3 (Ev.if_neg (by omega) (two _ _ _ (.inl ⟨h, rfl, rfl⟩) (.inr ⟨h, rfl⟩))))
end Go.Proofs.YtefacokhmmpiaaaDoor.P
