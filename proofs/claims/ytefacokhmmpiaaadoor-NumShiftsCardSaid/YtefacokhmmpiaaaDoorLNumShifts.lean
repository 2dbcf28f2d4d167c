import Derived.Test.YtefacokhmmpiaaaDoorS6
import Derived.Test.YtefacokhmmpiaaaDoorPx9
namespace Go.Proofs.YtefacokhmmpiaaaDoor.P
open Go.RowKit Go.Proofs.YtefacokhmmpiaaaDoorW.PrintWords Go.Proofs.YtefacokhmmpiaaaDoorW.PrintLast Go.Proofs.YtefacokhmmpiaaaDoorW.PrintMore Go.Proofs.YtefacokhmmpiaaaDoor.FM
set_option linter.unusedVariables false
set_option linter.unusedSimpArgs false

theorem pow_prefix (l : List UInt8) (hd : Dig l) (k : Nat) : nvl l / 10 ^ k = nvl (l.take (l.length - k)) ∧ nvl l % 10 ^ k = nvl (l.drop (l.length - k)) := by
  have h : nvl l = nvl (l.take (l.length - k)) * 10 ^ (l.drop (l.length - k)).length + nvl (l.drop (l.length - k)) := by
    conv => lhs; rw [← List.take_append_drop (l.length - k) l, nvl_append]
  have hlt := nvl_lt (hd.drop (l.length - k))
  rcases Nat.lt_or_ge l.length k with hk | hk
  · clear h hlt
    have e : l.length - k = 0 := by omega
    have h2 : nvl l < 10 ^ k := Nat.lt_of_lt_of_le (nvl_lt hd) (Nat.pow_le_pow_right (by omega) (Nat.le_of_lt hk))
    rw [e, List.drop_zero, List.take_zero, nvl_nil]
    exact ⟨Nat.div_eq_of_lt h2, Nat.mod_eq_of_lt h2⟩
  · have e : (l.drop (l.length - k)).length = k := by rw [List.length_drop]; omega
    rw [e] at h hlt
    rw [h, Nat.mul_comm, Nat.mul_add_div (Nat.pow_pos (by omega)), Nat.mul_add_mod, Nat.div_eq_of_lt hlt, Nat.mod_eq_of_lt hlt]
    exact ⟨rfl, rfl⟩
theorem shifts_end (a : List UInt8) (la' : a.length ≤ 200) (da : Dig a) (x : Nat) (hx : x < 8) : Ev (fun k => florinlaw01_NumShifts.l0 k (x : Int) (S a) ((10 ^ x : Nat) : Int) (x : Int)) true := by
  have la : Sm a := sm_le la' (by omega)
  have hp : 10 ^ x ≤ 1000000000 := Nat.le_trans (Nat.pow_le_pow_right (by omega) (show x ≤ 8 by omega)) (by decide)
  have hp1 : 1 ≤ 10 ^ x := Nat.pow_pos (by omega)
  have hpre := pow_prefix a da x
  obtain ⟨m, hm⟩ : ∃ m, 10 ^ x = m := ⟨_, rfl⟩
  have hA : nvl a < 10 ^ 200 := Nat.lt_of_lt_of_le (nvl_lt da) (Nat.pow_le_pow_right (by omega) la')
  have hcut : mx (wrap64 (((S a).size : Int) - (x : Int))) 0 = ((a.length - x : Nat) : Int) := by
    rw [S_size, w64 (by omega) (by omega)]; unfold mx; split <;> omega
  refine Ev.step (fun k => (by rw [florinlaw01_NumShifts.l0, _root_.if_neg (by omega)])) ?_
  rw [hcut, hm]
  rw [hm] at hp hp1 hpre
  refine Ev.bind (Div_ev a la da m hp1 hp) (Ev.if_pos (by omega) (Ev.if_pos (by rw [S_size]; omega) ?_))
  rw [Int.toNat_natCast, S_extract, S_extract, S_size, List.take_length, List.drop_zero]
  have hlt : nvl (a.drop (a.length - x)) < 10 ^ 18 := by
    have h1 := nvl_lt (da.drop (a.length - x))
    exact Nat.lt_of_lt_of_le h1 (Nat.pow_le_pow_right (by omega) (by rw [List.length_drop]; omega))
  refine Ev.bind (Int_ev _ (sm_le (n := 200) (by rw [List.length_drop]; omega) (by omega)) (da.drop _) hlt) ?_
  refine Ev.bind (Times_ev a la da m hp) (Ev.const (Zeros_ev (x : Int)) (Ev.if_pos (by rw [S_size, zs_length]; omega) ?_))
  rw [S_append, Int.toNat_natCast, Nat.min_eq_left (by omega)]
  refine Ev.bind (Bare_ev _ (by rw [List.length_append, zs_length]; omega) (da.append (dig_zs x))) (Ev.if_pos (by rw [nvl_append_zs, hm]) ?_)
  refine Ev.bind (Bare_ev _ (by rw [List.length_take]; omega) (da.take _)) (Ev.if_pos (by rw [hpre.1]) (Ev.if_pos rfl (Ev.yes ?_)))
  rw [hpre.2]; simp
theorem shifts_loop (a : List UInt8) (la' : a.length ≤ 200) (da : Dig a) (x : Nat) (hx : x < 8) (d : Nat) : ∀ i : Nat, i + d = x → Ev (fun k => florinlaw01_NumShifts.l0 k (x : Int) (S a) ((10 ^ i : Nat) : Int) (i : Int)) true := by
  induction d with
  | zero =>
    intro i hi
    obtain rfl : i = x := by omega
    exact shifts_end a la' da i hx
  | succ d ih =>
    intro i hi
    have hp : 10 ^ i ≤ 100000000 := Nat.le_trans (Nat.pow_le_pow_right (by omega) (show i ≤ 8 by omega)) (by decide)
    refine Ev.step (f := fun k => florinlaw01_NumShifts.l0 k (x : Int) (S a) ((10 ^ (i + 1) : Nat) : Int) ((i + 1 : Nat) : Int)) (fun k => ?_) (ih (i + 1) (by omega))
    rw [florinlaw01_NumShifts.l0, _root_.if_pos (by omega), inc64 (by omega), Nat.pow_succ]
    obtain ⟨m, hm⟩ : ∃ m, 10 ^ i = m := ⟨_, rfl⟩
    rw [hm] at hp ⊢
    have e : wrap64 ((m : Int) * 10) = ((m * 10 : Nat) : Int) := by rw [w64 (by omega) (by omega)]; omega
    rw [e]
theorem pureNumShifts : florinlaw01_NumShifts.Pure := by
  intro l0 a1 h1 h2 hw _
  refine Ev.rounds ?_
  unfold florinlaw01_NumShifts.f
  refine Ev.bind head01 (Ev.if_pos rfl ?_)
  by_cases hl : (l0.length : Int) > 200
  · exact Ev.if_pos hl (Ev.now _)
  refine Ev.if_neg hl (Ev.bind (Digits_ev l0 (by omega) hw) ?_)
  have da := digs_dig l0
  have la' : (digs l0).length ≤ 200 := by rw [digs_length]; omega
  obtain ⟨x, hx, hx2⟩ := low64 3 (by decide) a1 7 (by decide)
  rw [hx]
  exact shifts_loop (digs l0) la' da x hx2 x 0 (by omega)
end Go.Proofs.YtefacokhmmpiaaaDoor.P
