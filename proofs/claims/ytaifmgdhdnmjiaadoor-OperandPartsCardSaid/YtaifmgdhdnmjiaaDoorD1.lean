import Derived.Test.YtaifmgdhdnmjiaaDoorSA
import Derived.Test.YtaifmgdhdnmjiaaDoorMA
import Derived.Test.YtaifmgdhdnmjiaaDoorPx12
namespace Go.Proofs.YtaifmgdhdnmjiaaDoor.P
open Go.RowKit Go.Proofs.YtaifmgdhdnmjiaaDoorW.PrintWords Go.Proofs.YtaifmgdhdnmjiaaDoorW.PrintLast Go.Proofs.YtaifmgdhdnmjiaaDoorW.PrintMore Go.Proofs.YtaifmgdhdnmjiaaDoor.FM
set_option linter.unusedVariables false
set_option linter.unusedSimpArgs false

/-- a decimal as the program holds it -/
def tri (d : D) : Bool × ByteArray × Int := (d.neg, S (mkl d.m), d.e)
theorem tri_D0 : tri D0 = (false, S [], 0) := by unfold tri D0; rw [mkl_zero]
theorem tri_inj {a b : D} : tri a = tri b ↔ a = b := by
  refine ⟨fun h => ?_, fun h => by rw [h]⟩
  obtain ⟨n1, m1, e1⟩ := a
  obtain ⟨n2, m2, e2⟩ := b
  unfold tri at h
  simp only [Prod.mk.injEq, S_inj, mkl_inj] at h
  obtain ⟨rfl, rfl, rfl⟩ := h
  rfl
theorem held_ev (e : Int) : dec_held.f e = some (held e) := by
  unfold dec_held.f held mn mx
  congr 1
  repeat' split
  all_goals omega
theorem Made_ev (neg : Bool) (l : List UInt8) (hl : l.length ≤ 1000000000000) (hd : Dig l) (e : Int) : Ev (fun k => dec_Made.f k neg (S l) e) (tri (nrm neg (nvl l) e)) := by
  unfold dec_Made.f
  refine Ev.bind (Trim_dig l hl hd) ?_
  obtain ⟨n, hn⟩ : ∃ n, nvl l = n := ⟨_, rfl⟩
  have hlen : (mkl n).length ≤ l.length := by rw [← hn]; exact mkl_length_le.2 (nvl_lt hd)
  rw [hn, S_toList]
  by_cases h0 : n = 0
  · refine Ev.if_pos (mkl_eq_nil.2 h0) ?_
    unfold nrm
    rw [_root_.if_pos h0, tri_D0]
    exact Ev.now _
  · refine Ev.if_neg (fun h => h0 (mkl_eq_nil.1 h)) ?_
    refine Ev.const (TrimRight_zero (mkl n) (by omega)) ?_
    refine Ev.const (held_ev e) ?_
    have hp : 0 < n := by omega
    have hl2 := mkl_len_st hp
    have hr := held_range e
    rw [tr_mkl]
    have hw : wrap64 (wrap64 (held e + ((S (mkl n)).size : Int)) - ((S (mkl (st n).1)).size : Int)) = held e + ((st n).2 : Int) := by
      rw [S_size, S_size, w64 (x := held e + ((mkl n).length : Int)) (by omega) (by omega), w64 (by omega) (by omega)]
      omega
    rw [hw]
    refine Ev.const (held_ev _) ?_
    unfold nrm
    rw [_root_.if_neg h0]
    exact Ev.now _
theorem Made_not (neg : Bool) (l : List UInt8) (hl : l.length ≤ 1000000000000) (hd : ¬ Dig l) (e : Int) : Ev (fun k => dec_Made.f k neg (S l) e) (tri D0) := by
  unfold dec_Made.f
  refine Ev.bind (Trim_not l hl hd) (Ev.if_pos (by rw [S_toList]) ?_)
  rw [tri_D0]
  exact Ev.now _
theorem Norm_ev (neg : Bool) (l : List UInt8) (hl : l.length ≤ 1000000000000) (hd : Dig l) (e : Int) : Ev (fun k => dec_Dec_Norm.f k neg (S l) e) (tri (nrm neg (nvl l) e)) := by
  unfold dec_Dec_Norm.f
  exact Ev.bind (Made_ev neg l hl hd e) (Ev.now _)
/-! the decimals that the program holds: their digits are few enough -/
/-- as many digits as a decimal may have here -/
def Few (d : D) : Prop := (mkl d.m).length ≤ 100000000 ∧ -30000 ≤ d.e ∧ d.e ≤ 30000
theorem few_nrm {neg : Bool} {n : Nat} {e : Int} (h : (mkl n).length ≤ 100000000) : Few (nrm neg n e) := by
  have := nrm_e_range neg n e
  refine ⟨?_, this.1, this.2⟩
  rw [nrm_m]
  exact Nat.le_trans (mkl_length_mono (st_le n)) h
theorem few_dig {neg : Bool} {l : List UInt8} {e : Int} (h : l.length ≤ 100000000) (hd : Dig l) : Few (nrm neg (nvl l) e) :=
  few_nrm (Nat.le_trans (mkl_length_le.2 (nvl_lt hd)) h)
theorem tri1 (d : D) : (tri d).1 = d.neg := rfl
theorem tri2 (d : D) : (tri d).2.1 = S (mkl d.m) := rfl
theorem tri3 (d : D) : (tri d).2.2 = d.e := rfl
theorem Made_tri (neg : Bool) (m : Nat) (hl : (mkl m).length ≤ 1000000000000) (e : Int) : Ev (fun k => dec_Made.f k neg (S (mkl m)) e) (tri (nrm neg m e)) := by
  have h := Made_ev neg (mkl m) hl (dig_mkl _) e
  rwa [nvl_mkl] at h
theorem Norm_tri (d : D) (h : Few d) : Ev (fun k => dec_Dec_Norm.f k (tri d).1 (tri d).2.1 (tri d).2.2) (tri (nrm d.neg d.m d.e)) := by
  have hh := Norm_ev d.neg (mkl d.m) (by have := h.1; omega) (dig_mkl _) d.e
  rwa [nvl_mkl] at hh
theorem Abs_ev (neg : Bool) (l : List UInt8) (hl : l.length ≤ 1000000000000) (hd : Dig l) (e : Int) : Ev (fun k => dec_Dec_Abs.f k neg (S l) e) (tri (nrm false (nvl l) e)) := by
  unfold dec_Dec_Abs.f
  exact Ev.bind (Made_ev false l hl hd e) (Ev.now _)
theorem Abs_tri (d : D) (h : Few d) : Ev (fun k => dec_Dec_Abs.f k (tri d).1 (tri d).2.1 (tri d).2.2) (tri (nrm false d.m d.e)) := by
  have hh := Abs_ev d.neg (mkl d.m) (by have := h.1; omega) (dig_mkl _) d.e
  rwa [nvl_mkl] at hh
/-- times a power of ten -/
def scl (d : D) (k : Int) : D := nrm d.neg d.m (d.e + held k)
theorem Scale_ev (neg : Bool) (l : List UInt8) (hl : l.length ≤ 100000000) (hd : Dig l) (e k : Int) : Ev (fun r => dec_Dec_Scale.f r neg (S l) e k) (tri (scl (nrm neg (nvl l) e) k)) := by
  unfold dec_Dec_Scale.f
  obtain ⟨h1, h2, h3⟩ := few_dig (neg := neg) (e := e) hl hd
  have h4 := held_range k
  refine Ev.bind (Norm_ev neg l (by omega) hd e) (Ev.const (held_ev k) ?_)
  unfold scl
  rw [tri1, tri2, tri3, w64 (by omega) (by omega)]
  exact Ev.bind (Made_tri _ _ (by omega) _) (Ev.now _)
theorem Scale_tri (d : D) (h : Few d) (k : Int) : Ev (fun r => dec_Dec_Scale.f r (tri d).1 (tri d).2.1 (tri d).2.2 k) (tri (scl (nrm d.neg d.m d.e) k)) := by
  have hh := Scale_ev d.neg (mkl d.m) h.1 (dig_mkl _) d.e k
  rwa [nvl_mkl] at hh
end Go.Proofs.YtaifmgdhdnmjiaaDoor.P
