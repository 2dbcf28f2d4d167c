import Derived.Test.YtaifmgdhdnmjiaaDoorS4
import Derived.Test.YtaifmgdhdnmjiaaDoorPx6
namespace Go.Proofs.YtaifmgdhdnmjiaaDoor.P
open Go.RowKit Go.Proofs.YtaifmgdhdnmjiaaDoorW.PrintWords Go.Proofs.YtaifmgdhdnmjiaaDoorW.PrintLast Go.Proofs.YtaifmgdhdnmjiaaDoorW.PrintMore Go.Proofs.YtaifmgdhdnmjiaaDoor.FM
set_option linter.unusedVariables false
set_option linter.unusedSimpArgs false

theorem wf_u8 {x : Int} (h : (Lit.int .u8 x).wf = true) : 0 ≤ x ∧ x ≤ 255 := by
  simpa [Lit.wf, IntKind.min, IntKind.max, IntKind.signed, IntKind.bits] using h
theorem wf_i64 {x : Int} (h : (Lit.int .i64 x).wf = true) : -9223372036854775808 ≤ x ∧ x ≤ 9223372036854775807 := by
  simpa [Lit.wf, IntKind.min, IntKind.max, IntKind.signed, IntKind.bits] using h
/-- digits of any bytes -/
def digs (l : List Int) : List UInt8 := l.map fun x => UInt8.ofNat (48 + x.toNat % 10)
theorem digs_length (l : List Int) : (digs l).length = l.length := by simp [digs]
theorem digs_dig (l : List Int) : Dig (digs l) := by
  intro c hc
  obtain ⟨x, _, rfl⟩ := List.mem_map.1 hc
  rw [ofNat_toNat (by omega)]; omega
theorem Digits_loop (l : List Int) (hl : l.length ≤ 100000000000) (hw : ∀ x ∈ l, 0 ≤ x ∧ x ≤ 255) (d : Nat) : ∀ i : Nat, i + d = l.length → Ev (fun k => florinlaw01_Digits.l0 k (S (digs (l.take i))) l (l.length : Int) (i : Int)) (S (digs l)) := by
  induction d with
  | zero =>
    intro i hi
    refine Ev.step (f := fun k => some (S (digs l))) (fun k => ?_) (Ev.now _)
    rw [florinlaw01_Digits.l0, _root_.if_neg (by omega), List.take_of_length_le (by omega)]
  | succ d ih =>
    intro i hi
    have hlt : i < l.length := by omega
    have hx := hw l[i] (List.getElem_mem hlt)
    have hrd : rd l (i : Int) = l[i] := by
      unfold rd; rw [Int.toNat_natCast, List.getD_eq_getElem?_getD, List.getElem?_eq_getElem hlt]; rfl
    refine Ev.step (f := fun k => florinlaw01_Digits.l0 k (S (digs (l.take (i + 1)))) l (l.length : Int) ((i + 1 : Nat) : Int)) (fun k => ?_) (ih (i + 1) (by omega))
    obtain ⟨x, hxx⟩ : ∃ x : Nat, l[i] = x := ⟨l[i].toNat, by omega⟩
    have e1 : strOfNums [(48 + Int.tmod (l[i]) 10) % 256] = S [UInt8.ofNat (48 + (l[i]).toNat % 10)] := by
      rw [hxx, m10, byte10, Int.toNat_natCast, strOfNums_S]; rfl
    have e2 : S (digs (l.take i)) ++ S [UInt8.ofNat (48 + (l[i]).toNat % 10)] = S (digs (l.take (i + 1))) := by
      rw [S_append, List.take_succ_eq_append_getElem hlt]; simp only [digs, List.map_append, List.map_cons, List.map_nil]
    rw [florinlaw01_Digits.l0, _root_.if_pos (by omega), _root_.if_pos (by omega), _root_.if_pos (by omega), hrd]
    simp only [Option.bind_some]
    rw [e1, _root_.if_pos (by rw [S_size, S_size, digs_length, List.length_take]; simp; omega), e2, inc64 (by omega)]
theorem Digits_ev (l : List Int) (hl : l.length ≤ 100000000000) (hw : ∀ x ∈ l, (Lit.int .u8 x).wf = true) : Ev (fun k => florinlaw01_Digits.f k l) (S (digs l)) := by
  unfold florinlaw01_Digits.f
  exact Digits_loop l hl (fun x hx => wf_u8 (hw x hx)) l.length 0 (by omega)
/-- the digits of a number, by its text -/
theorem mkl_lit {n : Nat} (l : List UInt8) (h : nvl l = n) (hd : Dig l) (hb : Bare l) : mkl n = l := by rw [← h, mkl_nvl hd hb]
end Go.Proofs.YtaifmgdhdnmjiaaDoor.P
