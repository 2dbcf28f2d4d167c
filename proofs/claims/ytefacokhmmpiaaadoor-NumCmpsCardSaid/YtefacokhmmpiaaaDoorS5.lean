import Derived.Test.YtefacokhmmpiaaaDoorS4
import Derived.Test.YtefacokhmmpiaaaDoorPx2
namespace Go.Proofs.YtefacokhmmpiaaaDoor.P
open Go.RowKit Go.Proofs.YtefacokhmmpiaaaDoorW.PrintWords Go.Proofs.YtefacokhmmpiaaaDoorW.PrintLast Go.Proofs.YtefacokhmmpiaaaDoorW.PrintMore Go.Proofs.YtefacokhmmpiaaaDoor.FM
set_option linter.unusedVariables false
set_option linter.unusedSimpArgs false

theorem wf_u8 {x : Int} (h : (Lit.int .u8 x).wf = true) : 0 ≤ x ∧ x ≤ 255 := by
  simpa [Lit.wf, IntKind.min, IntKind.max, IntKind.signed, IntKind.bits] using h
theorem wf_i64 {x : Int} (h : (Lit.int .i64 x).wf = true) : -9223372036854775808 ≤ x ∧ x ≤ 9223372036854775807 := by
  simpa [Lit.wf, IntKind.min, IntKind.max, IntKind.signed, IntKind.bits] using h
/-- digits of any bytes -/
def digs (l : List Int) : List UInt8 := l.map fun x => UInt8.ofNat (48 + x.toNat % 10)
theorem digs_length (l : List Int) : (digs l).length = l.length := by simp [digs]
theorem digs_dig (l : List Int) : Dig (digs l) := by
  intro c hc
  obtain ⟨x, _, rfl⟩ := List.mem_map.1 hc
  rw [ofNat_toNat (by omega)]; omega
theorem Digits_loop (l : List Int) (hl : l.length ≤ 100000000000) (hw : ∀ x ∈ l, 0 ≤ x ∧ x ≤ 255) (d : Nat) : ∀ i : Nat, i + d = l.length → Ev (fun k => florinlaw01_Digits.l0 k (S (digs (l.take i))) l (l.length : Int) (i : Int)) (S (digs l)) := by
  induction d with
  | zero =>
    intro i hi
    refine Ev.step (f := fun k => some (S (digs l))) (fun k => ?_) (Ev.now _)
    rw [florinlaw01_Digits.l0, _root_.if_neg (by omega), List.take_of_length_le (by omega)]
  | succ d ih =>
    intro i hi
    have hlt : i < l.length := by omega
    have hx := hw l[i] (List.getElem_mem hlt)
    have hrd : rd l (i : Int) = l[i] := by
      unfold rd; rw [Int.toNat_natCast, List.getD_eq_getElem?_getD, List.getElem?_eq_getElem hlt]; rfl
    refine Ev.step (f := fun k => florinlaw01_Digits.l0 k (S (digs (l.take (i + 1)))) l (l.length : Int) ((i + 1 : Nat) : Int)) (fun k => ?_) (ih (i + 1) (by omega))
    obtain ⟨x, hxx⟩ : ∃ x : Nat, l[i] = x := ⟨l[i].toNat, by omega⟩
    have e1 : strOfNums [(48 + Int.tmod (l[i]) 10) % 256] = S [UInt8.ofNat (48 + (l[i]).toNat % 10)] := by
      rw [hxx, m10, byte10, Int.toNat_natCast, strOfNums_S]; rfl
    have e2 : S (digs (l.take i)) ++ S [UInt8.ofNat (48 + (l[i]).toNat % 10)] = S (digs (l.take (i + 1))) := by
      rw [S_append, List.take_succ_eq_append_getElem hlt]; simp only [digs, List.map_append, List.map_cons, List.map_nil]
    rw [florinlaw01_Digits.l0, _root_.if_pos (by omega), _root_.if_pos (by omega), _root_.if_pos (by omega), hrd]
    simp only [Option.bind_some]
    rw [e1, _root_.if_pos (by rw [S_size, S_size, digs_length, List.length_take]; simp; omega), e2, inc64 (by omega)]
theorem Digits_ev (l : List Int) (hl : l.length ≤ 100000000000) (hw : ∀ x ∈ l, (Lit.int .u8 x).wf = true) : Ev (fun k => florinlaw01_Digits.f k l) (S (digs l)) := by
  unfold florinlaw01_Digits.f
  exact Digits_loop l hl (fun x hx => wf_u8 (hw x hx)) l.length 0 (by omega)
theorem Bare_loop (n : Nat) : ∀ l : List UInt8, l.length ≤ n → l.length ≤ 1000000000000 → Ev (fun k => florinlaw01_bare.l0 k (S l)) (S (bare l)) := by
  induction n with
  | zero =>
    intro l hl _
    obtain rfl := List.eq_nil_of_length_eq_zero (by omega : l.length = 0)
    refine Ev.step (f := fun k => some (S [])) (fun k => ?_) (Ev.now _)
    rw [florinlaw01_bare.l0, _root_.if_neg (by rw [S_size]; simp)]
  | succ n ih =>
    intro l hl hs
    cases l with
    | nil =>
      refine Ev.step (f := fun k => some (S [])) (fun k => ?_) (Ev.now _)
      rw [florinlaw01_bare.l0, _root_.if_neg (by rw [S_size]; simp)]
    | cons c l =>
      have hsz : (S (c :: l)).size = l.length + 1 := rfl
      have hb : bt (S (c :: l)) 0 = (c.toNat : Int) := by rw [bt_S]; rfl
      have hc : ((c.toNat : Int) = 48) ↔ c = 48 := by
        constructor
        · intro h; exact UInt8.toNat_inj.1 (by rw [show (48 : UInt8).toNat = 48 from rfl]; omega)
        · rintro rfl; rfl
      by_cases h : c = 48
      · refine Ev.step (f := fun k => florinlaw01_bare.l0 k (S l)) (fun k => ?_) ?_
        · rw [florinlaw01_bare.l0, hsz, _root_.if_pos (by omega), _root_.if_pos (by omega), hb, _root_.if_pos (hc.2 h), _root_.if_pos (by omega), S_extract]
          simp
        · have := ih l (by simp at hl; omega) (by simp at hs; omega)
          rw [show bare (c :: l) = bare l by unfold bare; rw [List.dropWhile_cons]; simp [h]]
          exact this
      · refine Ev.step (f := fun k => some (S (c :: l))) (fun k => ?_) ?_
        · rw [florinlaw01_bare.l0, hsz, _root_.if_pos (by omega), _root_.if_pos (by omega), hb, _root_.if_neg (fun hh => h (hc.1 hh))]
        · rw [show bare (c :: l) = c :: l by unfold bare; rw [List.dropWhile_cons]; simp [h]]
          exact Ev.now _
theorem Bare_any (l : List UInt8) (hl : l.length ≤ 1000000000000) : Ev (fun k => florinlaw01_bare.f k (S l)) (S (bare l)) := Bare_loop l.length l (Nat.le_refl _) hl
theorem Bare_ev (l : List UInt8) (hl : l.length ≤ 1000000000000) (hd : Dig l) : Ev (fun k => florinlaw01_bare.f k (S l)) (S (mkl (nvl l))) := by
  rw [← bare_eq hd]; exact Bare_any l hl
/-- the digits of a number, by its text -/
theorem mkl_lit {n : Nat} (l : List UInt8) (h : nvl l = n) (hd : Dig l) (hb : Bare l) : mkl n = l := by rw [← h, mkl_nvl hd hb]
theorem head01 : Ev (fun k => florinlaw01_head.f k) true := by
  unfold florinlaw01_head.f
  have h1 : Ev (fun k => num_Div.f k (⟨#[49, 48, 48, 48]⟩ : ByteArray) 7) (S [49, 52, 50], 6) := by
    have := Div_ev [49, 48, 48, 48] (by decide) (by decide) 7 (by decide) (by decide)
    rw [mkl_lit [49, 52, 50] (by decide) (by decide) (by unfold Bare; decide)] at this
    exact this
  have h2 : Ev (fun k => num_Add.f k (⟨#[57, 57]⟩ : ByteArray) (⟨#[49]⟩ : ByteArray)) (S [49, 48, 48]) := by
    have := Add_ev [57, 57] [49] (by decide) (by decide) (by decide) (by decide)
    rw [mkl_lit [49, 48, 48] (by decide) (by decide) (by unfold Bare; decide)] at this
    exact this
  refine Ev.bind h1 (Ev.if_pos (by rw [S_toList]) (Ev.if_pos rfl (Ev.bind h2 (Ev.if_pos (by rw [S_toList]) ?_))))
  refine Ev.bind (Is_ev [48, 57] (by decide)) (Ev.if_pos (by decide) ?_)
  refine Ev.bind (Is_ev [97] (by decide)) ?_
  rw [decide_eq_false (by decide)]
  exact Ev.now _
end Go.Proofs.YtefacokhmmpiaaaDoor.P
