import Derived.Test.YtlkiaeipbekpkaaDoorD3
namespace Go.Proofs.YtlkiaeipbekpkaaDoor.P
open Go.RowKit Go.Proofs.YtlkiaeipbekpkaaDoorW.PrintWords Go.Proofs.YtlkiaeipbekpkaaDoorW.PrintLast Go.Proofs.YtlkiaeipbekpkaaDoorW.PrintMore Go.Proofs.YtlkiaeipbekpkaaDoor.FM
set_option linter.unusedVariables false
set_option linter.unusedSimpArgs false

theorem hin_digs {s W R : List UInt8} (hW : W ≠ []) (dW : Dig W) (hs : ∀ x ∈ s, ¬ (48 ≤ x.toNat ∧ x.toNat ≤ 57)) : hin s (W ++ R) = false := by
  cases W with
  | nil => exact absurd rfl hW
  | cons c t =>
    rw [List.cons_append, hin_cons]
    exact decide_eq_false (fun h => hs c h (dW c List.mem_cons_self))
/-- the power as it is written -/
def pwL (pw up : Bool) (sg Z : List UInt8) : List UInt8 := if pw = true then (if up = true then 69 else 101) :: (sg ++ Z) else []
def wrL (neg : Bool) (W P : List UInt8) (pt : Bool) (PW : List UInt8) : List UInt8 := (if neg = true then [45] else []) ++ (W ++ ((if pt = true then 46 :: P else []) ++ PW))
theorem hin_pw (s : List UInt8) (pw up : Bool) (sg Z : List UInt8) (h1 : (69 : UInt8) ∉ s) (h2 : (101 : UInt8) ∉ s) : hin s (pwL pw up sg Z) = false := by
  unfold pwL
  cases pw with
  | false => rfl
  | true =>
    rw [_root_.if_pos rfl, hin_cons]
    cases up with
    | true => exact decide_eq_false h1
    | false => exact decide_eq_false h2
theorem parses_parts (neg pt pw up : Bool) (W P sg Z : List UInt8) (dW : Dig W) (dP : Dig P) (dZ : Dig Z) (hW : W ≠ []) (hsg : sg = [] ∨ sg = [43] ∨ sg = [45]) (hZ : Z ≠ []) :
    hin [45] (wrL neg W P pt (pwL pw up sg Z)) = neg ∧ qW (wrL neg W P pt (pwL pw up sg Z)) = W ∧ hin [46] (qr1 (wrL neg W P pt (pwL pw up sg Z))) = pt ∧ qP (wrL neg W P pt (pwL pw up sg Z)) = (if pt = true then P else []) ∧
    exX (qr2 (wrL neg W P pt (pwL pw up sg Z))) = pw ∧ exD (qr2 (wrL neg W P pt (pwL pw up sg Z))) = (if pw = true then Z else []) ∧ exR (qr2 (wrL neg W P pt (pwL pw up sg Z))) = [] ∧
    exN (qr2 (wrL neg W P pt (pwL pw up sg Z))) = (pw && decide (sg = [45])) := by
  have n45 : ∀ R, hin [45] (W ++ R) = false := fun R => hin_digs hW dW (by decide)
  have e1 : hin [45] (wrL neg W P pt (pwL pw up sg Z)) = neg := by
    unfold wrL
    cases neg with
    | true => rfl
    | false => exact n45 _
  have e2 : qr0 (wrL neg W P pt (pwL pw up sg Z)) = W ++ ((if pt = true then 46 :: P else []) ++ pwL pw up sg Z) := by
    unfold qr0
    rw [e1]
    unfold wrL
    cases neg with
    | true => rfl
    | false => rfl
  have hR : hin [48, 49, 50, 51, 52, 53, 54, 55, 56, 57] ((if pt = true then 46 :: P else []) ++ pwL pw up sg Z) = false := by
    cases pt with
    | true => rfl
    | false => exact hin_pw _ pw up sg Z (by decide) (by decide)
  have e3 := dg_append dW hR
  have e4 : qW (wrL neg W P pt (pwL pw up sg Z)) = W := by unfold qW; rw [e2]; exact e3.1
  have e5 : qr1 (wrL neg W P pt (pwL pw up sg Z)) = (if pt = true then 46 :: P else []) ++ pwL pw up sg Z := by unfold qr1; rw [e2]; exact e3.2
  have e6 : hin [46] (qr1 (wrL neg W P pt (pwL pw up sg Z))) = pt := by
    rw [e5]
    cases pt with
    | true => rfl
    | false => exact hin_pw _ pw up sg Z (by decide) (by decide)
  have hpw := hin_pw [48, 49, 50, 51, 52, 53, 54, 55, 56, 57] pw up sg Z (by decide) (by decide)
  have e7 : qP (wrL neg W P pt (pwL pw up sg Z)) = (if pt = true then P else []) ∧ qr2 (wrL neg W P pt (pwL pw up sg Z)) = pwL pw up sg Z := by
    unfold qP qr2
    rw [e6, e5]
    cases pt with
    | true =>
      rw [_root_.if_pos rfl, _root_.if_pos rfl, _root_.if_pos rfl, List.cons_append, List.tail_cons]
      exact dg_append dP hpw
    | false => exact ⟨rfl, rfl⟩
  have e8 : exX (pwL pw up sg Z) = pw := by
    unfold exX pwL
    cases pw with
    | false => rfl
    | true => cases up <;> rfl
  have n45z : hin [43, 45] Z = false := by
    have := hin_digs (s := [43, 45]) (R := []) hZ dZ (by decide)
    rwa [List.append_nil] at this
  have e9 : exS (sg ++ Z) = Z := by
    unfold exS
    rcases hsg with rfl | rfl | rfl
    · rw [List.nil_append, n45z, _root_.if_neg (by decide)]
    · rfl
    · rfl
  have ez : dg Z = Z ∧ dr Z = [] := by
    have := dg_append (rest := []) dZ rfl
    rwa [List.append_nil] at this
  refine ⟨e1, e4, e6, e7.1, ?_, ?_, ?_, ?_⟩
  · rw [e7.2]; exact e8
  · rw [e7.2]
    unfold exD
    rw [e8]
    cases pw with
    | false => rfl
    | true =>
      rw [_root_.if_pos rfl, _root_.if_pos rfl]
      unfold pwL
      rw [_root_.if_pos rfl, List.tail_cons, e9]
      exact ez.1
  · rw [e7.2]
    unfold exR
    rw [e8]
    cases pw with
    | false => rfl
    | true =>
      rw [_root_.if_pos rfl]
      unfold pwL
      rw [_root_.if_pos rfl, List.tail_cons, e9]
      exact ez.2
  · rw [e7.2]
    unfold exN
    rw [e8]
    cases pw with
    | false => rfl
    | true =>
      rw [Bool.true_and, Bool.true_and]
      unfold pwL
      rw [_root_.if_pos rfl, List.tail_cons]
      rcases hsg with rfl | rfl | rfl
      · have := hin_digs (s := [45]) (R := []) hZ dZ (by decide)
        rw [List.append_nil] at this
        rw [List.nil_append, this]; rfl
      · rfl
      · rfl
end Go.Proofs.YtlkiaeipbekpkaaDoor.P
