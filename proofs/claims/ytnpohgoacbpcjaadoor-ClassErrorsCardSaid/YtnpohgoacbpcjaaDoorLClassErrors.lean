import Derived.Test.YtnpohgoacbpcjaaDoorOC
import Derived.Test.YtnpohgoacbpcjaaDoorPx6
import Derived.Test.YtnpohgoacbpcjaaDoorPx8
namespace Go.Proofs.YtnpohgoacbpcjaaDoor.P
open Go.RowKit Go.Proofs.YtnpohgoacbpcjaaDoorW.PrintWords Go.Proofs.YtnpohgoacbpcjaaDoorW.PrintLast Go.Proofs.YtnpohgoacbpcjaaDoorW.PrintMore Go.Proofs.YtnpohgoacbpcjaaDoor.FM
set_option linter.unusedVariables false
set_option linter.unusedSimpArgs false

abbrev Tst := S23
def tests : List (List UInt8 × Nat) := [([], 0), ([97], 0), ([91], 1), ([91, 97], 2), ([91, 93, 93], 2), ([91, 93, 32, 97], 3), ([91, 98, 45, 97, 93], 3), ([91, 45, 97, 93], 1), ([91, 97, 45, 93], 3), ([91, 97, 94, 93], 2), ([91, 91, 93], 1), ([91, 92, 120, 93], 1), ([91, 92, 117, 123, 125, 93], 1), ([91, 92, 117, 123, 49, 49, 48, 48, 48, 48, 125, 93], 1), ([91, 92, 117, 123, 49, 50, 51, 52, 53, 54, 55, 125, 93], 1), ([91, 92, 117, 123, 65, 125, 93], 1), ([91, 92, 117, 123, 54, 49, 93], 1), ([91, 255, 93], 1), ([91, 97, 32, 45, 32, 98, 32, 45, 32, 99, 93], 7), ([91, 98, 32, 45, 32, 97, 93], 5), ([91, 94, 94, 93], 2), ([91, 92], 1)]
def testR (x : List UInt8 × Nat) : Tst := ⟨S x.1, (x.2 : Int)⟩
theorem sk_rep' : ∀ (n : Nat) (t : List UInt8), sk (List.replicate n 32 ++ t) = sk t
  | 0, t => rfl
  | n + 1, t => by rw [List.replicate_succ, List.cons_append, sk_cons_32, sk_rep' n t]
theorem tk_rep' (c : UInt8) (n : Nat) (t : List UInt8) : tk c (List.replicate n 32 ++ t) = tk c t := by unfold tk; rw [sk_rep']
theorem parse_rep (n : Nat) (t e : List UInt8) (h : parse t = .error e) : parse (List.replicate n 32 ++ t) = .error e := by
  have h1 : tk 91 (List.replicate n 32 ++ t) = tk 91 t := tk_rep' 91 n t
  have h2 : sk (List.replicate n 32 ++ t) = sk t := sk_rep' n t
  unfold parse at h ⊢
  rw [h1, h2]
  exact h
theorem tests_ok : tests.all (fun x => match parse x.1 with | .error e => e.length + x.2 == x.1.length | .ok _ => false) = true := by decide +kernel
theorem tests_len : tests.all (fun x => decide (x.1.length ≤ 20)) = true := by decide +kernel
theorem errors_end (a0 a1 : Int) (n : Nat) (hn : n ≤ 7) (i : Int) (hi : ¬ i < Go.bits .and .i64 a1 7) : Ev (fun k => florinlaw10_ClassErrors.l0 k a0 a1 (S (List.replicate n 32)) i) true := by
  obtain ⟨j, hj, hj2⟩ : ∃ j : Nat, wrap64 (Int.tmod (IntKind.u64.wrap a0) (IntKind.u64.wrap ((tests.map testR).length : Int))) = (j : Int) ∧ j < 22 := by
    have e : IntKind.u64.wrap ((tests.map testR).length : Int) = 22 := by rfl
    have h0 : 0 ≤ IntKind.u64.wrap a0 := by rw [IntKind.wrap_u64]; omega
    rw [e]
    have h1 := Int.tmod_lt_of_pos (IntKind.u64.wrap a0) (show (0 : Int) < 22 by decide)
    have h2 := Int.tmod_nonneg 22 h0
    exact ⟨(Int.tmod (IntKind.u64.wrap a0) 22).toNat, by rw [w64 (by omega) (by omega)]; omega, by omega⟩
  have hm : j < tests.length := hj2
  have h1 := List.all_eq_true.1 tests_ok tests[j] (List.getElem_mem hm)
  have h2 := of_decide_eq_true (List.all_eq_true.1 tests_len tests[j] (List.getElem_mem hm))
  have hrd : rd_T23 (tests.map testR) (j : Int) = testR tests[j] := by
    unfold rd_T23
    rw [Int.toNat_natCast, List.getD_eq_getElem?_getD, List.getElem?_map, List.getElem?_eq_getElem hm]; rfl
  obtain ⟨⟨s, at'⟩, hx⟩ : ∃ x, tests[j] = x := ⟨_, rfl⟩
  rw [hx] at h1 h2 hrd
  dsimp only at h1 h2
  cases hp : parse s with
  | ok q => rw [hp] at h1; cases h1
  | error e =>
    rw [hp] at h1
    have h1 : e.length + at' = s.length := by simpa using h1
    obtain ⟨h3, _⟩ := Parse_ev (List.replicate n 32 ++ s) (by rw [List.length_append, List.length_replicate]; omega)
    obtain ⟨_, h4⟩ := h3 e (parse_rep n s e hp)
    refine Ev.step (f := fun k => (class_Parse.f k (S (List.replicate n 32 ++ s))).bind fun bt => (if (bt.1.length : Int) = 0 then (if bt.2.1 = 1 then (some (bt.2.2 == (wrap64 (((S (List.replicate n 32)).size : Int) + (at' : Int))))) else (none)) else (none))) (fun k => ?_) (Ev.bind h4 (Ev.if_pos rfl (Ev.if_pos rfl (Ev.yes ?_))))
    · rw [florinlaw10_ClassErrors.l0, _root_.if_neg hi, Option.bind_some]
      have e1 : ¬ IntKind.u64.wrap ((tests.map testR).length : Int) = 0 := by decide
      have e2 : (j : Int) < ((tests.map testR).length : Int) := by show (j : Int) < 22; omega
      rw [show ([(⟨(⟨#[]⟩ : ByteArray), 0⟩ : Tst), (⟨(⟨#[97]⟩ : ByteArray), 0⟩ : Tst), (⟨(⟨#[91]⟩ : ByteArray), 1⟩ : Tst), (⟨(⟨#[91, 97]⟩ : ByteArray), 2⟩ : Tst), (⟨(⟨#[91, 93, 93]⟩ : ByteArray), 2⟩ : Tst), (⟨(⟨#[91, 93, 32, 97]⟩ : ByteArray), 3⟩ : Tst), (⟨(⟨#[91, 98, 45, 97, 93]⟩ : ByteArray), 3⟩ : Tst), (⟨(⟨#[91, 45, 97, 93]⟩ : ByteArray), 1⟩ : Tst), (⟨(⟨#[91, 97, 45, 93]⟩ : ByteArray), 3⟩ : Tst), (⟨(⟨#[91, 97, 94, 93]⟩ : ByteArray), 2⟩ : Tst), (⟨(⟨#[91, 91, 93]⟩ : ByteArray), 1⟩ : Tst), (⟨(⟨#[91, 92, 120, 93]⟩ : ByteArray), 1⟩ : Tst), (⟨(⟨#[91, 92, 117, 123, 125, 93]⟩ : ByteArray), 1⟩ : Tst), (⟨(⟨#[91, 92, 117, 123, 49, 49, 48, 48, 48, 48, 125, 93]⟩ : ByteArray), 1⟩ : Tst), (⟨(⟨#[91, 92, 117, 123, 49, 50, 51, 52, 53, 54, 55, 125, 93]⟩ : ByteArray), 1⟩ : Tst), (⟨(⟨#[91, 92, 117, 123, 65, 125, 93]⟩ : ByteArray), 1⟩ : Tst), (⟨(⟨#[91, 92, 117, 123, 54, 49, 93]⟩ : ByteArray), 1⟩ : Tst), (⟨(⟨#[91, 255, 93]⟩ : ByteArray), 1⟩ : Tst), (⟨(⟨#[91, 97, 32, 45, 32, 98, 32, 45, 32, 99, 93]⟩ : ByteArray), 7⟩ : Tst), (⟨(⟨#[91, 98, 32, 45, 32, 97, 93]⟩ : ByteArray), 5⟩ : Tst), (⟨(⟨#[91, 94, 94, 93]⟩ : ByteArray), 2⟩ : Tst), (⟨(⟨#[91, 92]⟩ : ByteArray), 1⟩ : Tst)] : List Tst) = tests.map testR from rfl]
      rw [_root_.if_neg e1, hj, hrd, _root_.if_pos (by omega), _root_.if_pos e2, _root_.if_pos (by show (S (List.replicate n 32)).size + (S s).size ≤ _; rw [S_size, S_size, List.length_replicate]; omega)]
      show (class_Parse.f k (S (List.replicate n 32) ++ S s)).bind _ = _
      rw [S_append]; rfl
    · dsimp only
      rw [S_size, List.length_replicate, w64 (by omega) (by omega)]
      unfold pos
      rw [List.length_append, List.length_replicate, beq_iff_eq]
      omega
theorem errors_l0 (a0 a1 : Int) (b : Nat) (hb : Go.bits .and .i64 a1 7 = (b : Int)) (hb7 : b ≤ 7) (d : Nat) : ∀ n : Nat, n + d = b → Ev (fun k => florinlaw10_ClassErrors.l0 k a0 a1 (S (List.replicate n 32)) (n : Int)) true := by
  induction d with
  | zero => intro n hn; exact errors_end a0 a1 n (by omega) _ (by rw [hb]; omega)
  | succ d ih =>
    intro n hn
    refine Ev.step (fun k => ?_) (ih (n + 1) (by omega))
    rw [florinlaw10_ClassErrors.l0, hb, _root_.if_pos (by omega), _root_.if_pos (by rw [S_size, List.length_replicate]; omega), show (⟨#[32]⟩ : ByteArray) = S [32] from rfl, S_append, inc64' (by omega), List.replicate_succ']
theorem pureClassErrors (a0 a1 : Int) (w0 : (Lit.int .i64 a0).wf = true) (w1 : (Lit.int .i64 a1).wf = true) : ∃ k, florinlaw10_ClassErrors.f k a0 a1 = some true := by
  refine Ev.rounds ?_
  obtain ⟨b, h1, h2⟩ := low64 3 (by omega) a1 7 (by decide)
  unfold florinlaw10_ClassErrors.f
  exact Ev.bind head10 (Ev.if_pos rfl (errors_l0 a0 a1 b h1 (by omega) b 0 (by omega)))
end Go.Proofs.YtnpohgoacbpcjaaDoor.P
