import Derived.Test.YtoegmienlhgjnaaDoorSA
namespace Go.Proofs.YtoegmienlhgjnaaDoor.P
open Go.RowKit Go.Proofs.YtoegmienlhgjnaaDoorW.PrintWords Go.Proofs.YtoegmienlhgjnaaDoorW.PrintLast Go.Proofs.YtoegmienlhgjnaaDoorW.PrintMore Go.Proofs.YtoegmienlhgjnaaDoor.FM
set_option linter.unusedVariables false
set_option linter.unusedSimpArgs false

theorem indexByte_mem (l : List UInt8) (c : UInt8) : (Lib.indexByte l c ≥ 0) ↔ c ∈ l := by
  induction l with
  | nil => simp [Lib.indexByte]
  | cons b l ih =>
    unfold Lib.indexByte
    have h := Lib.indexByte_ge l c
    by_cases h1 : b = c
    · subst h1; simp
    · rw [_root_.if_neg (by simpa using h1)]
      by_cases h2 : Lib.indexByte l c = -1
      · rw [_root_.if_pos (by simpa using h2)]
        have h3 : ¬ c ∈ l := fun hc => by have := ih.2 hc; omega
        simp [h3, Ne.symm h1]
      · rw [_root_.if_neg (by simpa using h2)]
        have h3 : c ∈ l := ih.1 (by omega)
        simp [h3]; omega
theorem toUInt8_toNat (c : UInt8) : ((c.toNat : Int)).toNat.toUInt8 = c := by
  rw [Int.toNat_natCast]; simp

theorem S_drop (l : List UInt8) (n : Nat) : (S l).extract n (S l).size = S (l.drop n) := by rw [S_extract, S_size, List.take_length]
theorem dropWhile_none {p : UInt8 → Bool} : ∀ l : List UInt8, (∀ c ∈ l, p c = true) → l.dropWhile p = []
  | [], _ => rfl
  | c :: l, h => by
    rw [List.dropWhile_cons_of_pos (h c List.mem_cons_self)]
    exact dropWhile_none l (fun d hd => h d (List.mem_cons_of_mem _ hd))
/-- a text parted at the first one of some bytes -/
def cutL (l some' : List UInt8) : List UInt8 × List UInt8 × Bool :=
  match l.dropWhile (fun c => ¬ c ∈ some') with
  | [] => (l, [], false)
  | _ :: t => (l.takeWhile (fun c => ¬ c ∈ some'), t, true)
theorem cutL_nil (s : List UInt8) : cutL [] s = ([], [], false) := rfl
theorem cutL_cons (c : UInt8) (l s : List UInt8) : cutL (c :: l) s = if c ∈ s then ([], l, true) else if (cutL l s).2.2 = true then (c :: (cutL l s).1, (cutL l s).2.1, true) else (c :: l, [], false) := by
  unfold cutL
  by_cases h : c ∈ s
  · rw [List.dropWhile_cons_of_neg (by simpa using h), List.takeWhile_cons_of_neg (by simpa using h), _root_.if_pos h]
  · rw [List.dropWhile_cons_of_pos (by simpa using h), List.takeWhile_cons_of_pos (by simpa using h), _root_.if_neg h]
    cases l.dropWhile (fun c => ¬ c ∈ s) with
    | nil => simp
    | cons d t => simp
end Go.Proofs.YtoegmienlhgjnaaDoor.P
