import Derived.Test.YtoegmienlhgjnaaDoorD1
import Derived.Test.YtoegmienlhgjnaaDoorO1
namespace Go.Proofs.YtoegmienlhgjnaaDoor.P
open Go.RowKit Go.Proofs.YtoegmienlhgjnaaDoorW.PrintWords Go.Proofs.YtoegmienlhgjnaaDoorW.PrintLast Go.Proofs.YtoegmienlhgjnaaDoorW.PrintMore Go.Proofs.YtoegmienlhgjnaaDoor.FM
set_option linter.unusedVariables false
set_option linter.unusedSimpArgs false

/-! the reader of decimals -/
def hin (some r : List UInt8) : Bool := match r with | [] => false | c :: _ => decide (c ∈ some)
theorem hin_nil (s : List UInt8) : hin s [] = false := rfl
theorem hin_cons (s : List UInt8) (c : UInt8) (r : List UInt8) : hin s (c :: r) = decide (c ∈ s) := rfl
def isd (c : UInt8) : Bool := decide (48 ≤ c.toNat ∧ c.toNat ≤ 57)
def dg (r : List UInt8) : List UInt8 := r.takeWhile isd
def dr (r : List UInt8) : List UInt8 := r.dropWhile isd
theorem dig_dg (r : List UInt8) : Dig (dg r) := by
  intro c hc
  have := List.all_eq_true.1 (List.all_takeWhile (l := r) (p := isd)) c hc
  exact of_decide_eq_true this
theorem dg_dr (r : List UInt8) : dg r ++ dr r = r := List.takeWhile_append_dropWhile
theorem dr_drop (r : List UInt8) : dr r = r.drop (dg r).length := by
  have h := congrArg (List.drop (dg r).length) (dg_dr r)
  rwa [List.drop_left] at h
theorem dg_length (r : List UInt8) : (dg r).length + (dr r).length = r.length := by rw [← List.length_append, dg_dr]
theorem dg_append {ds rest : List UInt8} (h : Dig ds) (hr : hin [48, 49, 50, 51, 52, 53, 54, 55, 56, 57] rest = false) : dg (ds ++ rest) = ds ∧ dr (ds ++ rest) = rest := by
  have hd : ∀ c ∈ ds, isd c = true := fun c hc => decide_eq_true (h c hc)
  unfold dg dr
  rw [List.takeWhile_append_of_pos hd, List.dropWhile_append_of_pos hd]
  cases rest with
  | nil => simp
  | cons c t =>
    have hc : ¬ isd c = true := by
      intro h2
      have h3 := of_decide_eq_true h2
      rw [hin_cons] at hr
      have h4 : c ∉ ([48, 49, 50, 51, 52, 53, 54, 55, 56, 57] : List UInt8) := of_decide_eq_false hr
      apply h4
      have h5 : c = UInt8.ofNat c.toNat := by simp
      rw [h5]
      have : c.toNat = 48 ∨ c.toNat = 49 ∨ c.toNat = 50 ∨ c.toNat = 51 ∨ c.toNat = 52 ∨ c.toNat = 53 ∨ c.toNat = 54 ∨ c.toNat = 55 ∨ c.toNat = 56 ∨ c.toNat = 57 := by omega
      rcases this with h | h | h | h | h | h | h | h | h | h <;> rw [h] <;> decide
    rw [List.takeWhile_cons_of_neg hc, List.dropWhile_cons_of_neg hc]
    simp
theorem isd_mem (c : UInt8) : isd c = decide (c ∈ ([48, 49, 50, 51, 52, 53, 54, 55, 56, 57] : List UInt8)) := by
  have h5 : c = UInt8.ofNat c.toNat := by simp
  unfold isd
  apply decide_eq_decide.2
  constructor
  · intro h3
    rw [h5]
    have : c.toNat = 48 ∨ c.toNat = 49 ∨ c.toNat = 50 ∨ c.toNat = 51 ∨ c.toNat = 52 ∨ c.toNat = 53 ∨ c.toNat = 54 ∨ c.toNat = 55 ∨ c.toNat = 56 ∨ c.toNat = 57 := by omega
    rcases this with h | h | h | h | h | h | h | h | h | h <;> rw [h] <;> decide
  · intro h
    simp only [List.mem_cons, List.not_mem_nil, or_false] at h
    rcases h with h | h | h | h | h | h | h | h | h | h <;> subst h <;> decide
end Go.Proofs.YtoegmienlhgjnaaDoor.P
