import Derived.Test.YtaifmgdhdnmjiaaDoorM3
namespace Go.Proofs.YtaifmgdhdnmjiaaDoor.FM

/-- does a number that was cut go on to the next one? modes 0 to 6; the rest: 0 none, 1 less than half, 2 half, 3 more -/
def upf (m : Int) (neg odd : Bool) (r : Int) : Bool :=
  if r = 0 then false
  else if m = 0 then decide (r = 3) || (decide (r = 2) && odd)
  else if m = 1 then decide (2 ≤ r)
  else if m = 2 then decide (r = 3)
  else if m = 3 then true
  else if m = 5 then !neg
  else if m = 6 then neg
  else false
def restOf (r u : Nat) : Int := if r = 0 then 0 else if 2 * r < u then 1 else if 2 * r = u then 2 else 3
def rnat (m : Int) (neg : Bool) (n u : Nat) : Nat := (n / u + (if upf m neg (decide (n / u % 2 = 1)) (restOf (n % u) u) then 1 else 0)) * u
def rnd (m : Int) (x : Int) (u : Nat) : Int := sg (decide (x < 0)) (rnat m (decide (x < 0)) x.natAbs u)

theorem restOf_range (r u : Nat) : 0 ≤ restOf r u ∧ restOf r u ≤ 3 := by
  unfold restOf; repeat' split
  all_goals omega
theorem restOf_mono {r s u : Nat} (h : r ≤ s) : restOf r u ≤ restOf s u := by
  unfold restOf; repeat' split
  all_goals omega
theorem upf_mono {m : Int} {neg odd : Bool} {r s : Int} (h0 : 0 ≤ r) (h : r ≤ s) (hs : s ≤ 3) : upf m neg odd r = true → upf m neg odd s = true := by
  unfold upf
  by_cases hr : r = 0
  · simp [hr]
  · have hs0 : s ≠ 0 := by omega
    simp only [hr, hs0, if_false]
    repeat' split
    all_goals first | (intro a; exact a) | skip
    · intro a
      simp only [Bool.or_eq_true, Bool.and_eq_true, decide_eq_true_eq] at a ⊢
      rcases a with a | ⟨a, b⟩
      · left; omega
      · by_cases h2 : s = 2
        · right; exact ⟨h2, b⟩
        · left; omega
    · simp only [decide_eq_true_eq]; omega
    · simp only [decide_eq_true_eq]; omega
theorem upf_zero (m : Int) (neg odd : Bool) : upf m neg odd 0 = false := by simp [upf]
theorem rnat_dvd (m : Int) (neg : Bool) (n u : Nat) : u ∣ rnat m neg n u := ⟨_, Nat.mul_comm _ _⟩
theorem rnat_mod (m : Int) (neg : Bool) (n u : Nat) : rnat m neg n u % u = 0 := Nat.mod_eq_zero_of_dvd (rnat_dvd ..)
/-- what is rounded lies at the multiple below, or at the next one -/
theorem rnat_cases (m : Int) (neg : Bool) (n u : Nat) :
    (upf m neg (decide (n / u % 2 = 1)) (restOf (n % u) u) = false ∧ rnat m neg n u = n - n % u) ∨
    (upf m neg (decide (n / u % 2 = 1)) (restOf (n % u) u) = true ∧ n % u ≠ 0 ∧ rnat m neg n u = n - n % u + u) := by
  have h := Nat.div_add_mod n u
  have h' : n / u * u = n - n % u := by rw [Nat.mul_comm]; omega
  unfold rnat
  cases e : upf m neg (decide (n / u % 2 = 1)) (restOf (n % u) u) with
  | false => left; simp [h']
  | true =>
    right
    refine ⟨rfl, ?_, ?_⟩
    · intro h0; rw [h0, show restOf 0 u = 0 by simp [restOf], upf_zero] at e; cases e
    · simp [Nat.add_mul, h']
theorem rnat_of_mod {m : Int} {neg : Bool} {n u : Nat} (h : n % u = 0) : rnat m neg n u = n := by
  rcases rnat_cases m neg n u with ⟨_, e⟩ | ⟨_, h', _⟩
  · omega
  · exact absurd h h'
theorem rnat_zero (m : Int) (neg : Bool) (u : Nat) : rnat m neg 0 u = 0 := rnat_of_mod (by simp)
theorem rnat_idem (m m' : Int) (neg neg' : Bool) (n u : Nat) : rnat m' neg' (rnat m neg n u) u = rnat m neg n u := rnat_of_mod (rnat_mod ..)
theorem rnat_mono (m : Int) (neg : Bool) {n k u : Nat} (h : n ≤ k) : rnat m neg n u ≤ rnat m neg k u := by
  have hd : n / u ≤ k / u := Nat.div_le_div_right h
  by_cases he : n / u = k / u
  · have h1 := Nat.div_add_mod n u
    have h2 := Nat.div_add_mod k u
    have hm : n % u ≤ k % u := by rw [he] at h1; omega
    unfold rnat
    rw [he]
    apply Nat.mul_le_mul_right
    have a := restOf_range (n % u) u
    have b := restOf_range (k % u) u
    have c := restOf_mono (u := u) hm
    have := upf_mono (m := m) (neg := neg) (odd := decide (k / u % 2 = 1)) a.1 c b.2
    split <;> split <;> simp_all
  · have : (n / u + 1) * u ≤ k / u * u := Nat.mul_le_mul_right _ (by omega)
    refine Nat.le_trans (m := (n / u + 1) * u) ?_ (Nat.le_trans this ?_)
    · unfold rnat; apply Nat.mul_le_mul_right; split <;> omega
    · unfold rnat; apply Nat.mul_le_mul_right; omega

theorem rnd_nonneg (m : Int) {x : Int} (h : 0 ≤ x) (u : Nat) : rnd m x u = rnat m false x.natAbs u := by
  unfold rnd sg; simp [show ¬ x < 0 by omega]
theorem rnd_neg (m : Int) {x : Int} (h : x < 0) (u : Nat) : rnd m x u = - (rnat m true x.natAbs u : Int) := by
  unfold rnd sg; simp [h]
theorem rnd_zero (m : Int) (u : Nat) : rnd m 0 u = 0 := by rw [rnd_nonneg m (by omega)]; simp [rnat_zero]
theorem rnd_dvd (m : Int) (x : Int) (u : Nat) : (u : Int) ∣ rnd m x u := by
  unfold rnd sg
  split
  · exact Int.dvd_neg.2 (Int.natCast_dvd_natCast.2 (rnat_dvd ..))
  · exact Int.natCast_dvd_natCast.2 (rnat_dvd ..)
theorem rnd_natAbs (m : Int) (x : Int) (u : Nat) : (rnd m x u).natAbs = rnat m (decide (x < 0)) x.natAbs u := sg_natAbs ..
theorem rnd_of_dvd {m x : Int} {u : Nat} (h : (u : Int) ∣ x) : rnd m x u = x := by
  have : x.natAbs % u = 0 := Nat.mod_eq_zero_of_dvd (Int.ofNat_dvd_left.1 h)
  unfold rnd
  rw [rnat_of_mod this, sg_of]
theorem rnd_idem (m m' x : Int) (u : Nat) : rnd m' (rnd m x u) u = rnd m x u := rnd_of_dvd (rnd_dvd ..)
theorem rnd_sign (m x : Int) (u : Nat) : (0 ≤ x → 0 ≤ rnd m x u) ∧ (x ≤ 0 → rnd m x u ≤ 0) := by
  constructor
  · intro h; rw [rnd_nonneg m h]; omega
  · intro h
    by_cases h' : x < 0
    · rw [rnd_neg m h']; omega
    · have : x = 0 := by omega
      subst this; rw [rnd_zero]; omega
theorem rnd_mono (m : Int) {x y : Int} {u : Nat} (h : x ≤ y) : rnd m x u ≤ rnd m y u := by
  by_cases hx : 0 ≤ x
  · rw [rnd_nonneg m hx, rnd_nonneg m (by omega)]
    have := rnat_mono m false (u := u) (n := x.natAbs) (k := y.natAbs) (by omega)
    omega
  · by_cases hy : 0 ≤ y
    · have a := (rnd_sign m x u).2 (by omega)
      have b := (rnd_sign m y u).1 hy
      omega
    · rw [rnd_neg m (by omega), rnd_neg m (by omega)]
      have := rnat_mono m true (u := u) (n := y.natAbs) (k := x.natAbs) (by omega)
      omega
end Go.Proofs.YtaifmgdhdnmjiaaDoor.FM
