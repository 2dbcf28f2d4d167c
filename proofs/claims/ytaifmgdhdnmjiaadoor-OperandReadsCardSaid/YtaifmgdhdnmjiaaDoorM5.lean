import Derived.Test.YtaifmgdhdnmjiaaDoorM4
namespace Go.Proofs.YtaifmgdhdnmjiaaDoor.FM

theorem rnat_spec (m : Int) (neg : Bool) (n u : Nat) :
    (n % u = 0 ∧ rnat m neg n u = n) ∨
    (n % u ≠ 0 ∧ upf m neg (decide (n / u % 2 = 1)) (restOf (n % u) u) = false ∧ rnat m neg n u = n - n % u) ∨
    (n % u ≠ 0 ∧ upf m neg (decide (n / u % 2 = 1)) (restOf (n % u) u) = true ∧ rnat m neg n u = n - n % u + u) := by
  by_cases h : n % u = 0
  · exact .inl ⟨h, rnat_of_mod h⟩
  · rcases rnat_cases m neg n u with ⟨a, b⟩ | ⟨a, _, b⟩
    · exact .inr (.inl ⟨h, a, b⟩)
    · exact .inr (.inr ⟨h, a, b⟩)

/-- is r what x is rounded to, of the multiples of u, by a mode? -/
def RD (x r : Int) (u : Nat) (m : Int) : Prop :=
  (u : Int) ∣ r ∧ (x = r ∨ (¬ (u : Int) ∣ x ∧ (x - r).natAbs < u ∧
    (m = 3 → x.natAbs < r.natAbs) ∧
    (m = 4 → ¬ x.natAbs < r.natAbs) ∧
    (m = 5 → x - r < 0) ∧
    (m = 6 → ¬ x - r < 0) ∧
    (m = 1 → 2 * (x - r).natAbs < u ∨ (2 * (x - r).natAbs = u ∧ x.natAbs < r.natAbs)) ∧
    (m = 2 → 2 * (x - r).natAbs < u ∨ (2 * (x - r).natAbs = u ∧ ¬ x.natAbs < r.natAbs)) ∧
    (m = 0 → 2 * (x - r).natAbs < u ∨ (2 * (x - r).natAbs = u ∧ ((2 * u : Nat) : Int) ∣ r))))

theorem rest_one {r u : Nat} (h : r ≠ 0) : (restOf r u = 1 ↔ 2 * r < u) ∧ (restOf r u = 2 ↔ 2 * r = u) ∧ (restOf r u = 3 ↔ u < 2 * r) ∧ restOf r u ≠ 0 := by
  unfold restOf; rw [if_neg h]; repeat' split
  all_goals omega

theorem rnd_RD {m : Int} (hm0 : 0 ≤ m) (hm : m ≤ 6) (x : Int) {u : Nat} (hu : 0 < u) : RD x (rnd m x u) u m := by
  refine ⟨rnd_dvd .., ?_⟩
  have hlt := Nat.mod_lt x.natAbs hu
  have hle := Nat.mod_le x.natAbs u
  have hda := Nat.div_add_mod x.natAbs u
  rcases rnat_spec m (decide (x < 0)) x.natAbs u with ⟨h, _⟩ | ⟨h, hf, e⟩ | ⟨h, hf, e⟩
  · left
    rw [rnd_of_dvd]
    exact Int.ofNat_dvd_left.2 (Nat.dvd_of_mod_eq_zero h)
  · right
    have hr := rest_one (u := u) h
    have hnd : ¬ (u : Int) ∣ x := fun hd => h (Nat.mod_eq_zero_of_dvd (Int.ofNat_dvd_left.1 hd))
    have hR : (rnd m x u).natAbs = x.natAbs - x.natAbs % u := by rw [rnd_natAbs, e]
    have hs := rnd_sign m x u
    have hd : (x - rnd m x u).natAbs = x.natAbs % u := by omega
    refine ⟨hnd, by omega, fun hm => ?_, fun hm => by omega, fun hm => ?_, fun hm => ?_, fun hm => ?_, fun hm => ?_, fun hm => ?_⟩
    · subst hm; simp [upf, hr.2.2.2] at hf
    · subst hm; simp [upf, hr.2.2.2] at hf; omega
    · subst hm; simp [upf, hr.2.2.2] at hf; omega
    · subst hm; simp [upf, hr.2.2.2] at hf; rw [hd]; have := restOf_range (x.natAbs % u) u; omega
    · subst hm; simp [upf, hr.2.2.2] at hf; rw [hd]; have := restOf_range (x.natAbs % u) u; omega
    · subst hm
      rw [hd]
      by_cases h3 : 2 * (x.natAbs % u) < u
      · exact .inl h3
      · right
        have h4 : 2 * (x.natAbs % u) = u := by
          simp [upf, hr.2.2.2] at hf; omega
        refine ⟨h4, Int.ofNat_dvd_left.2 ?_⟩
        rw [hR]
        have hodd : x.natAbs / u % 2 = 0 := by
          simp [upf, hr.2.2.2] at hf
          have := hf.2 (hr.2.1.2 h4); omega
        refine ⟨x.natAbs / u / 2, ?_⟩
        have e2 : x.natAbs / u = 2 * (x.natAbs / u / 2) := by omega
        have : x.natAbs - x.natAbs % u = u * (x.natAbs / u) := by omega
        rw [this]; conv => lhs; rw [e2]
        rw [← Nat.mul_assoc, Nat.mul_comm u 2]
  · right
    have hr := rest_one (u := u) h
    have hnd : ¬ (u : Int) ∣ x := fun hd => h (Nat.mod_eq_zero_of_dvd (Int.ofNat_dvd_left.1 hd))
    have hR : (rnd m x u).natAbs = x.natAbs - x.natAbs % u + u := by rw [rnd_natAbs, e]
    have hs := rnd_sign m x u
    have hd : (x - rnd m x u).natAbs = u - x.natAbs % u := by omega
    refine ⟨hnd, by omega, fun hm => by omega, fun hm => ?_, fun hm => ?_, fun hm => ?_, fun hm => ?_, fun hm => ?_, fun hm => ?_⟩
    · subst hm; simp [upf, hr.2.2.2] at hf
    · subst hm; simp [upf, hr.2.2.2] at hf; omega
    · subst hm; simp [upf, hr.2.2.2] at hf; omega
    · subst hm; simp [upf, hr.2.2.2] at hf; rw [hd]; have := restOf_range (x.natAbs % u) u; omega
    · subst hm; simp [upf, hr.2.2.2] at hf; rw [hd]; have := restOf_range (x.natAbs % u) u; omega
    · subst hm
      rw [hd]
      by_cases h3 : u < 2 * (x.natAbs % u)
      · left; omega
      · right
        simp [upf, hr.2.2.2] at hf
        rcases hf with hf | ⟨h4, hodd⟩
        · omega
        have h4 := hr.2.1.1 h4
        refine ⟨by omega, Int.ofNat_dvd_left.2 ?_⟩
        rw [hR]
        refine ⟨(x.natAbs / u + 1) / 2, ?_⟩
        have e2 : x.natAbs / u + 1 = 2 * ((x.natAbs / u + 1) / 2) := by omega
        have : x.natAbs - x.natAbs % u + u = u * (x.natAbs / u + 1) := by rw [Nat.mul_add]; omega
        rw [this]; conv => lhs; rw [e2]
        rw [← Nat.mul_assoc, Nat.mul_comm u 2]

/-- the mode that does below nought what a mode does above it -/
def turned (m : Int) : Int := if m = 5 then 6 else if m = 6 then 5 else m
theorem upf_turned (m : Int) (neg odd : Bool) (r : Int) : upf (turned m) (!neg) odd r = upf m neg odd r := by
  unfold turned upf
  by_cases h5 : m = 5
  · subst h5; simp
  · by_cases h6 : m = 6
    · subst h6; simp
    · simp [h5, h6]
theorem rnat_turned (m : Int) (neg : Bool) (n u : Nat) : rnat (turned m) (!neg) n u = rnat m neg n u := by
  unfold rnat; rw [upf_turned]
theorem rnd_turned (m x : Int) (u : Nat) : rnd (turned m) (-x) u = - rnd m x u := by
  rcases Int.lt_trichotomy x 0 with h | h | h
  · rw [rnd_nonneg _ (by omega), rnd_neg _ h]
    have := rnat_turned m true x.natAbs u
    simp only [Bool.not_true] at this
    rw [Int.natAbs_neg, this]; simp
  · subst h; simp [rnd_zero]
  · rw [rnd_neg _ (by omega), rnd_nonneg _ (by omega)]
    have := rnat_turned m false x.natAbs u
    simp only [Bool.not_false] at this
    rw [Int.natAbs_neg, this]
/-- downward is no more, upward no less; what is rounded is one of both -/
theorem rnd_lo_hi (m x : Int) {u : Nat} (hu : 0 < u) : rnd 6 x u ≤ x ∧ x ≤ rnd 5 x u ∧ (rnd m x u = rnd 6 x u ∨ rnd m x u = rnd 5 x u) := by
  have hlt := Nat.mod_lt x.natAbs hu
  have hle := Nat.mod_le x.natAbs u
  have key : ∀ neg : Bool, (upf 6 neg (decide (x.natAbs / u % 2 = 1)) (restOf (x.natAbs % u) u) = (neg && decide (x.natAbs % u ≠ 0))) ∧ (upf 5 neg (decide (x.natAbs / u % 2 = 1)) (restOf (x.natAbs % u) u) = (!neg && decide (x.natAbs % u ≠ 0))) := by
    intro neg
    by_cases h : x.natAbs % u = 0
    · have : restOf (x.natAbs % u) u = 0 := by simp [restOf, h]
      rw [this]; simp [upf, h]
    · have := (rest_one (u := u) h).2.2.2
      simp [upf, this, h]
  by_cases hx : 0 ≤ x
  · simp only [rnd_nonneg _ hx]
    have k := key false
    rcases rnat_spec m false x.natAbs u with ⟨h, e⟩ | ⟨h, hf, e⟩ | ⟨h, hf, e⟩ <;>
    rcases rnat_spec 5 false x.natAbs u with ⟨h5, e5⟩ | ⟨h5, hf5, e5⟩ | ⟨h5, hf5, e5⟩ <;>
    rcases rnat_spec 6 false x.natAbs u with ⟨h6, e6⟩ | ⟨h6, hf6, e6⟩ | ⟨h6, hf6, e6⟩ <;>
    simp_all <;> omega
  · simp only [rnd_neg _ (show x < 0 by omega)]
    have k := key true
    rcases rnat_spec m true x.natAbs u with ⟨h, e⟩ | ⟨h, hf, e⟩ | ⟨h, hf, e⟩ <;>
    rcases rnat_spec 5 true x.natAbs u with ⟨h5, e5⟩ | ⟨h5, hf5, e5⟩ | ⟨h5, hf5, e5⟩ <;>
    rcases rnat_spec 6 true x.natAbs u with ⟨h6, e6⟩ | ⟨h6, hf6, e6⟩ | ⟨h6, hf6, e6⟩ <;>
    simp_all <;> omega
end Go.Proofs.YtaifmgdhdnmjiaaDoor.FM
