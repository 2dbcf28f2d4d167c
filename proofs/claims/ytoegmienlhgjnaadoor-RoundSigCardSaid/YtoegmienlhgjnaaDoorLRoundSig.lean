import Derived.Test.YtoegmienlhgjnaaDoorD8
import Derived.Test.YtoegmienlhgjnaaDoorPx13
import Derived.Test.YtoegmienlhgjnaaDoorPx19
namespace Go.Proofs.YtoegmienlhgjnaaDoor.P
open Go.RowKit Go.Proofs.YtoegmienlhgjnaaDoorW.PrintWords Go.Proofs.YtoegmienlhgjnaaDoorW.PrintLast Go.Proofs.YtoegmienlhgjnaaDoorW.PrintMore Go.Proofs.YtoegmienlhgjnaaDoor.FM
set_option linter.unusedVariables false
set_option linter.unusedSimpArgs false

/-- to so many digits: no more of them -/
theorem sig_len {K q j : Nat} {m z : Int} (hz : z ≠ 0) (hq : 1 ≤ q) (hlt : z.natAbs < 10 ^ (q + j)) : (mkl (dk K (rnd m z (10 ^ j))).m).length ≤ q := by
  rw [dk_m, rnd_natAbs, ← qn_mul]
  obtain ⟨c, hc⟩ : ∃ c, qn m (decide (z < 0)) z.natAbs (10 ^ j) = c := ⟨_, rfl⟩
  have hle : c ≤ 10 ^ q := by
    rw [← hc]
    unfold qn
    have h1 : z.natAbs / 10 ^ j < 10 ^ q := (Nat.div_lt_iff_lt_mul (Nat.pow_pos (by decide))).2 (by rw [← Nat.pow_add]; exact hlt)
    split <;> omega
  rw [hc]
  rcases Nat.eq_zero_or_pos c with h0 | h0
  · rw [h0, Nat.zero_mul, st_zero, mkl_zero]; simp
  · rw [st_mul_pow h0]
    rcases Nat.lt_or_ge c (10 ^ q) with h | h
    · exact mkl_length_le.2 (Nat.lt_of_le_of_lt (st_le c) h)
    · have hce : c = 1 * 10 ^ q := by omega
      rw [hce, st_mul_pow (by decide), show (st 1).1 = 1 by rw [show st 1 = (1, 0) from st_uniq (m := 1) (k := 0) (by decide)]]
      apply mkl_length_le.2
      exact Nat.lt_of_lt_of_le (show 1 < 10 ^ 1 by decide) (Nat.pow_le_pow_right (by decide) hq)
theorem mn_mx (n : Int) : mn (mx n 1) 30000 = max 1 (min n 30000) := by
  unfold mn mx
  repeat' split
  all_goals omega
theorem Sig_ev {Q : Nat} (hQ : Q = 600) {neg : Bool} {l : List UInt8} {e z n m : Int} (hv : Val neg l e (dk 200 z)) (hp : Plc Q 200 z) (m0 : 0 ≤ m) (m6 : m ≤ 6) (hn : n ≤ 100) (hM : -100 ≤ (dk 200 z).e) (hM2 : (dk 200 z).e + (mkl (dk 200 z).m).length ≤ 300) :
    Ev (fun k => round_Sig.f k neg (S l) e n m) (tri (if z = 0 then D0 else dk 200 (rnd m z (10 ^ ((dk 200 z).e + (mkl (dk 200 z).m).length - max 1 n + ((200 : Nat) : Int)).toNat)))) := by
  unfold round_Sig.f
  have hg := Mag_ev neg l hv.len hv.dig e
  rw [hv.nrm] at hg
  refine Ev.bind hg ?_
  unfold magD
  by_cases h0 : z = 0
  · rw [_root_.if_pos (dk_m_zero.2 h0), _root_.if_pos h0]
    refine Ev.if_neg (by dsimp only; decide) ?_
    rw [tri_D0]
    exact Ev.now _
  · rw [_root_.if_neg (fun h => h0 (dk_m_zero.1 h)), _root_.if_neg h0]
    obtain ⟨d1, d2⟩ := dk_mod (K := 200) h0
    have hlen : 0 < (mkl (dk 200 z).m).length := by
      rcases Nat.eq_zero_or_pos (mkl (dk 200 z).m).length with h | h
      · have := List.eq_nil_of_length_eq_zero h
        rw [mkl_eq_nil] at this; omega
      · exact h
    refine Ev.if_pos rfl ?_
    rw [mn_mx]
    dsimp only
    rw [w64 (x := (dk 200 z).e + ((mkl (dk 200 z).m).length : Int) - 1 + 1) (by omega) (by omega), w64 (by omega) (by omega)]
    have hat := At_dk (m := m) hp (by omega) hv (p := (dk 200 z).e + ((mkl (dk 200 z).m).length : Int) - 1 + 1 - max 1 (min n 30000)) (by omega) (by omega) m0 m6
    rw [show (dk 200 z).e + ((mkl (dk 200 z).m).length : Int) - 1 + 1 - max 1 (min n 30000) + ((200 : Nat) : Int) = (dk 200 z).e + ((mkl (dk 200 z).m).length : Int) - max 1 n + ((200 : Nat) : Int) by omega] at hat
    exact Ev.bind hat (Ev.now _)
theorem pureRoundSig (a0 : Bool) (l : List Int) (e : Int) (a1 a2 : Int) (h0 : l.length ≤ maxLen) (h1 : l.length * 1 ≤ 140737488351232) (hw : ∀ x ∈ l, (Lit.int .u8 x).wf = true) (he : (Lit.int .i64 e).wf = true) (w1 : (Lit.int .i64 a1).wf = true) (w2 : (Lit.int .i64 a2).wf = true) :
    ∃ k, florinlaw03_RoundSig.f k a0 l e a1 a2 = some true := by
  refine Ev.rounds ?_
  unfold florinlaw03_RoundSig.f
  refine Ev.bind head03 (Ev.if_pos rfl (Ev.const (Few_ev a0 l e 40 (by omega)) ?_))
  by_cases h : (l.length : Int) ≤ (40 : Nat) ∧ -((40 : Nat) : Int) ≤ e ∧ e ≤ (40 : Nat)
  case neg => exact Ev.if_neg (by simpa using h) (Ev.now _)
  refine Ev.if_pos (decide_eq_true h) ?_
  obtain ⟨m, hm, hm0, hm6⟩ := Mode_ev a2
  obtain ⟨n, hn, hn2⟩ := low64 6 (by decide) a1 63 (by decide)
  replace hn2 : n < 64 := hn2
  obtain ⟨n', hn', hn'2⟩ := low64 8 (by decide) (wrap64 (-a1)) 255 (by decide)
  replace hn'2 : n' < 256 := hn'2
  rw [hn, hn', w64 (x := (n' : Int) - 300) (by omega) (by omega)]
  have hl : (digs l).length = l.length := digs_length l
  obtain ⟨Q, hQ⟩ : ∃ Q : Nat, Q = 600 := ⟨_, rfl⟩
  have a := mk_raw (K := 200) (M := Q) (neg := a0) (e := e) (digs_dig l) (by omega) (by omega) (by omega) (by omega) (by omega)
  have hmk := Make_ev a0 l e (by omega) hw
  -- the places of the decimal itself
  have hd : -100 ≤ (dk 200 (raw 200 a0 (nvl (digs l)) e)).e ∧ (dk 200 (raw 200 a0 (nvl (digs l)) e)).e + (mkl (dk 200 (raw 200 a0 (nvl (digs l)) e)).m).length ≤ 300 := by
    rw [← a.val.nrm]
    rcases Nat.eq_zero_or_pos (nvl (digs l)) with h0 | h0
    · rw [h0, nrm_zero, show D0.m = 0 from rfl, mkl_zero]; decide
    · have hst := st_snd_lt h0 (nvl_lt (digs_dig l))
      have hml : (mkl (st (nvl (digs l))).1).length ≤ 40 := by
        have h2 := mkl_length_le.2 (nvl_lt (digs_dig l))
        exact Nat.le_trans (mkl_length_mono (st_le _)) (by omega)
      rw [nrm_pos h0]
      dsimp only
      rw [held_of (x := e) (by omega) (by omega), held_of (by omega) (by omega)]
      omega
  obtain ⟨z, hz⟩ : ∃ z, raw 200 a0 (nvl (digs l)) e = z := ⟨_, rfl⟩
  rw [hz] at a hd
  have s1 := Sig_ev hQ (m := m) (n := (n : Int)) a.val a.plc hm0 hm6 (by omega) hd.1 hd.2
  have s2 := Sig_ev hQ (m := m) (n := (n' : Int) - 300) a.val a.plc hm0 hm6 (by omega) hd.1 hd.2
  have s3 := Sig_ev hQ (m := m) (n := 1) a.val a.plc hm0 hm6 (by omega) hd.1 hd.2
  have hg := Mag_ev a0 (digs l) (by omega) (digs_dig l) e
  rw [a.val.nrm] at hg
  have hkx : mx (n : Int) 1 = max 1 (n : Int) := by unfold mx; split <;> omega
  refine Ev.bind hmk (Ev.const hm (Ev.bind s1 (Ev.bind hg ?_)))
  rw [hkx]
  unfold magD
  by_cases hz0 : z = 0
  · rw [_root_.if_pos (dk_m_zero.2 hz0), _root_.if_pos hz0]
    refine Ev.if_neg (by dsimp only; decide) (Ev.yes ?_)
    rw [tri_D0, S_toList]; rfl
  rw [_root_.if_neg (fun h => hz0 (dk_m_zero.1 h)), _root_.if_neg hz0]
  rw [_root_.if_neg hz0] at s2 s3
  have hv := dk_val 200 z
  have hde := dk_e_ge 200 z
  obtain ⟨d1, d2⟩ := dk_mod (K := 200) hz0
  have hlen : 0 < (mkl (dk 200 z).m).length := by
    rcases Nat.eq_zero_or_pos (mkl (dk 200 z).m).length with h | h
    · have := List.eq_nil_of_length_eq_zero h
      rw [mkl_eq_nil] at this; omega
    · exact h
  have hltm := lt_pow_length (dk 200 z).m
  obtain ⟨d, hdd⟩ : ∃ d, dk 200 z = d := ⟨_, rfl⟩
  rw [hdd] at hd hv hlen hltm s2 s3 hde ⊢
  obtain ⟨L, hL⟩ : ∃ L, (mkl d.m).length = L := ⟨_, rfl⟩
  rw [hL] at hd hlen hltm s2 s3 ⊢
  dsimp only
  obtain ⟨p, hp⟩ : ∃ p : Int, d.e + (L : Int) - max 1 (n : Int) = p := ⟨_, rfl⟩
  have hpw : wrap64 (wrap64 (d.e + (L : Int) - 1 - max 1 (n : Int)) + 1) = p := by rw [w64 (x := d.e + (L : Int) - 1 - max 1 (n : Int)) (by omega) (by omega), w64 (by omega) (by omega)]; omega
  rw [hpw, hp]
  refine Ev.if_pos rfl ?_
  have hU := unit_inc (M := Q) (K := 200) (p := p) (by omega) (by omega) (by omega) (by omega)
  have hun := unit_ev (M := Q) (K := 200) (p := p) (by omega) (by omega) (by omega) (by omega)
  have hrd := rnd_RD hm0 hm6 z hU.pos
  have hro := Rounded_ev (m := m) a.val (a.plc.succ (by omega)) (rnd_plc (m := m) a.plc (by omega) (inc_le hU)) (inc_succ hU (by omega)) (by omega) (by omega) hm0 hm6 hrd
  rw [Nat.one_mul] at hun hro
  refine Ev.bind hun (Ev.bind hro (Ev.if_pos rfl (Ev.if_pos ?_ (Ev.bind s2 (Ev.bind s3 (Ev.yes ?_))))))
  · rw [tri2, S_size]
    have hsl := sig_len (K := 200) (q := (max 1 (n : Int)).toNat) (j := (p + ((200 : Nat) : Int)).toNat) (m := m) hz0 (by omega) (by
      rw [← hv]
      have h2 := Nat.mul_lt_mul_of_pos_right hltm (Nat.pow_pos (n := (d.e + ((200 : Nat) : Int)).toNat) (by decide : 0 < 10))
      rw [← Nat.pow_add] at h2
      refine Nat.lt_of_lt_of_le h2 (Nat.pow_le_pow_right (by decide) ?_)
      omega)
    omega
  · rw [show max 1 ((n' : Int) - 300) = 1 by omega, show max 1 (1 : Int) = 1 by omega, teq3]
    simp
end Go.Proofs.YtoegmienlhgjnaaDoor.P
