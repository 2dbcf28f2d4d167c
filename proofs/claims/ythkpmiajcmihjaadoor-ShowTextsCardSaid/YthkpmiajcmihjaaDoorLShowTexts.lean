import Derived.Test.YthkpmiajcmihjaaDoorDB
import Derived.Test.YthkpmiajcmihjaaDoorDA
import Derived.Test.YthkpmiajcmihjaaDoorPx18
import Derived.Test.YthkpmiajcmihjaaDoorPx19
import Derived.Test.YthkpmiajcmihjaaDoorPx8
namespace Go.Proofs.YthkpmiajcmihjaaDoor.P
open Go.RowKit Go.Proofs.YthkpmiajcmihjaaDoorW.PrintWords Go.Proofs.YthkpmiajcmihjaaDoorW.PrintLast Go.Proofs.YthkpmiajcmihjaaDoorW.PrintMore Go.Proofs.YthkpmiajcmihjaaDoor.FM
set_option linter.unusedVariables false
set_option linter.unusedSimpArgs false

theorem wholeN_dk (K : Nat) (r : Int) : wholeN (dk K r).m (dk K r).e * 10 ^ K ≤ r.natAbs := by
  have hv := dk_val K r
  have he := dk_e_ge K r
  obtain ⟨d, hd⟩ : ∃ d, dk K r = d := ⟨_, rfl⟩
  rw [hd] at hv he ⊢
  unfold wholeN
  by_cases h : 0 ≤ d.e
  · rw [_root_.if_pos h, ← hv, Nat.mul_assoc, ← Nat.pow_add]
    rw [show d.e.toNat + K = (d.e + (K : Int)).toNat by omega]
    exact Nat.le_refl _
  · rw [_root_.if_neg h, ← hv]
    have h1 : d.m / 10 ^ (-d.e).toNat * 10 ^ (-d.e).toNat ≤ d.m := Nat.div_mul_le_self _ _
    have h2 := Nat.mul_le_mul_right (10 ^ (d.e + (K : Int)).toNat) h1
    rw [Nat.mul_assoc, ← Nat.pow_add] at h2
    rwa [show (-d.e).toNat + (d.e + (K : Int)).toNat = K by omega] at h2
theorem wholeN_len_dk {M K : Nat} {r : Int} (h : Plc M K r) : (mkl (wholeN (dk K r).m (dk K r).e)).length ≤ M - K := by
  apply mkl_length_le.2
  have h1 := wholeN_dk K r
  have h2 := h.hz
  have h3 := Nat.lt_of_le_of_lt h1 h2
  rw [show M = (M - K) + K by have := h.hK; omega, Nat.pow_add] at h3
  exact Nat.lt_of_mul_lt_mul_right h3
theorem text_wr (neg : Bool) (I F : List UInt8) : show_Vis_Text.L neg I F = wrL neg I F (decide (F ≠ [])) (pwL false false [] [48]) := by
  unfold show_Vis_Text.L wrL pwL
  by_cases h : F = []
  · rw [_root_.if_pos h, decide_eq_false (fun h2 => h2 h)]
    simp
  · rw [_root_.if_neg h, decide_eq_true h]
    simp
/-- the text of what is shown is read as its value -/
theorem Parse_text (neg : Bool) (I F : List UInt8) (dI : Dig I) (dF : Dig F) (hI : I ≠ []) (hl : I.length + F.length ≤ 1000) :
    Ev (fun k => dec_Parse.f k (S (show_Vis_Text.L neg I F))) ((nrm neg (nvl (I ++ F)) (-(F.length : Int))).neg, S (mkl (nrm neg (nvl (I ++ F)) (-(F.length : Int))).m), (nrm neg (nvl (I ++ F)) (-(F.length : Int))).e, 0) := by
  obtain ⟨h1, h2, h3, h4, h5, h6, h7, h8⟩ := parses_parts neg (decide (F ≠ [])) false false I F [] [48] dI dF (by unfold Dig; decide) hI (.inl rfl) (by decide)
  rw [← text_wr] at h1 h2 h3 h4 h5 h6 h7 h8
  have hF : (if decide (F ≠ []) = true then F else []) = F := by
    by_cases h : F = []
    · rw [h]; rfl
    · rw [_root_.if_pos (decide_eq_true h)]
  rw [hF] at h4
  have hlen : (show_Vis_Text.L neg I F).length ≤ 10000000000 := by
    have e1 : (if neg = true then [(45 : UInt8)] else []).length ≤ 1 := by cases neg <;> decide
    have e2 : (if F = [] then [] else 46 :: F).length ≤ F.length + 1 := by split <;> simp
    unfold show_Vis_Text.L
    rw [List.length_append, List.length_append]
    omega
  have hok : qOk (show_Vis_Text.L neg I F) := by
    refine ⟨by rw [h2]; exact hI, ?_, ?_, h7⟩
    · intro h; rw [h3] at h; rw [h4]; exact of_decide_eq_true h
    · intro h; rw [h5] at h; cases h
  have hx : exD (qr2 (show_Vis_Text.L neg I F)) = [] := by rw [h6]; rfl
  have hnl : ¬ qLong (show_Vis_Text.L neg I F) := by
    unfold qLong
    rw [h2, h4, hx, nvl_nil]
    omega
  have h := Parse_ok _ hlen hok hnl
  have hD : qD (show_Vis_Text.L neg I F) = nrm neg (nvl (I ++ F)) (-(F.length : Int)) := by
    unfold qD qE
    rw [h1, h2, h4, h8, hx, nvl_nil, Bool.false_and, _root_.if_neg (by decide), show ((0 : Nat) : Int) - (F.length : Int) = -(F.length : Int) by omega]
  rw [hD] at h
  exact h
theorem texts_j2 {M K : Nat} {r : Int} (hrp : Plc M K r) (hK : K = 200) (hM : M ≤ 700) {a b : Nat} (ha : a ≤ 100) (hb : b ≤ 190) :
    Ev (fun k => florinlaw04_ShowTexts.j2 k false (dk K r).neg (S (visI a (dk K r) (visF b (dk K r)))) (S (visF b (dk K r)))) true := by
  refine Ev.step (fun k => (by rw [florinlaw04_ShowTexts.j2, _root_.if_neg (by decide)])) ?_
  have hv := Value_dk hrp (a := a) (b := b) (by omega) (by omega) (by omega)
  have e1 := dk_e_ge K r
  have e2 := dk_e_lt hrp.hz hrp.hK
  have hlI : (visI a (dk K r) (visF b (dk K r))).length ≤ a + (M - K) + 1 := by
    have := wholeN_len_dk hrp
    unfold visI
    split
    · simp
    · rw [List.length_append, zs_length]; omega
  have hlF : (visF b (dk K r)).length ≤ 200 := by rw [visF_length]; omega
  have hvv := vis_value (dk_norm hrp).symm (by omega) (by omega) (mn := a) (least := b) (by omega) (visF b (dk K r))
  have hne : visI a (dk K r) (visF b (dk K r)) = [] → visF b (dk K r) ≠ [] := by
    intro h1 h2
    unfold visI at h1
    split at h1
    · cases h1
    · rename_i h3; exact h3 ⟨h1, h2⟩
  have dI := dig_visI a (dk K r) (visF b (dk K r))
  have dF := dig_visF b (dk K r)
  obtain ⟨I, hI⟩ : ∃ I, visI a (dk K r) (visF b (dk K r)) = I := ⟨_, rfl⟩
  obtain ⟨F, hF⟩ : ∃ F, visF b (dk K r) = F := ⟨_, rfl⟩
  rw [hF] at hlI hI hv hlF hvv hne dI dF ⊢
  rw [hI] at hlI hv hvv hne dI ⊢
  rw [S_toList, S_toList]
  by_cases h : I = []
  · exact Ev.if_pos h (Ev.yes (by simpa using hne h))
  · refine Ev.if_neg h (Ev.const (Text_ev _ _ _ (by omega) (by omega)) ?_)
    have hp := Parse_text (dk K r).neg I F dI dF h (by omega)
    rw [hvv] at hp
    refine Ev.bind hp (Ev.if_pos rfl (Ev.bind hv (Ev.yes ?_)))
    rw [tri1, tri2, tri3]
    simp
theorem pureShowTexts (n1 : Bool) (l1 : List Int) (e1 : Int) (a0 a1 a2 a3 a4 a5 a6 : Int) (h0 : l1.length ≤ maxLen) (h1 : l1.length * 1 ≤ 140737488351232) (w1 : ∀ x ∈ l1, (Lit.int .u8 x).wf = true) (he : (Lit.int .i64 e1).wf = true)
    (x0 : (Lit.int .i64 a0).wf = true) (x1 : (Lit.int .i64 a1).wf = true) (x2 : (Lit.int .i64 a2).wf = true) (x3 : (Lit.int .i64 a3).wf = true) (x4 : (Lit.int .i64 a4).wf = true) (x5 : (Lit.int .i64 a5).wf = true) (x6 : (Lit.int .i64 a6).wf = true) :
    ∃ k, florinlaw04_ShowTexts.f k n1 l1 e1 a0 a1 a2 a3 a4 a5 a6 = some true := by
  refine Ev.rounds ?_
  unfold florinlaw04_ShowTexts.f
  refine Ev.bind head04 (Ev.if_pos rfl (Ev.const (Few_ev n1 l1 e1 30 (by omega)) ?_))
  by_cases h : (l1.length : Int) ≤ (30 : Nat) ∧ -((30 : Nat) : Int) ≤ e1 ∧ e1 ≤ (30 : Nat)
  case neg => exact Ev.if_neg (by simpa using h) (Ev.now _)
  refine Ev.if_pos (decide_eq_true h) ?_
  obtain ⟨Q, hQ⟩ : ∃ Q : Nat, Q = 600 := ⟨_, rfl⟩
  obtain ⟨K, hK⟩ : ∃ K : Nat, K = 200 := ⟨_, rfl⟩
  obtain ⟨kd, mn, mxx, i, m, mi, V, hP, b1, b2, b3, hpe⟩ := Prec_ev hQ a0 a1 a2 a3 a4 a5 a6
  have ka := digs_length l1
  rw [← hK] at hP
  have a := mk_raw (K := K) (M := Q) (neg := n1) (e := e1) (digs_dig l1) (by omega) (by omega) (by omega) (by omega) (by omega)
  have da : kd = 1 → raw K n1 (nvl (digs l1)) e1 ≠ 0 → mxx ≤ nd (raw K n1 (nvl (digs l1)) e1) := fun _ hz => by have := raw_nd (by omega) (by omega) hz; omega
  -- nought or a first digit at the place of -30 at the least
  have hmag : kd = 1 → -31 ≤ (magD (dk K (shw K kd mxx m V (raw K n1 (nvl (digs l1)) e1)))).1 := by
    intro hk
    rw [magD_dk]
    by_cases hz : raw K n1 (nvl (digs l1)) e1 = 0
    · rw [hz, shw_zero, _root_.if_pos rfl]; decide
    by_cases hne : shw K kd mxx m V (raw K n1 (nvl (digs l1)) e1) = 0
    · rw [_root_.if_pos hne]; decide
    · rw [_root_.if_neg hne]
      have h5 := raw_nd_30 (by omega) (by omega) hz
      have h6 := shw_nd_low hP a.plc h5 hne hk
      dsimp only; omega
  obtain ⟨u, hu⟩ : ∃ u, raw K n1 (nvl (digs l1)) e1 = u := ⟨_, rfl⟩
  rw [hu] at a da hmag
  have m1 := Make_ev n1 l1 e1 (by omega) w1
  have pa := shw_plc hP a.plc (by omega)
  have ap := fun r (hr : shw K kd mxx m V u = r) => Apply_dk hP a.plc (by omega) (by omega) a.val da hr (hr ▸ pa)
  obtain ⟨x, hx⟩ : ∃ x, shw K kd mxx m V u = x := ⟨_, rfl⟩
  have ap1 := ap x hx
  rw [hx] at pa hmag
  have hn0 := hP.n0
  have lx : lst K kd mn x ≤ 190 := by
    unfold lst
    by_cases hk : kd = 1
    · rw [_root_.if_pos hk]; have := hmag hk; omega
    · rw [_root_.if_neg hk]; omega
  have hi0 := hP.i0
  have hj2 := texts_j2 pa hK (by omega) (a := mi.toNat) (b := lst K kd mn x) (by omega) lx
  have hlI : (visI mi.toNat (dk K x) (visF (lst K kd mn x) (dk K x))).length ≤ 1000000 := by
    have := wholeN_len_dk pa
    unfold visI
    split
    · decide
    · rw [List.length_append, zs_length]; omega
  have hlF : (visF (lst K kd mn x) (dk K x)).length ≤ 1000000 := by rw [visF_length]; have := dk_e_ge K x; omega
  refine Ev.bind hpe (Ev.bind m1 (Ev.bind ap1 ?_))
  dsimp only
  obtain ⟨I, hI⟩ : ∃ I, visI mi.toNat (dk K x) (visF (lst K kd mn x) (dk K x)) = I := ⟨_, rfl⟩
  obtain ⟨F, hF⟩ : ∃ F, visF (lst K kd mn x) (dk K x) = F := ⟨_, rfl⟩
  rw [hF] at hlI hlF hj2 hI ⊢
  rw [hI] at hlI hj2 ⊢
  have j1 : Ev (fun k => florinlaw04_ShowTexts.j1 k 0 (S (show_Vis_Text.L (dk K x).neg I F)) (dk K x).neg (S I) (S F)) true := by
    refine Ev.step (fun k => (by rw [florinlaw04_ShowTexts.j1, _root_.if_pos rfl])) (Ev.const (Text_ev _ _ _ (by omega) (by omega)) ?_)
    rw [S_toList, show (show_Vis_Text.L (dk K x).neg I F != show_Vis_Text.L (dk K x).neg I F) = false by simp]
    exact hj2
  have j0 : ∀ P : List UInt8, P = (if (dk K x).neg = true then [45] else []) ++ I → P.length ≤ 1000001 → Ev (fun k => florinlaw04_ShowTexts.j0 k 0 (S P) (dk K x).neg (S I) (S F)) true := by
    intro P hP hPl
    refine Ev.step (fun k => (by rw [florinlaw04_ShowTexts.j0])) ?_
    have hT : show_Vis_Text.L (dk K x).neg I F = P ++ (if F = [] then [] else 46 :: F) := by rw [hP]; rfl
    rw [S_toList]
    by_cases h2 : F = []
    · refine Ev.if_pos h2 ?_
      rw [_root_.if_pos h2, List.append_nil] at hT
      rw [← hT]
      exact j1
    · refine Ev.if_neg h2 (Ev.if_pos (by rw [S_size]; omega) ?_)
      rw [show (⟨#[46]⟩ : ByteArray) = S [46] from rfl, S_append]
      refine Ev.if_pos (by rw [S_size, S_size, List.length_append]; simp; omega) ?_
      rw [S_append, List.append_assoc]
      rw [_root_.if_neg h2] at hT
      rw [show P ++ ([46] ++ F) = show_Vis_Text.L (dk K x).neg I F by rw [hT]; rfl]
      exact j1
  cases hn : (dk K x).neg with
  | true =>
    rw [hn] at j0
    refine Ev.if_pos rfl (Ev.if_pos (by rw [S_size]; omega) ?_)
    rw [show (⟨#[45]⟩ : ByteArray) = S [45] from rfl, S_append]
    exact j0 ([45] ++ I) rfl (by rw [List.length_append]; simp; omega)
  | false =>
    rw [hn] at j0
    exact Ev.if_neg (by decide) (j0 I rfl (by omega))
end Go.Proofs.YthkpmiajcmihjaaDoor.P
