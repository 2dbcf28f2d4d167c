import Derived.Test.YtoegmienlhgjnaaDoorD4
import Derived.Test.YtoegmienlhgjnaaDoorMA
import Derived.Test.YtoegmienlhgjnaaDoorPx13
import Derived.Test.YtoegmienlhgjnaaDoorPx14
import Derived.Test.YtoegmienlhgjnaaDoorPx2
import Derived.Test.YtoegmienlhgjnaaDoorPx3
import Derived.Test.YtoegmienlhgjnaaDoorPx4
namespace Go.Proofs.YtoegmienlhgjnaaDoor.P
open Go.RowKit Go.Proofs.YtoegmienlhgjnaaDoorW.PrintWords Go.Proofs.YtoegmienlhgjnaaDoorW.PrintLast Go.Proofs.YtoegmienlhgjnaaDoorW.PrintMore Go.Proofs.YtoegmienlhgjnaaDoor.FM
set_option linter.unusedVariables false
set_option linter.unusedSimpArgs false

theorem nvl_tr6 (l : List UInt8) : nvl l = nvl (tr l) * 10 ^ (l.length - (tr l).length) := by
  conv => lhs; rw [(tr_eq l).1]
  rw [nvl_append_zs]
theorem nz_of_last {t : List UInt8} (hd : Dig t) (h0 : t ≠ []) (hl : t.getLast? ≠ some 48) : 0 < nvl t := by
  rcases List.eq_nil_or_concat t with h | ⟨u, c, h⟩
  · exact absurd h h0
  · rw [List.concat_eq_append] at h
    have hc := hd c (by rw [h]; simp)
    rw [h, List.getLast?_concat] at hl
    rw [h, nvl_snoc]
    have : c.toNat ≠ 48 := by
      intro h2
      apply hl
      congr 1
      apply UInt8.toNat_inj.1
      exact h2
    omega
theorem held_mn (e : Int) : mn (mx e (-30000)) 30000 = held e := by
  unfold held mn mx
  repeat' split
  all_goals omega
def okM (m : Int) : Bool := decide (0 ≤ m ∧ m ≤ 6)
theorem Valid_ev (m : Int) : round_Mode_Valid.f m = some (okM m) := by
  unfold round_Mode_Valid.f okM
  by_cases h : m ≥ 0
  · rw [_root_.if_pos h]
    congr 1
    apply decide_eq_decide.2
    omega
  · rw [_root_.if_neg h, decide_eq_false (by omega)]
theorem up_ev (m : Int) (neg odd : Bool) (r : Int) : round_Mode_up.f m neg odd r = some (upf m neg odd r) := by
  unfold round_Mode_up.f upf
  by_cases h0 : r = 0
  · rw [_root_.if_pos h0, _root_.if_pos h0]
  rw [_root_.if_neg h0, _root_.if_neg h0]
  by_cases h1 : m = 0
  · rw [_root_.if_pos h1, _root_.if_pos h1]
    by_cases h3 : r = 3
    · rw [_root_.if_pos h3]; simp [h3]
    · rw [_root_.if_neg h3]
      by_cases h2 : r = 2
      · rw [_root_.if_pos h2]; simp [h2]
      · rw [_root_.if_neg h2]; simp [h2, h3]
  rw [_root_.if_neg h1, _root_.if_neg h1]
  repeat' split
  all_goals first | rfl | (exfalso; omega)
theorem tail_ev (l : List UInt8) (hl : l.length ≤ 1000000000) (hd : Dig l) : round_tail.f (S l) = some (restOf (nvl l) (10 ^ l.length)) := by
  unfold round_tail.f
  rw [TrimRight_zero l (by omega), Option.bind_some, S_toList]
  have he := tr_eq l
  have hlast := tr_last l
  have hdt := dig_tr hd
  have hnv := nvl_tr6 l
  by_cases h0 : tr l = []
  · rw [_root_.if_pos h0, hnv, h0, nvl_nil, Nat.zero_mul]
    simp [restOf]
  rw [_root_.if_neg h0]
  have hpos : 0 < nvl l := by
    rw [hnv]
    exact Nat.mul_pos (nz_of_last hdt h0 hlast) (Nat.pow_pos (by decide))
  obtain ⟨c, t, hct⟩ : ∃ c t, tr l = c :: t := by
    cases h : tr l with
    | nil => exact absurd h h0
    | cons c t => exact ⟨c, t, rfl⟩
  obtain ⟨j, hj⟩ : ∃ j, l.length - (tr l).length = j := ⟨_, rfl⟩
  have hle : l = c :: (t ++ zs j) := by
    have := he.1
    rw [hj, hct, List.cons_append] at this
    exact this
  have hdc := hd c (by rw [hle]; simp)
  have hdr : Dig (t ++ zs j) := fun x hx => hd x (by rw [hle]; exact List.mem_cons_of_mem _ hx)
  have hf := nvl_lt hdr
  have hv : nvl l = (c.toNat - 48) * 10 ^ (t ++ zs j).length + nvl (t ++ zs j) := by rw [hle, nvl_cons]
  have hlen : 10 ^ l.length = 10 ^ (t ++ zs j).length * 10 := by rw [hle, List.length_cons, Nat.pow_succ]
  have ht0 : t ≠ [] → 0 < nvl (t ++ zs j) := by
    intro ht
    rw [nvl_append_zs]
    refine Nat.mul_pos (nz_of_last (fun x hx => hdt x (by rw [hct]; exact List.mem_cons_of_mem _ hx)) ht ?_) (Nat.pow_pos (by decide))
    rw [hct] at hlast
    intro h
    apply hlast
    cases t with
    | nil => exact absurd rfl ht
    | cons d u => rw [List.getLast?_cons_cons]; exact h
  have hfe : t = [] → nvl (t ++ zs j) = 0 := by intro ht; rw [ht, List.nil_append, nvl_zs]
  obtain ⟨T, hT⟩ : ∃ T, 10 ^ (t ++ zs j).length = T := ⟨_, rfl⟩
  obtain ⟨f, hff⟩ : ∃ f, nvl (t ++ zs j) = f := ⟨_, rfl⟩
  rw [hT] at hf hv hlen
  rw [hff] at hf hv ht0 hfe
  rw [hlen, hv]
  rw [hv] at hpos
  have hb : bt (S (tr l)) 0 = (c.toNat : Int) := by rw [hct, bt_S]; rfl
  have c53 : tr l = [53] ↔ c.toNat = 53 ∧ t = [] := by
    rw [hct]
    constructor
    · intro h
      obtain ⟨h1, h2⟩ := List.cons.inj h
      exact ⟨by rw [h1]; rfl, h2⟩
    · rintro ⟨h1, h2⟩
      rw [h2]
      congr 1
      apply UInt8.toNat_inj.1
      exact h1
  obtain ⟨a, ha⟩ : ∃ a, c.toNat - 48 = a := ⟨_, rfl⟩
  rw [ha] at hpos ⊢
  have fin : ∀ r : Int, (a * T + f ≠ 0 → (2 * (a * T + f) < T * 10 → r = 1) ∧ (2 * (a * T + f) = T * 10 → r = 2) ∧ (T * 10 < 2 * (a * T + f) → r = 3)) → restOf (a * T + f) (T * 10) = r := by
    intro r h
    obtain ⟨h1, h2, h3⟩ := h (by omega)
    unfold restOf
    rw [_root_.if_neg (by omega)]
    split
    · rename_i g; exact (h1 g).symm
    · rename_i g
      split
      · rename_i g2; exact (h2 g2).symm
      · rename_i g2; exact (h3 (by omega)).symm
  have mono : ∀ b : Nat, (a ≤ b → a * T ≤ b * T) ∧ (b ≤ a → b * T ≤ a * T) := fun b => ⟨fun h => Nat.mul_le_mul_right T h, fun h => Nat.mul_le_mul_right T h⟩
  have m4 := mono 4
  have m5 := mono 5
  have m6 := mono 6
  clear mono
  by_cases h5 : tr l = [53]
  · rw [_root_.if_pos h5]
    obtain ⟨g1, g2⟩ := c53.1 h5
    have := hfe g2
    rw [fin 2 (fun _ => ⟨fun _ => by omega, fun _ => rfl, fun _ => by omega⟩)]
  · rw [_root_.if_neg h5, _root_.if_pos (by rw [S_size, hct, List.length_cons]; omega), hb]
    by_cases h6 : (c.toNat : Int) < 53
    · rw [_root_.if_pos h6, fin 1 (fun _ => ⟨fun _ => rfl, fun _ => by omega, fun _ => by omega⟩)]
    · rw [_root_.if_neg h6]
      have hne : c.toNat ≠ 53 ∨ t ≠ [] := by
        by_cases g : c.toNat = 53
        · exact .inr (fun g2 => h5 (c53.2 ⟨g, g2⟩))
        · exact .inl g
      have : a = 5 ∧ 0 < f ∨ 6 ≤ a := by
        by_cases g : c.toNat = 53
        · left
          rcases hne with h | h
          · exact absurd g h
          · exact ⟨by omega, ht0 h⟩
        · right; omega
      rw [fin 3 (fun _ => ⟨fun _ => by omega, fun _ => by omega, fun _ => rfl⟩)]
theorem odd_bits (n : Nat) (h1 : 48 ≤ n) (h2 : n ≤ 57) : (Go.bits .and .u8 (n : Int) 1 == 1) = decide ((n - 48) % 2 = 1) := by
  have : n = 48 ∨ n = 49 ∨ n = 50 ∨ n = 51 ∨ n = 52 ∨ n = 53 ∨ n = 54 ∨ n = 55 ∨ n = 56 ∨ n = 57 := by omega
  rcases this with rfl | rfl | rfl | rfl | rfl | rfl | rfl | rfl | rfl | rfl <;> decide
theorem odd_ev (l : List UInt8) (hl : l.length ≤ 1000000000) (hd : Dig l) : round_odd.f (S l) = some (decide (nvl l % 2 = 1)) := by
  unfold round_odd.f
  rw [S_toList]
  rcases List.eq_nil_or_concat l with h | ⟨t, c, h⟩
  · rw [_root_.if_pos h, h]; rfl
  · rw [List.concat_eq_append] at h
    have hne : l ≠ [] := by rw [h]; simp
    have hlen : l.length = t.length + 1 := by rw [h]; simp
    have hc := hd c (by rw [h]; simp)
    have hw : wrap64 (((S l).size : Int) - 1) = (t.length : Int) := by rw [S_size, w64 (by omega) (by omega)]; omega
    have hb : bt (S l) (t.length : Int) = (c.toNat : Int) := by
      rw [bt_S, Int.toNat_natCast, h, List.getD_eq_getElem?_getD, List.getElem?_append_right (Nat.le_refl _), Nat.sub_self]; rfl
    rw [_root_.if_neg hne, hw, _root_.if_pos (by omega), _root_.if_pos (by rw [S_size]; omega), hb, odd_bits c.toNat hc.1 hc.2]
    congr 1
    apply decide_eq_decide.2
    rw [h, nvl_snoc]
    omega
theorem step_ev (l : List UInt8) (hl : l.length ≤ 1000000000) (hd : Dig l) (b : Bool) : Ev (fun k => round_step.f k (S l) b) (S (mkl (nvl l + if b = true then 1 else 0))) := by
  unfold round_step.f
  cases b with
  | true =>
    refine Ev.if_pos rfl ?_
    have h := Add_ev l [49] (by unfold Sm; omega) (by unfold Sm; decide) hd (by unfold Dig; decide)
    rw [show nvl [49] = 1 by decide] at h
    exact Ev.bind h (Ev.now _)
  | false =>
    refine Ev.if_neg (by decide) (Ev.bind (Trim_dig l (by omega) hd) ?_)
    exact Ev.now _
theorem qn_len (m : Int) (neg : Bool) (n u : Nat) : (mkl (qn m neg n u)).length ≤ (mkl n).length + 1 := by
  apply mkl_length_le.2
  have h1 := lt_pow_length n
  have h2 : qn m neg n u ≤ n + 1 := by
    unfold qn
    have := Nat.div_le_self n u
    split <;> omega
  rw [Nat.pow_succ]
  omega
theorem At_ev {neg : Bool} {l : List UInt8} {e : Int} {d : D} (hv : Val neg l e d) (p m : Int) : Ev (fun k => round_At.f k neg (S l) e p m) (tri (if okM m = true then atD m d (held p) else d)) := by
  have hr := held_range p
  unfold round_At.f
  refine Ev.bind hv.norm ?_
  rw [held_mn]
  have same : Ev (fun k => round_At.j0 k (held p) m true (tri d).1 (tri d).2.1 (tri d).2.2) (tri d) := Ev.step (fun k => (by rw [round_At.j0, _root_.if_pos rfl])) (Ev.now _)
  obtain ⟨f1, f2, f3⟩ := hv.few
  by_cases h : d.e ≥ held p
  · refine Ev.if_pos h ?_
    have e1 : (if okM m = true then atD m d (held p) else d) = d := by
      split
      · unfold atD; rw [_root_.if_pos h]
      · rfl
    rw [e1]
    exact same
  refine Ev.if_neg h (Ev.const (Valid_ev m) ?_)
  cases hm : okM m with
  | false =>
    rw [_root_.if_neg (by decide)]
    exact same
  | true =>
    rw [_root_.if_pos rfl]
    unfold atD
    rw [_root_.if_neg h]
    obtain ⟨q, hq⟩ : ∃ q : Nat, (held p - d.e).toNat = q := ⟨_, rfl⟩
    have hq2 : held p - d.e = (q : Int) := by omega
    have hpl := padL_length q d.m
    have htd := nvl_take_drop (dig_padL q d.m) (q := q) (by omega)
    rw [nvl_padL] at htd
    have hz : wrap64 (wrap64 (held p - (tri d).2.2) - (((tri d).2.1).size : Int)) = (q : Int) - (mkl d.m).length := by
      rw [tri3, tri2, S_size, w64 (x := held p - d.e) (by omega) (by omega), w64 (by omega) (by omega)]; omega
    have hc1 : wrap64 (held p - (tri d).2.2) = (q : Int) := by rw [tri3, w64 (by omega) (by omega)]; exact hq2
    refine Ev.step (fun k => (by rw [round_At.j0, hz, hc1, Bool.not_true, _root_.if_neg (by decide), tri2, tri1])) ?_
    refine Ev.const (Zeros_ev _) ?_
    rw [show min ((q : Int) - ((mkl d.m).length : Int)).toNat 60000 = q - (mkl d.m).length by omega, S_append, show zs (q - (mkl d.m).length) ++ mkl d.m = padL q d.m from rfl]
    have hcut : wrap64 (((S (padL q d.m)).size : Int) - (q : Int)) = (((padL q d.m).length - q : Nat) : Int) := by
      rw [S_size, w64 (by omega) (by omega)]; omega
    rw [hcut, S_size (zs _), S_size (mkl d.m), zs_length]
    refine Ev.if_pos (by omega) (Ev.if_pos (by omega) (Ev.if_pos (by rw [S_size]; omega) ?_))
    rw [Int.toNat_natCast, S_extract, List.drop_zero, S_size, S_extract, List.take_length]
    have hlb : ((padL q d.m).drop ((padL q d.m).length - q)).length = q := by rw [List.length_drop]; omega
    have hlh : ((padL q d.m).take ((padL q d.m).length - q)).length ≤ 100000000 := by rw [List.length_take]; omega
    have ho := odd_ev ((padL q d.m).take ((padL q d.m).length - q)) (by omega) ((dig_padL q d.m).take _)
    have ht := tail_ev ((padL q d.m).drop ((padL q d.m).length - q)) (by omega) ((dig_padL q d.m).drop _)
    rw [htd.1] at ho
    rw [htd.2, hlb] at ht
    refine Ev.const ho (Ev.const ht (Ev.const (up_ev m d.neg _ _) ?_))
    have hst := step_ev ((padL q d.m).take ((padL q d.m).length - q)) (by omega) ((dig_padL q d.m).take _) (upf m d.neg (decide (d.m / 10 ^ q % 2 = 1)) (restOf (d.m % 10 ^ q) (10 ^ q)))
    rw [htd.1] at hst
    refine Ev.bind hst ?_
    rw [hq]
    have hqn : d.m / 10 ^ q + (if upf m d.neg (decide (d.m / 10 ^ q % 2 = 1)) (restOf (d.m % 10 ^ q) (10 ^ q)) = true then 1 else 0) = qn m d.neg d.m (10 ^ q) := rfl
    rw [hqn]
    have hlen := qn_len m d.neg d.m (10 ^ q)
    exact Ev.bind (Made_tri d.neg _ (by omega) (held p)) (Ev.now _)
theorem At_dk {neg : Bool} {l : List UInt8} {e : Int} {K M : Nat} {z : Int} (hp : Plc M K z) (hM : M ≤ 28000) (hv : Val neg l e (FM.dk K z)) {p m : Int} (h0 : 0 ≤ p + K) (h1 : p + K ≤ M) (hm0 : 0 ≤ m) (hm : m ≤ 6) :
    Ev (fun k => round_At.f k neg (S l) e p m) (tri (FM.dk K (rnd m z (10 ^ (p + K).toNat)))) := by
  have h := At_ev hv p m
  have hK := hp.hK
  rw [show okM m = true from decide_eq_true ⟨hm0, hm⟩, _root_.if_pos rfl, held_of (by omega) (by omega), atD_dk hp.hK hM hp.hz h0 h1] at h
  exact h
def whN (i : D) : Int × Bool := if i.m < 10 ^ 18 then ((i.m : Int), !i.neg && decide (1 ≤ i.m ∧ i.m ≤ 1000000000)) else (0, false)
theorem whole_ev {i : D} (hi : nrm i.neg i.m i.e = i) (hf : Few i) : Ev (fun k => round_whole.f k (tri i).1 (tri i).2.1 (tri i).2.2) (whN i) := by
  unfold round_whole.f
  have hn := Norm_tri i hf
  rw [hi] at hn
  refine Ev.bind hn ?_
  unfold whN
  by_cases h18 : i.m < 10 ^ 18
  · rw [_root_.if_pos h18]
    have hI := Int_ev (mkl i.m) (by have := hf.1; unfold Sm; omega) (dig_mkl _) (by rw [nvl_mkl]; exact h18)
    rw [nvl_mkl] at hI
    refine Ev.bind hI (Ev.if_pos rfl ?_)
    rw [tri1]
    cases hneg : i.neg with
    | true => exact Ev.if_pos rfl (Ev.now _)
    | false =>
      refine Ev.if_neg (by decide) ?_
      by_cases h1 : (i.m : Int) ≥ 1
      · refine Ev.if_pos h1 ?_
        have e1 : decide ((i.m : Int) ≤ 1000000000) = (!false && decide (1 ≤ i.m ∧ i.m ≤ 1000000000)) := by
          rw [Bool.not_false, Bool.true_and]; apply decide_eq_decide.2; omega
        dsimp only
        rw [e1]
        exact Ev.now _
      · refine Ev.if_neg h1 ?_
        rw [show (!false && decide (1 ≤ i.m ∧ i.m ≤ 1000000000)) = false by rw [decide_eq_false (by omega)]; rfl]
        exact Ev.now _
  · rw [_root_.if_neg h18]
    have hI := Int_long (mkl i.m) (by have := hf.1; unfold Sm; omega) (dig_mkl _) (by rw [nvl_mkl]; omega)
    exact Ev.bind hI (Ev.if_neg (by decide) (Ev.now _))
theorem between_ev (left n : Nat) (back : List UInt8) (hb : back.length ≤ 1000000000) (hd : Dig back) (hl : left < n) (hn : n ≤ 1000000000) :
    Ev (fun k => round_between.f k (left : Int) (S back) (n : Int)) (restOf (left * 10 ^ back.length + nvl back) (n * 10 ^ back.length)) := by
  rw [restOf_two (nvl_lt hd) hl]
  unfold round_between.f
  refine Ev.const (tail_ev back hb hd) ?_
  have ht := restOf_range (nvl back) (10 ^ back.length)
  obtain ⟨t, htt⟩ : ∃ t, restOf (nvl back) (10 ^ back.length) = t := ⟨_, rfl⟩
  rw [htt] at ht ⊢
  rw [w64 (x := 2 * (left : Int)) (by omega) (by omega), w64 (by omega) (by omega)]
  obtain ⟨d, hdd⟩ : ∃ d, (n : Int) - 2 * left = d := ⟨_, rfl⟩
  rw [hdd]
  have j2 : ∀ b, b = decide (d = 1 ∧ t = 2) → Ev (fun k => round_between.j2 k t d b) (if (d = 1 ∧ t = 2) ∨ (d = 0 ∧ t = 0) then 2 else 3) := by
    intro b hb
    refine Ev.step (fun k => (by rw [round_between.j2])) ?_
    by_cases g : d = 1 ∧ t = 2
    · rw [hb, decide_eq_true g]
      refine Ev.if_pos rfl ?_
      rw [_root_.if_pos (Or.inl g)]
      exact Ev.now _
    · rw [hb, decide_eq_false g]
      refine Ev.if_neg (by decide) ?_
      by_cases g0 : d = 0
      · refine Ev.if_pos g0 ?_
        by_cases g1 : t = 0
        · refine Ev.if_pos g1 ?_
          rw [_root_.if_pos (Or.inr ⟨g0, g1⟩)]; exact Ev.now _
        · refine Ev.if_neg g1 ?_
          rw [_root_.if_neg (fun h => Or.elim h g (fun h => g1 h.2))]; exact Ev.now _
      · refine Ev.if_neg g0 ?_
        rw [_root_.if_neg (fun h => Or.elim h g (fun h => g0 h.1))]; exact Ev.now _
  have j1 : ∀ b, b = decide (2 ≤ d ∨ (d = 1 ∧ t < 2)) → Ev (fun k => round_between.j1 k t d b) (if 2 ≤ d ∨ (d = 1 ∧ t < 2) then 1 else if (d = 1 ∧ t = 2) ∨ (d = 0 ∧ t = 0) then 2 else 3) := by
    intro b hb
    refine Ev.step (fun k => (by rw [round_between.j1])) ?_
    by_cases g : 2 ≤ d ∨ (d = 1 ∧ t < 2)
    · rw [hb, decide_eq_true g, _root_.if_pos g]
      exact Ev.if_pos rfl (Ev.now _)
    · rw [hb, decide_eq_false g, _root_.if_neg g]
      refine Ev.if_neg (by decide) ?_
      by_cases g1 : d = 1
      · refine Ev.if_pos g1 (j2 _ ?_)
        rw [show (t == 2) = decide (t = 2) from rfl]
        apply decide_eq_decide.2
        exact ⟨fun h => ⟨g1, h⟩, fun h => h.2⟩
      · refine Ev.if_neg g1 (j2 _ ?_)
        exact (decide_eq_false (fun h => g1 h.1)).symm
  have j0 : ∀ b, b = decide (left = 0 ∧ t = 0) → Ev (fun k => round_between.j0 k t d b) (if left = 0 ∧ t = 0 then 0 else if 2 ≤ d ∨ (d = 1 ∧ t < 2) then 1 else if (d = 1 ∧ t = 2) ∨ (d = 0 ∧ t = 0) then 2 else 3) := by
    intro b hb
    refine Ev.step (fun k => (by rw [round_between.j0])) ?_
    by_cases g : left = 0 ∧ t = 0
    · rw [hb, decide_eq_true g, _root_.if_pos g]
      exact Ev.if_pos rfl (Ev.now _)
    · rw [hb, decide_eq_false g, _root_.if_neg g]
      refine Ev.if_neg (by decide) ?_
      by_cases g2 : d ≥ 2
      · exact Ev.if_pos g2 (j1 _ (decide_eq_decide.2 (by omega)))
      · refine Ev.if_neg g2 ?_
        by_cases g1 : d = 1
        · exact Ev.if_pos g1 (j1 _ (decide_eq_decide.2 (by omega)))
        · exact Ev.if_neg g1 (j1 _ (decide_eq_false (by omega)).symm)
  by_cases h0 : (left : Int) = 0
  · refine Ev.if_pos h0 (j0 _ ?_)
    rw [show (t == 0) = decide (t = 0) from rfl]
    apply decide_eq_decide.2
    omega
  · exact Ev.if_neg h0 (j0 _ (decide_eq_false (by omega)).symm)
theorem len_succ {a b L : Nat} (h : (mkl a).length ≤ L) (hb : b ≤ a + 1) : (mkl b).length ≤ L + 1 := by
  apply mkl_length_le.2
  have := mkl_length_le.1 h
  rw [Nat.pow_succ]; omega
theorem len_times {a n L : Nat} (h : (mkl a).length ≤ L) (hn : n ≤ 1000000000) : (mkl (a * n)).length ≤ L + 11 := by
  apply mkl_length_le.2
  have h1 := mkl_length_le.1 h
  have h2 : a * n ≤ a * 10 ^ 10 := Nat.mul_le_mul_left _ (Nat.le_trans hn (by decide))
  refine Nat.lt_of_le_of_lt h2 ?_
  have := Nat.mul_lt_mul_of_pos_right h1 (Nat.pow_pos (n := 10) (by decide : 0 < 10))
  rw [← Nat.pow_add] at this
  exact Nat.lt_of_lt_of_le this (Nat.pow_le_pow_right (by decide) (by omega))
theorem made_same {d : D} (hi : nrm d.neg d.m d.e = d) {b : Bool} {x : Int} (h1 : -30000 ≤ x) (h2 : x ≤ 30000) : (nrm b d.m x).m = d.m ∧ (0 < d.m → (nrm b d.m x).e = x) := by
  rcases Nat.eq_zero_or_pos d.m with h | h
  · rw [h, nrm_zero]; exact ⟨rfl, fun h => absurd h (by decide)⟩
  · have hst : st d.m = (d.m, 0) := by
      have h3 := congrArg D.m hi
      rw [nrm_m] at h3
      have h4 := st_st h
      rw [h3] at h4
      exact h4
    rw [nrm_pos h, hst]
    refine ⟨rfl, fun _ => ?_⟩
    show held (held x + ((0 : Nat) : Int)) = x
    rw [held_of (x := x) h1 h2, Int.natCast_zero, Int.add_zero, held_of h1 h2]
theorem mod_two (a n c : Nat) : a % (n * 10 ^ c) = a / 10 ^ c % n * 10 ^ c + a % 10 ^ c := by
  rw [Nat.mul_comm n, Nat.mod_mul, Nat.mul_comm (10 ^ c) (a / 10 ^ c % n), Nat.add_comm]
theorem Step_ev {neg neg2 : Bool} {l l2 : List UInt8} {e e2 : Int} {d i : D} (hv : Val neg l e d) (hv2 : Val neg2 l2 e2 i) (m : Int) (hd : -30000 ≤ d.e - i.e) (hd2 : d.e - i.e ≤ 30000) :
    Ev (fun k => round_Step.f k neg (S l) e neg2 (S l2) e2 m) (tri (if (whN i).2 = true ∧ okM m = true then stD m d i.m i.e else d)) := by
  unfold round_Step.f
  have hdi := hv.again.nrm
  rw [nvl_mkl] at hdi
  have hii := hv2.again.nrm
  rw [nvl_mkl] at hii
  refine Ev.bind hv.norm (Ev.bind hv2.norm (Ev.bind (whole_ev hii hv2.few) ?_))
  have same : ∀ x, Ev (fun k => round_Step.j0 k m x true (tri d).1 (tri d).2.1 (tri d).2.2 (tri i).1 (tri i).2.1 (tri i).2.2) (tri d) := fun x => Ev.step (fun k => (by rw [round_Step.j0, _root_.if_pos rfl])) (Ev.now _)
  by_cases hw : (whN i).2 = true
  case neg =>
    rw [_root_.if_neg (fun h => hw h.1)]
    exact Ev.if_neg hw (same _)
  refine Ev.if_pos hw (Ev.const (Valid_ev m) ?_)
  cases hm : okM m with
  | false =>
    rw [_root_.if_neg (fun h => by cases h.2)]
    exact same _
  | true =>
    rw [_root_.if_pos ⟨hw, rfl⟩]
    obtain ⟨hn1, hn2, hn3⟩ : (whN i).1 = (i.m : Int) ∧ 1 ≤ i.m ∧ i.m ≤ 1000000000 := by
      unfold whN at hw ⊢
      split
      · rename_i h
        rw [_root_.if_pos h] at hw
        simp only [Bool.and_eq_true, decide_eq_true_eq] at hw
        exact ⟨rfl, hw.2.1, hw.2.2⟩
      · rename_i h
        rw [_root_.if_neg h] at hw
        cases hw
    rw [hn1]
    obtain ⟨n, hn⟩ : ∃ n, i.m = n := ⟨_, rfl⟩
    rw [hn] at hn2 hn3 ⊢
    obtain ⟨f1, f2, f3⟩ := hv.few
    have hE : wrap64 ((tri d).2.2 - (tri i).2.2) = d.e - i.e := by rw [tri3, tri3, w64 (by omega) (by omega)]
    refine Ev.step (fun k => (by rw [round_Step.j0, Bool.not_true, _root_.if_neg (by decide), hE, tri2, tri1, tri3])) ?_
    refine Ev.bind (Made_tri false d.m (by omega) (d.e - i.e)) ?_
    obtain ⟨s1, s2⟩ := made_same hdi (b := false) hd hd2
    have hfy : Few (nrm false d.m (d.e - i.e)) := few_nrm f1
    have hp := Parts_tri _ hfy
    rw [nrm_idem] at hp
    refine Ev.bind hp ?_
    dsimp only
    have lw := wholeN_len_le hfy
    have lp := partL_length (nrm false d.m (d.e - i.e)).m (nrm false d.m (d.e - i.e)).e
    have vp := nvl_partL (nrm false d.m (d.e - i.e)).m (nrm false d.m (d.e - i.e)).e
    have dp := dig_partL (nrm false d.m (d.e - i.e)).m (nrm false d.m (d.e - i.e)).e
    have hlpl : (partL (nrm false d.m (d.e - i.e)).m (nrm false d.m (d.e - i.e)).e).length ≤ 30000 := by
      rw [lp]; have := hfy.2.1; omega
    -- what the digits ahead of the point and behind it are
    have key : ∃ c f W : Nat, (partL (nrm false d.m (d.e - i.e)).m (nrm false d.m (d.e - i.e)).e).length = c ∧ nvl (partL (nrm false d.m (d.e - i.e)).m (nrm false d.m (d.e - i.e)).e) = f ∧ wholeN (nrm false d.m (d.e - i.e)).m (nrm false d.m (d.e - i.e)).e = W ∧
        W / n + (if upf m d.neg (decide (W / n % 2 = 1)) (restOf (W % n * 10 ^ c + f) (n * 10 ^ c)) = true then 1 else 0) = (if 0 ≤ d.e - i.e then qn m d.neg (d.m * 10 ^ (d.e - i.e).toNat) n else qn m d.neg d.m (n * 10 ^ (i.e - d.e).toNat)) := by
      refine ⟨_, _, _, rfl, rfl, rfl, ?_⟩
      rw [lp, vp]
      rcases Nat.eq_zero_or_pos d.m with h0 | h0
      · have e1 : nrm false d.m (d.e - i.e) = D0 := by rw [h0, nrm_zero]
        rw [e1, h0]
        have e2 : wholeN D0.m D0.e = 0 := by decide
        have e3 : (-D0.e).toNat = 0 := rfl
        rw [e2, e3, show D0.m = 0 from rfl, Nat.pow_zero, Nat.mul_one, Nat.mul_one, Nat.zero_mod, Nat.zero_mul, Nat.zero_mod, Nat.zero_div]
        have e4 : ∀ u : Nat, qn m d.neg 0 u = 0 := by
          intro u; unfold qn; simp only [Nat.zero_div, Nat.zero_mod]
          rw [show restOf 0 u = 0 by simp [restOf], upf_zero]; rfl
        rw [e4, e4, ite_self]
        rw [show restOf (0 + 0) n = 0 by simp [restOf], upf_zero]; rfl
      · rw [s1, s2 h0]
        unfold wholeN
        by_cases hge : 0 ≤ d.e - i.e
        · rw [_root_.if_pos hge, _root_.if_pos hge, show (-(d.e - i.e)).toNat = 0 by omega, Nat.pow_zero, Nat.mod_one, Nat.mul_one, Nat.mul_one, Nat.add_zero]
          rfl
        · rw [_root_.if_neg hge, _root_.if_neg hge, show (-(d.e - i.e)).toNat = (i.e - d.e).toNat by omega]
          unfold qn
          rw [mod_two, Nat.div_div_eq_div_mul, Nat.mul_comm (10 ^ (i.e - d.e).toNat) n]
    obtain ⟨c, f, W, k1, k2, k3, k4⟩ := key
    have hb := between_ev (W % n) n _ (by omega) dp (Nat.mod_lt _ (by omega)) hn3
    rw [k1, k2] at hb
    rw [k3] at lw ⊢
    have hdiv := Div_ev (mkl W) (by unfold Sm; omega) (dig_mkl _) n hn2 hn3
    rw [nvl_mkl] at hdiv
    have lq : (mkl (W / n)).length ≤ 100030000 := Nat.le_trans (mkl_length_mono (Nat.div_le_self _ _)) lw
    have hodd := odd_ev (mkl (W / n)) (by omega) (dig_mkl _)
    rw [nvl_mkl] at hodd
    refine Ev.bind hdiv (Ev.const hodd (Ev.bind hb (Ev.const (up_ev m d.neg _ _) ?_)))
    have hst := step_ev (mkl (W / n)) (by omega) (dig_mkl _) (upf m d.neg (decide (W / n % 2 = 1)) (restOf (W % n * 10 ^ c + f) (n * 10 ^ c)))
    rw [nvl_mkl, k4] at hst
    refine Ev.bind hst ?_
    unfold stD
    obtain ⟨Q, hQ⟩ : ∃ Q, (if 0 ≤ d.e - i.e then qn m d.neg (d.m * 10 ^ (d.e - i.e).toNat) n else qn m d.neg d.m (n * 10 ^ (i.e - d.e).toNat)) = Q := ⟨_, rfl⟩
    rw [hQ] at k4 ⊢
    have lQ := len_succ (b := Q) lq (by rw [← k4]; split <;> omega)
    have htm := Times_ev (mkl Q) (by unfold Sm; omega) (dig_mkl _) n hn3
    rw [nvl_mkl] at htm
    refine Ev.bind htm ?_
    have lQn := len_times lQ hn3
    exact Ev.bind (Made_tri d.neg (Q * n) (by omega) i.e) (Ev.now _)
end Go.Proofs.YtoegmienlhgjnaaDoor.P
