import Derived.Test.YthkpmiajcmihjaaGreatDoorDA
import Derived.Test.YthkpmiajcmihjaaGreatDoorMA
import Derived.Test.YthkpmiajcmihjaaGreatDoorPx11
import Derived.Test.YthkpmiajcmihjaaGreatDoorPx12
import Derived.Test.YthkpmiajcmihjaaGreatDoorPx13
import Derived.Test.YthkpmiajcmihjaaGreatDoorPx14
import Derived.Test.YthkpmiajcmihjaaGreatDoorPx2
import Derived.Test.YthkpmiajcmihjaaGreatDoorPx3
import Derived.Test.YthkpmiajcmihjaaGreatDoorPx4
import Derived.Test.YthkpmiajcmihjaaGreatDoorPx5
import Derived.Test.YthkpmiajcmihjaaGreatDoorPx6
import Derived.Test.YthkpmiajcmihjaaGreatDoorPx7
import Derived.Test.YthkpmiajcmihjaaGreatDoorPx8
import Derived.Test.YthkpmiajcmihjaaGreatDoorPx9
namespace Go.Proofs.YthkpmiajcmihjaaGreatDoor.P
open Go.RowKit Go.Proofs.YthkpmiajcmihjaaGreatDoorW.PrintWords Go.Proofs.YthkpmiajcmihjaaGreatDoorW.PrintLast Go.Proofs.YthkpmiajcmihjaaGreatDoorW.PrintMore Go.Proofs.YthkpmiajcmihjaaGreatDoor.FM
set_option linter.unusedVariables false
set_option linter.unusedSimpArgs false

theorem nvl_tr6 (l : List UInt8) : nvl l = nvl (tr l) * 10 ^ (l.length - (tr l).length) := by
  conv => lhs; rw [(tr_eq l).1]
  rw [nvl_append_zs]
theorem nz_of_last {t : List UInt8} (hd : Dig t) (h0 : t ≠ []) (hl : t.getLast? ≠ some 48) : 0 < nvl t := by
  rcases List.eq_nil_or_concat t with h | ⟨u, c, h⟩
  · exact absurd h h0
  · rw [List.concat_eq_append] at h
    have hc := hd c (by rw [h]; simp)
    rw [h, List.getLast?_concat] at hl
    rw [h, nvl_snoc]
    have : c.toNat ≠ 48 := by
      intro h2
      apply hl
      congr 1
      apply UInt8.toNat_inj.1
      exact h2
    omega
theorem held_mn (e : Int) : mn (mx e (-30000)) 30000 = held e := by
  unfold held mn mx
  repeat' split
  all_goals omega
def okM (m : Int) : Bool := decide (0 ≤ m ∧ m ≤ 6)
theorem Valid_ev (m : Int) : round_Mode_Valid.f m = some (okM m) := by
  unfold round_Mode_Valid.f okM
  by_cases h : m ≥ 0
  · rw [_root_.if_pos h]
    congr 1
    apply decide_eq_decide.2
    omega
  · rw [_root_.if_neg h, decide_eq_false (by omega)]
theorem up_ev (m : Int) (neg odd : Bool) (r : Int) : round_Mode_up.f m neg odd r = some (upf m neg odd r) := by
  unfold round_Mode_up.f upf
  by_cases h0 : r = 0
  · rw [_root_.if_pos h0, _root_.if_pos h0]
  rw [_root_.if_neg h0, _root_.if_neg h0]
  by_cases h1 : m = 0
  · rw [_root_.if_pos h1, _root_.if_pos h1]
    by_cases h3 : r = 3
    · rw [_root_.if_pos h3]; simp [h3]
    · rw [_root_.if_neg h3]
      by_cases h2 : r = 2
      · rw [_root_.if_pos h2]; simp [h2]
      · rw [_root_.if_neg h2]; simp [h2, h3]
  rw [_root_.if_neg h1, _root_.if_neg h1]
  repeat' split
  all_goals first | rfl | (exfalso; omega)
theorem tail_ev (l : List UInt8) (hl : l.length ≤ 1000000000) (hd : Dig l) : round_tail.f (S l) = some (restOf (nvl l) (10 ^ l.length)) := by
  unfold round_tail.f
  rw [TrimRight_zero l (by omega), Option.bind_some, S_toList]
  have he := tr_eq l
  have hlast := tr_last l
  have hdt := dig_tr hd
  have hnv := nvl_tr6 l
  by_cases h0 : tr l = []
  · rw [_root_.if_pos h0, hnv, h0, nvl_nil, Nat.zero_mul]
    simp [restOf]
  rw [_root_.if_neg h0]
  have hpos : 0 < nvl l := by
    rw [hnv]
    exact Nat.mul_pos (nz_of_last hdt h0 hlast) (Nat.pow_pos (by decide))
  obtain ⟨c, t, hct⟩ : ∃ c t, tr l = c :: t := by
    cases h : tr l with
    | nil => exact absurd h h0
    | cons c t => exact ⟨c, t, rfl⟩
  obtain ⟨j, hj⟩ : ∃ j, l.length - (tr l).length = j := ⟨_, rfl⟩
  have hle : l = c :: (t ++ zs j) := by
    have := he.1
    rw [hj, hct, List.cons_append] at this
    exact this
  have hdc := hd c (by rw [hle]; simp)
  have hdr : Dig (t ++ zs j) := fun x hx => hd x (by rw [hle]; exact List.mem_cons_of_mem _ hx)
  have hf := nvl_lt hdr
  have hv : nvl l = (c.toNat - 48) * 10 ^ (t ++ zs j).length + nvl (t ++ zs j) := by rw [hle, nvl_cons]
  have hlen : 10 ^ l.length = 10 ^ (t ++ zs j).length * 10 := by rw [hle, List.length_cons, Nat.pow_succ]
  have ht0 : t ≠ [] → 0 < nvl (t ++ zs j) := by
    intro ht
    rw [nvl_append_zs]
    refine Nat.mul_pos (nz_of_last (fun x hx => hdt x (by rw [hct]; exact List.mem_cons_of_mem _ hx)) ht ?_) (Nat.pow_pos (by decide))
    rw [hct] at hlast
    intro h
    apply hlast
    cases t with
    | nil => exact absurd rfl ht
    | cons d u => rw [List.getLast?_cons_cons]; exact h
  have hfe : t = [] → nvl (t ++ zs j) = 0 := by intro ht; rw [ht, List.nil_append, nvl_zs]
  obtain ⟨T, hT⟩ : ∃ T, 10 ^ (t ++ zs j).length = T := ⟨_, rfl⟩
  obtain ⟨f, hff⟩ : ∃ f, nvl (t ++ zs j) = f := ⟨_, rfl⟩
  rw [hT] at hf hv hlen
  rw [hff] at hf hv ht0 hfe
  rw [hlen, hv]
  rw [hv] at hpos
  have hb : bt (S (tr l)) 0 = (c.toNat : Int) := by rw [hct, bt_S]; rfl
  have c53 : tr l = [53] ↔ c.toNat = 53 ∧ t = [] := by
    rw [hct]
    constructor
    · intro h
      obtain ⟨h1, h2⟩ := List.cons.inj h
      exact ⟨by rw [h1]; rfl, h2⟩
    · rintro ⟨h1, h2⟩
      rw [h2]
      congr 1
      apply UInt8.toNat_inj.1
      exact h1
  obtain ⟨a, ha⟩ : ∃ a, c.toNat - 48 = a := ⟨_, rfl⟩
  rw [ha] at hpos ⊢
  have fin : ∀ r : Int, (a * T + f ≠ 0 → (2 * (a * T + f) < T * 10 → r = 1) ∧ (2 * (a * T + f) = T * 10 → r = 2) ∧ (T * 10 < 2 * (a * T + f) → r = 3)) → restOf (a * T + f) (T * 10) = r := by
    intro r h
    obtain ⟨h1, h2, h3⟩ := h (by omega)
    unfold restOf
    rw [_root_.if_neg (by omega)]
    split
    · rename_i g; exact (h1 g).symm
    · rename_i g
      split
      · rename_i g2; exact (h2 g2).symm
      · rename_i g2; exact (h3 (by omega)).symm
  have mono : ∀ b : Nat, (a ≤ b → a * T ≤ b * T) ∧ (b ≤ a → b * T ≤ a * T) := fun b => ⟨fun h => Nat.mul_le_mul_right T h, fun h => Nat.mul_le_mul_right T h⟩
  have m4 := mono 4
  have m5 := mono 5
  have m6 := mono 6
  clear mono
  by_cases h5 : tr l = [53]
  · rw [_root_.if_pos h5]
    obtain ⟨g1, g2⟩ := c53.1 h5
    have := hfe g2
    rw [fin 2 (fun _ => ⟨fun _ => by omega, fun _ => rfl, fun _ => by omega⟩)]
  · rw [_root_.if_neg h5, _root_.if_pos (by rw [S_size, hct, List.length_cons]; omega), hb]
    by_cases h6 : (c.toNat : Int) < 53
    · rw [_root_.if_pos h6, fin 1 (fun _ => ⟨fun _ => rfl, fun _ => by omega, fun _ => by omega⟩)]
    · rw [_root_.if_neg h6]
      have hne : c.toNat ≠ 53 ∨ t ≠ [] := by
        by_cases g : c.toNat = 53
        · exact .inr (fun g2 => h5 (c53.2 ⟨g, g2⟩))
        · exact .inl g
      have : a = 5 ∧ 0 < f ∨ 6 ≤ a := by
        by_cases g : c.toNat = 53
        · left
          rcases hne with h | h
          · exact absurd g h
          · exact ⟨by omega, ht0 h⟩
        · right; omega
      rw [fin 3 (fun _ => ⟨fun _ => by omega, fun _ => by omega, fun _ => rfl⟩)]
theorem odd_bits (n : Nat) (h1 : 48 ≤ n) (h2 : n ≤ 57) : (Go.bits .and .u8 (n : Int) 1 == 1) = decide ((n - 48) % 2 = 1) := by
  have : n = 48 ∨ n = 49 ∨ n = 50 ∨ n = 51 ∨ n = 52 ∨ n = 53 ∨ n = 54 ∨ n = 55 ∨ n = 56 ∨ n = 57 := by omega
  rcases this with rfl | rfl | rfl | rfl | rfl | rfl | rfl | rfl | rfl | rfl <;> decide
theorem odd_ev (l : List UInt8) (hl : l.length ≤ 1000000000) (hd : Dig l) : round_odd.f (S l) = some (decide (nvl l % 2 = 1)) := by
  unfold round_odd.f
  rw [S_toList]
  rcases List.eq_nil_or_concat l with h | ⟨t, c, h⟩
  · rw [_root_.if_pos h, h]; rfl
  · rw [List.concat_eq_append] at h
    have hne : l ≠ [] := by rw [h]; simp
    have hlen : l.length = t.length + 1 := by rw [h]; simp
    have hc := hd c (by rw [h]; simp)
    have hw : wrap64 (((S l).size : Int) - 1) = (t.length : Int) := by rw [S_size, w64 (by omega) (by omega)]; omega
    have hb : bt (S l) (t.length : Int) = (c.toNat : Int) := by
      rw [bt_S, Int.toNat_natCast, h, List.getD_eq_getElem?_getD, List.getElem?_append_right (Nat.le_refl _), Nat.sub_self]; rfl
    rw [_root_.if_neg hne, hw, _root_.if_pos (by omega), _root_.if_pos (by rw [S_size]; omega), hb, odd_bits c.toNat hc.1 hc.2]
    congr 1
    apply decide_eq_decide.2
    rw [h, nvl_snoc]
    omega
theorem step_ev (l : List UInt8) (hl : l.length ≤ 1000000000) (hd : Dig l) (b : Bool) : Ev (fun k => round_step.f k (S l) b) (S (mkl (nvl l + if b = true then 1 else 0))) := by
  unfold round_step.f
  cases b with
  | true =>
    refine Ev.if_pos rfl ?_
    have h := Add_ev l [49] (by unfold Sm; omega) (by unfold Sm; decide) hd (by unfold Dig; decide)
    rw [show nvl [49] = 1 by decide] at h
    exact Ev.bind h (Ev.now _)
  | false =>
    refine Ev.if_neg (by decide) (Ev.bind (Trim_dig l (by omega) hd) ?_)
    exact Ev.now _
theorem qn_len (m : Int) (neg : Bool) (n u : Nat) : (mkl (qn m neg n u)).length ≤ (mkl n).length + 1 := by
  apply mkl_length_le.2
  have h1 := lt_pow_length n
  have h2 : qn m neg n u ≤ n + 1 := by
    unfold qn
    have := Nat.div_le_self n u
    split <;> omega
  rw [Nat.pow_succ]
  omega
theorem At_ev {neg : Bool} {l : List UInt8} {e : Int} {d : D} (hv : Val neg l e d) (p m : Int) : Ev (fun k => round_At.f k neg (S l) e p m) (tri (if okM m = true then atD m d (held p) else d)) := by
  have hr := held_range p
  unfold round_At.f
  refine Ev.bind hv.norm ?_
  rw [held_mn]
  have same : Ev (fun k => round_At.j0 k (held p) m true (tri d).1 (tri d).2.1 (tri d).2.2) (tri d) := Ev.step (fun k => (by rw [round_At.j0, _root_.if_pos rfl])) (Ev.now _)
  obtain ⟨f1, f2, f3⟩ := hv.few
  by_cases h : d.e ≥ held p
  · refine Ev.if_pos h ?_
    have e1 : (if okM m = true then atD m d (held p) else d) = d := by
      split
      · unfold atD; rw [_root_.if_pos h]
      · rfl
    rw [e1]
    exact same
  refine Ev.if_neg h (Ev.const (Valid_ev m) ?_)
  cases hm : okM m with
  | false =>
    rw [_root_.if_neg (by decide)]
    exact same
  | true =>
    rw [_root_.if_pos rfl]
    unfold atD
    rw [_root_.if_neg h]
    obtain ⟨q, hq⟩ : ∃ q : Nat, (held p - d.e).toNat = q := ⟨_, rfl⟩
    have hq2 : held p - d.e = (q : Int) := by omega
    have hpl := padL_length q d.m
    have htd := nvl_take_drop (dig_padL q d.m) (q := q) (by omega)
    rw [nvl_padL] at htd
    have hz : wrap64 (wrap64 (held p - (tri d).2.2) - (((tri d).2.1).size : Int)) = (q : Int) - (mkl d.m).length := by
      rw [tri3, tri2, S_size, w64 (x := held p - d.e) (by omega) (by omega), w64 (by omega) (by omega)]; omega
    have hc1 : wrap64 (held p - (tri d).2.2) = (q : Int) := by rw [tri3, w64 (by omega) (by omega)]; exact hq2
    refine Ev.step (fun k => (by rw [round_At.j0, hz, hc1, Bool.not_true, _root_.if_neg (by decide), tri2, tri1])) ?_
    refine Ev.const (Zeros_ev _) ?_
    rw [show min ((q : Int) - ((mkl d.m).length : Int)).toNat 60000 = q - (mkl d.m).length by omega, S_append, show zs (q - (mkl d.m).length) ++ mkl d.m = padL q d.m from rfl]
    have hcut : wrap64 (((S (padL q d.m)).size : Int) - (q : Int)) = (((padL q d.m).length - q : Nat) : Int) := by
      rw [S_size, w64 (by omega) (by omega)]; omega
    rw [hcut, S_size (zs _), S_size (mkl d.m), zs_length]
    refine Ev.if_pos (by omega) (Ev.if_pos (by omega) (Ev.if_pos (by rw [S_size]; omega) ?_))
    rw [Int.toNat_natCast, S_extract, List.drop_zero, S_size, S_extract, List.take_length]
    have hlb : ((padL q d.m).drop ((padL q d.m).length - q)).length = q := by rw [List.length_drop]; omega
    have hlh : ((padL q d.m).take ((padL q d.m).length - q)).length ≤ 100000000 := by rw [List.length_take]; omega
    have ho := odd_ev ((padL q d.m).take ((padL q d.m).length - q)) (by omega) ((dig_padL q d.m).take _)
    have ht := tail_ev ((padL q d.m).drop ((padL q d.m).length - q)) (by omega) ((dig_padL q d.m).drop _)
    rw [htd.1] at ho
    rw [htd.2, hlb] at ht
    refine Ev.const ho (Ev.const ht (Ev.const (up_ev m d.neg _ _) ?_))
    have hst := step_ev ((padL q d.m).take ((padL q d.m).length - q)) (by omega) ((dig_padL q d.m).take _) (upf m d.neg (decide (d.m / 10 ^ q % 2 = 1)) (restOf (d.m % 10 ^ q) (10 ^ q)))
    rw [htd.1] at hst
    refine Ev.bind hst ?_
    rw [hq]
    have hqn : d.m / 10 ^ q + (if upf m d.neg (decide (d.m / 10 ^ q % 2 = 1)) (restOf (d.m % 10 ^ q) (10 ^ q)) = true then 1 else 0) = qn m d.neg d.m (10 ^ q) := rfl
    rw [hqn]
    have hlen := qn_len m d.neg d.m (10 ^ q)
    exact Ev.bind (Made_tri d.neg _ (by omega) (held p)) (Ev.now _)
theorem At_dk {neg : Bool} {l : List UInt8} {e : Int} {K M : Nat} {z : Int} (hp : Plc M K z) (hM : M ≤ 28000) (hv : Val neg l e (FM.dk K z)) {p m : Int} (h0 : 0 ≤ p + K) (h1 : p + K ≤ M) (hm0 : 0 ≤ m) (hm : m ≤ 6) :
    Ev (fun k => round_At.f k neg (S l) e p m) (tri (FM.dk K (rnd m z (10 ^ (p + K).toNat)))) := by
  have h := At_ev hv p m
  have hK := hp.hK
  rw [show okM m = true from decide_eq_true ⟨hm0, hm⟩, _root_.if_pos rfl, held_of (by omega) (by omega), atD_dk hp.hK hM hp.hz h0 h1] at h
  exact h
def whN (i : D) : Int × Bool := if i.m < 10 ^ 18 then ((i.m : Int), !i.neg && decide (1 ≤ i.m ∧ i.m ≤ 1000000000)) else (0, false)
theorem whole_ev {i : D} (hi : nrm i.neg i.m i.e = i) (hf : Few i) : Ev (fun k => round_whole.f k (tri i).1 (tri i).2.1 (tri i).2.2) (whN i) := by
  unfold round_whole.f
  have hn := Norm_tri i hf
  rw [hi] at hn
  refine Ev.bind hn ?_
  unfold whN
  by_cases h18 : i.m < 10 ^ 18
  · rw [_root_.if_pos h18]
    have hI := Int_ev (mkl i.m) (by have := hf.1; unfold Sm; omega) (dig_mkl _) (by rw [nvl_mkl]; exact h18)
    rw [nvl_mkl] at hI
    refine Ev.bind hI (Ev.if_pos rfl ?_)
    rw [tri1]
    cases hneg : i.neg with
    | true => exact Ev.if_pos rfl (Ev.now _)
    | false =>
      refine Ev.if_neg (by decide) ?_
      by_cases h1 : (i.m : Int) ≥ 1
      · refine Ev.if_pos h1 ?_
        have e1 : decide ((i.m : Int) ≤ 1000000000) = (!false && decide (1 ≤ i.m ∧ i.m ≤ 1000000000)) := by
          rw [Bool.not_false, Bool.true_and]; apply decide_eq_decide.2; omega
        dsimp only
        rw [e1]
        exact Ev.now _
      · refine Ev.if_neg h1 ?_
        rw [show (!false && decide (1 ≤ i.m ∧ i.m ≤ 1000000000)) = false by rw [decide_eq_false (by omega)]; rfl]
        exact Ev.now _
  · rw [_root_.if_neg h18]
    have hI := Int_long (mkl i.m) (by have := hf.1; unfold Sm; omega) (dig_mkl _) (by rw [nvl_mkl]; omega)
    exact Ev.bind hI (Ev.if_neg (by decide) (Ev.now _))
theorem between_ev (left n : Nat) (back : List UInt8) (hb : back.length ≤ 1000000000) (hd : Dig back) (hl : left < n) (hn : n ≤ 1000000000) :
    Ev (fun k => round_between.f k (left : Int) (S back) (n : Int)) (restOf (left * 10 ^ back.length + nvl back) (n * 10 ^ back.length)) := by
  rw [restOf_two (nvl_lt hd) hl]
  unfold round_between.f
  refine Ev.const (tail_ev back hb hd) ?_
  have ht := restOf_range (nvl back) (10 ^ back.length)
  obtain ⟨t, htt⟩ : ∃ t, restOf (nvl back) (10 ^ back.length) = t := ⟨_, rfl⟩
  rw [htt] at ht ⊢
  rw [w64 (x := 2 * (left : Int)) (by omega) (by omega), w64 (by omega) (by omega)]
  obtain ⟨d, hdd⟩ : ∃ d, (n : Int) - 2 * left = d := ⟨_, rfl⟩
  rw [hdd]
  have j2 : ∀ b, b = decide (d = 1 ∧ t = 2) → Ev (fun k => round_between.j2 k t d b) (if (d = 1 ∧ t = 2) ∨ (d = 0 ∧ t = 0) then 2 else 3) := by
    intro b hb
    refine Ev.step (fun k => (by rw [round_between.j2])) ?_
    by_cases g : d = 1 ∧ t = 2
    · rw [hb, decide_eq_true g]
      refine Ev.if_pos rfl ?_
      rw [_root_.if_pos (Or.inl g)]
      exact Ev.now _
    · rw [hb, decide_eq_false g]
      refine Ev.if_neg (by decide) ?_
      by_cases g0 : d = 0
      · refine Ev.if_pos g0 ?_
        by_cases g1 : t = 0
        · refine Ev.if_pos g1 ?_
          rw [_root_.if_pos (Or.inr ⟨g0, g1⟩)]; exact Ev.now _
        · refine Ev.if_neg g1 ?_
          rw [_root_.if_neg (fun h => Or.elim h g (fun h => g1 h.2))]; exact Ev.now _
      · refine Ev.if_neg g0 ?_
        rw [_root_.if_neg (fun h => Or.elim h g (fun h => g0 h.1))]; exact Ev.now _
  have j1 : ∀ b, b = decide (2 ≤ d ∨ (d = 1 ∧ t < 2)) → Ev (fun k => round_between.j1 k t d b) (if 2 ≤ d ∨ (d = 1 ∧ t < 2) then 1 else if (d = 1 ∧ t = 2) ∨ (d = 0 ∧ t = 0) then 2 else 3) := by
    intro b hb
    refine Ev.step (fun k => (by rw [round_between.j1])) ?_
    by_cases g : 2 ≤ d ∨ (d = 1 ∧ t < 2)
    · rw [hb, decide_eq_true g, _root_.if_pos g]
      exact Ev.if_pos rfl (Ev.now _)
    · rw [hb, decide_eq_false g, _root_.if_neg g]
      refine Ev.if_neg (by decide) ?_
      by_cases g1 : d = 1
      · refine Ev.if_pos g1 (j2 _ ?_)
        rw [show (t == 2) = decide (t = 2) from rfl]
        apply decide_eq_decide.2
        exact ⟨fun h => ⟨g1, h⟩, fun h => h.2⟩
      · refine Ev.if_neg g1 (j2 _ ?_)
        exact (decide_eq_false (fun h => g1 h.1)).symm
  have j0 : ∀ b, b = decide (left = 0 ∧ t = 0) → Ev (fun k => round_between.j0 k t d b) (if left = 0 ∧ t = 0 then 0 else if 2 ≤ d ∨ (d = 1 ∧ t < 2) then 1 else if (d = 1 ∧ t = 2) ∨ (d = 0 ∧ t = 0) then 2 else 3) := by
    intro b hb
    refine Ev.step (fun k => (by rw [round_between.j0])) ?_
    by_cases g : left = 0 ∧ t = 0
    · rw [hb, decide_eq_true g, _root_.if_pos g]
      exact Ev.if_pos rfl (Ev.now _)
    · rw [hb, decide_eq_false g, _root_.if_neg g]
      refine Ev.if_neg (by decide) ?_
      by_cases g2 : d ≥ 2
      · exact Ev.if_pos g2 (j1 _ (decide_eq_decide.2 (by omega)))
      · refine Ev.if_neg g2 ?_
        by_cases g1 : d = 1
        · exact Ev.if_pos g1 (j1 _ (decide_eq_decide.2 (by omega)))
        · exact Ev.if_neg g1 (j1 _ (decide_eq_false (by omega)).symm)
  by_cases h0 : (left : Int) = 0
  · refine Ev.if_pos h0 (j0 _ ?_)
    rw [show (t == 0) = decide (t = 0) from rfl]
    apply decide_eq_decide.2
    omega
  · exact Ev.if_neg h0 (j0 _ (decide_eq_false (by omega)).symm)
theorem len_succ {a b L : Nat} (h : (mkl a).length ≤ L) (hb : b ≤ a + 1) : (mkl b).length ≤ L + 1 := by
  apply mkl_length_le.2
  have := mkl_length_le.1 h
  rw [Nat.pow_succ]; omega
theorem len_times {a n L : Nat} (h : (mkl a).length ≤ L) (hn : n ≤ 1000000000) : (mkl (a * n)).length ≤ L + 11 := by
  apply mkl_length_le.2
  have h1 := mkl_length_le.1 h
  have h2 : a * n ≤ a * 10 ^ 10 := Nat.mul_le_mul_left _ (Nat.le_trans hn (by decide))
  refine Nat.lt_of_le_of_lt h2 ?_
  have := Nat.mul_lt_mul_of_pos_right h1 (Nat.pow_pos (n := 10) (by decide : 0 < 10))
  rw [← Nat.pow_add] at this
  exact Nat.lt_of_lt_of_le this (Nat.pow_le_pow_right (by decide) (by omega))
theorem made_same {d : D} (hi : nrm d.neg d.m d.e = d) {b : Bool} {x : Int} (h1 : -30000 ≤ x) (h2 : x ≤ 30000) : (nrm b d.m x).m = d.m ∧ (0 < d.m → (nrm b d.m x).e = x) := by
  rcases Nat.eq_zero_or_pos d.m with h | h
  · rw [h, nrm_zero]; exact ⟨rfl, fun h => absurd h (by decide)⟩
  · have hst : st d.m = (d.m, 0) := by
      have h3 := congrArg D.m hi
      rw [nrm_m] at h3
      have h4 := st_st h
      rw [h3] at h4
      exact h4
    rw [nrm_pos h, hst]
    refine ⟨rfl, fun _ => ?_⟩
    show held (held x + ((0 : Nat) : Int)) = x
    rw [held_of (x := x) h1 h2, Int.natCast_zero, Int.add_zero, held_of h1 h2]
theorem mod_two (a n c : Nat) : a % (n * 10 ^ c) = a / 10 ^ c % n * 10 ^ c + a % 10 ^ c := by
  rw [Nat.mul_comm n, Nat.mod_mul, Nat.mul_comm (10 ^ c) (a / 10 ^ c % n), Nat.add_comm]
theorem Step_ev {neg neg2 : Bool} {l l2 : List UInt8} {e e2 : Int} {d i : D} (hv : Val neg l e d) (hv2 : Val neg2 l2 e2 i) (m : Int) (hd : -30000 ≤ d.e - i.e) (hd2 : d.e - i.e ≤ 30000) :
    Ev (fun k => round_Step.f k neg (S l) e neg2 (S l2) e2 m) (tri (if (whN i).2 = true ∧ okM m = true then stD m d i.m i.e else d)) := by
  unfold round_Step.f
  have hdi := hv.again.nrm
  rw [nvl_mkl] at hdi
  have hii := hv2.again.nrm
  rw [nvl_mkl] at hii
  refine Ev.bind hv.norm (Ev.bind hv2.norm (Ev.bind (whole_ev hii hv2.few) ?_))
  have same : ∀ x, Ev (fun k => round_Step.j0 k m x true (tri d).1 (tri d).2.1 (tri d).2.2 (tri i).1 (tri i).2.1 (tri i).2.2) (tri d) := fun x => Ev.step (fun k => (by rw [round_Step.j0, _root_.if_pos rfl])) (Ev.now _)
  by_cases hw : (whN i).2 = true
  case neg =>
    rw [_root_.if_neg (fun h => hw h.1)]
    exact Ev.if_neg hw (same _)
  refine Ev.if_pos hw (Ev.const (Valid_ev m) ?_)
  cases hm : okM m with
  | false =>
    rw [_root_.if_neg (fun h => by cases h.2)]
    exact same _
  | true =>
    rw [_root_.if_pos ⟨hw, rfl⟩]
    obtain ⟨hn1, hn2, hn3⟩ : (whN i).1 = (i.m : Int) ∧ 1 ≤ i.m ∧ i.m ≤ 1000000000 := by
      unfold whN at hw ⊢
      split
      · rename_i h
        rw [_root_.if_pos h] at hw
        simp only [Bool.and_eq_true, decide_eq_true_eq] at hw
        exact ⟨rfl, hw.2.1, hw.2.2⟩
      · rename_i h
        rw [_root_.if_neg h] at hw
        cases hw
    rw [hn1]
    obtain ⟨n, hn⟩ : ∃ n, i.m = n := ⟨_, rfl⟩
    rw [hn] at hn2 hn3 ⊢
    obtain ⟨f1, f2, f3⟩ := hv.few
    have hE : wrap64 ((tri d).2.2 - (tri i).2.2) = d.e - i.e := by rw [tri3, tri3, w64 (by omega) (by omega)]
    refine Ev.step (fun k => (by rw [round_Step.j0, Bool.not_true, _root_.if_neg (by decide), hE, tri2, tri1, tri3])) ?_
    refine Ev.bind (Made_tri false d.m (by omega) (d.e - i.e)) ?_
    obtain ⟨s1, s2⟩ := made_same hdi (b := false) hd hd2
    have hfy : Few (nrm false d.m (d.e - i.e)) := few_nrm f1
    have hp := Parts_tri _ hfy
    rw [nrm_idem] at hp
    refine Ev.bind hp ?_
    dsimp only
    have lw := wholeN_len_le hfy
    have lp := partL_length (nrm false d.m (d.e - i.e)).m (nrm false d.m (d.e - i.e)).e
    have vp := nvl_partL (nrm false d.m (d.e - i.e)).m (nrm false d.m (d.e - i.e)).e
    have dp := dig_partL (nrm false d.m (d.e - i.e)).m (nrm false d.m (d.e - i.e)).e
    have hlpl : (partL (nrm false d.m (d.e - i.e)).m (nrm false d.m (d.e - i.e)).e).length ≤ 30000 := by
      rw [lp]; have := hfy.2.1; omega
    -- what the digits ahead of the point and behind it are
    have key : ∃ c f W : Nat, (partL (nrm false d.m (d.e - i.e)).m (nrm false d.m (d.e - i.e)).e).length = c ∧ nvl (partL (nrm false d.m (d.e - i.e)).m (nrm false d.m (d.e - i.e)).e) = f ∧ wholeN (nrm false d.m (d.e - i.e)).m (nrm false d.m (d.e - i.e)).e = W ∧
        W / n + (if upf m d.neg (decide (W / n % 2 = 1)) (restOf (W % n * 10 ^ c + f) (n * 10 ^ c)) = true then 1 else 0) = (if 0 ≤ d.e - i.e then qn m d.neg (d.m * 10 ^ (d.e - i.e).toNat) n else qn m d.neg d.m (n * 10 ^ (i.e - d.e).toNat)) := by
      refine ⟨_, _, _, rfl, rfl, rfl, ?_⟩
      rw [lp, vp]
      rcases Nat.eq_zero_or_pos d.m with h0 | h0
      · have e1 : nrm false d.m (d.e - i.e) = D0 := by rw [h0, nrm_zero]
        rw [e1, h0]
        have e2 : wholeN D0.m D0.e = 0 := by decide
        have e3 : (-D0.e).toNat = 0 := rfl
        rw [e2, e3, show D0.m = 0 from rfl, Nat.pow_zero, Nat.mul_one, Nat.mul_one, Nat.zero_mod, Nat.zero_mul, Nat.zero_mod, Nat.zero_div]
        have e4 : ∀ u : Nat, qn m d.neg 0 u = 0 := by
          intro u; unfold qn; simp only [Nat.zero_div, Nat.zero_mod]
          rw [show restOf 0 u = 0 by simp [restOf], upf_zero]; rfl
        rw [e4, e4, ite_self]
        rw [show restOf (0 + 0) n = 0 by simp [restOf], upf_zero]; rfl
      · rw [s1, s2 h0]
        unfold wholeN
        by_cases hge : 0 ≤ d.e - i.e
        · rw [_root_.if_pos hge, _root_.if_pos hge, show (-(d.e - i.e)).toNat = 0 by omega, Nat.pow_zero, Nat.mod_one, Nat.mul_one, Nat.mul_one, Nat.add_zero]
          rfl
        · rw [_root_.if_neg hge, _root_.if_neg hge, show (-(d.e - i.e)).toNat = (i.e - d.e).toNat by omega]
          unfold qn
          rw [mod_two, Nat.div_div_eq_div_mul, Nat.mul_comm (10 ^ (i.e - d.e).toNat) n]
    obtain ⟨c, f, W, k1, k2, k3, k4⟩ := key
    have hb := between_ev (W % n) n _ (by omega) dp (Nat.mod_lt _ (by omega)) hn3
    rw [k1, k2] at hb
    rw [k3] at lw ⊢
    have hdiv := Div_ev (mkl W) (by unfold Sm; omega) (dig_mkl _) n hn2 hn3
    rw [nvl_mkl] at hdiv
    have lq : (mkl (W / n)).length ≤ 100030000 := Nat.le_trans (mkl_length_mono (Nat.div_le_self _ _)) lw
    have hodd := odd_ev (mkl (W / n)) (by omega) (dig_mkl _)
    rw [nvl_mkl] at hodd
    refine Ev.bind hdiv (Ev.const hodd (Ev.bind hb (Ev.const (up_ev m d.neg _ _) ?_)))
    have hst := step_ev (mkl (W / n)) (by omega) (dig_mkl _) (upf m d.neg (decide (W / n % 2 = 1)) (restOf (W % n * 10 ^ c + f) (n * 10 ^ c)))
    rw [nvl_mkl, k4] at hst
    refine Ev.bind hst ?_
    unfold stD
    obtain ⟨Q, hQ⟩ : ∃ Q, (if 0 ≤ d.e - i.e then qn m d.neg (d.m * 10 ^ (d.e - i.e).toNat) n else qn m d.neg d.m (n * 10 ^ (i.e - d.e).toNat)) = Q := ⟨_, rfl⟩
    rw [hQ] at k4 ⊢
    have lQ := len_succ (b := Q) lq (by rw [← k4]; split <;> omega)
    have htm := Times_ev (mkl Q) (by unfold Sm; omega) (dig_mkl _) n hn3
    rw [nvl_mkl] at htm
    refine Ev.bind htm ?_
    have lQn := len_times lQ hn3
    exact Ev.bind (Made_tri d.neg (Q * n) (by omega) i.e) (Ev.now _)
end Go.Proofs.YthkpmiajcmihjaaGreatDoor.P
namespace Go.Proofs.YthkpmiajcmihjaaGreatDoor.P
open Go.RowKit Go.Proofs.YthkpmiajcmihjaaGreatDoorW.PrintWords Go.Proofs.YthkpmiajcmihjaaGreatDoorW.PrintLast Go.Proofs.YthkpmiajcmihjaaGreatDoorW.PrintMore Go.Proofs.YthkpmiajcmihjaaGreatDoor.FM
set_option linter.unusedVariables false
set_option linter.unusedSimpArgs false

theorem cmpI_lt0 {u v : Int} : cmpI u v < 0 ↔ u < v := by
  unfold cmpI
  repeat' split
  all_goals omega
theorem cmpI_eq0 {u v : Int} : cmpI u v = 0 ↔ u = v := by
  unfold cmpI
  repeat' split
  all_goals omega
theorem cmpI_gt0 {u v : Int} : cmpI u v > 0 ↔ v < u := by
  unfold cmpI
  repeat' split
  all_goals omega
theorem teq3 (a b : D) : ((tri a).1 == (tri b).1 && ((tri a).2.1.toList == (tri b).2.1.toList && ((tri a).2.2 == (tri b).2.2))) = decide (a = b) := by
  have h := ane3 a b
  rw [← Bool.not_and, ← Bool.not_and] at h
  have h2 := congrArg (!·) h
  simp only [Bool.not_not] at h2
  rw [h2]
  by_cases hh : a = b <;> simp [hh]
theorem dk_mod {K : Nat} {z : Int} (h : z ≠ 0) : (dk K z).m % 10 ≠ 0 ∧ 0 < (dk K z).m := by
  rw [dk_m]
  exact ⟨st_mod (by omega), st_pos (by omega)⟩
theorem Plc.succ {M K : Nat} {z : Int} (h : Plc M K z) (hM : M + 1 ≤ 29000) : Plc (M + 1) K z := h.up (Nat.le_succ M) hM
/-- an increment: a decimal above nought of few digits -/
structure Inc (M K : Nat) (U : Nat) : Prop where
  plc : Plc M K (U : Int)
  pos : 0 < U
  small : (dk K (U : Int)).m ≤ 1000000000
theorem multiple_ev {M K : Nat} {z : Int} {U : Nat} (hz : Plc M K z) (hU : Inc M K U) (hM : 2 * M ≤ 28000) :
    Ev (fun k => florinlaw03_multiple.f k (tri (dk K z)).1 (tri (dk K z)).2.1 (tri (dk K z)).2.2 (tri (dk K (U : Int))).1 (tri (dk K (U : Int))).2.1 (tri (dk K (U : Int))).2.2) (decide ((U : Int) ∣ z)) := by
  have hUz : (U : Int) ≠ 0 := by have := hU.pos; omega
  obtain ⟨i1, i2⟩ := dk_mod (K := K) hUz
  have hsm := hU.small
  have hUv := dk_val K (U : Int)
  rw [Int.natAbs_natCast] at hUv
  have ie1 := dk_e_ge K (U : Int)
  have ie2 := dk_e_lt hU.plc.hz hU.plc.hK
  have de1 := dk_e_ge K z
  have de2 := dk_e_lt hz.hz hz.hK
  have hzv := dk_val K z
  have hdm := fun h => dk_mod (K := K) (z := z) h
  have hfd : Few (dk K z) := (Val.dk hz).few
  have hdi := (Val.dk hz).nrm
  rw [nvl_mkl] at hdi
  have hm0 := @dk_m_zero K z
  have hKM := hz.hK
  obtain ⟨i, hi⟩ : ∃ i, dk K (U : Int) = i := ⟨_, rfl⟩
  obtain ⟨d, hd⟩ : ∃ d, dk K z = d := ⟨_, rfl⟩
  rw [hi] at i1 i2 hsm hUv ie1 ie2 ⊢
  rw [hd] at de1 de2 hzv hdm hfd hdi hm0 ⊢
  unfold florinlaw03_multiple.f
  have li : (mkl i.m).length ≤ 10 := mkl_length_le.2 (by omega)
  have hI := Int_ev (mkl i.m) (by unfold Sm; omega) (dig_mkl _) (by rw [nvl_mkl]; omega)
  rw [nvl_mkl] at hI
  rw [tri2]
  refine Ev.bind hI (Ev.if_pos rfl ?_)
  rw [decide_eq_false (by dsimp only; omega)]
  obtain ⟨f1, f2, f3⟩ := hfd
  have hE : wrap64 ((tri d).2.2 - (tri i).2.2) = d.e - i.e := by rw [tri3, tri3, w64 (by omega) (by omega)]
  refine Ev.step (fun k => (by rw [florinlaw03_multiple.j0, _root_.if_neg (by decide), hE, tri2])) ?_
  refine Ev.bind (Made_tri false d.m (by omega) (d.e - i.e)) ?_
  obtain ⟨s1, s2⟩ := made_same hdi (b := false) (x := d.e - i.e) (by omega) (by omega)
  have hfy : Few (nrm false d.m (d.e - i.e)) := few_nrm f1
  have hp := Parts_tri _ hfy
  rw [nrm_idem] at hp
  refine Ev.bind hp ?_
  dsimp only
  have lw := wholeN_len_le hfy
  have lp := partL_length (nrm false d.m (d.e - i.e)).m (nrm false d.m (d.e - i.e)).e
  have hdiv := Div_ev (mkl (wholeN (nrm false d.m (d.e - i.e)).m (nrm false d.m (d.e - i.e)).e)) (by unfold Sm; omega) (dig_mkl _) i.m (by omega) hsm
  rw [nvl_mkl] at hdiv
  refine Ev.bind hdiv ?_
  rw [S_toList]
  by_cases hz0 : z = 0
  · have e0 : d.m = 0 := hm0.2 hz0
    have e1 : nrm false d.m (d.e - i.e) = D0 := by rw [e0, nrm_zero]
    rw [e1]
    refine Ev.if_pos rfl ?_
    rw [show wholeN D0.m D0.e = 0 by decide, Nat.zero_mod, hz0, decide_eq_true (Int.dvd_zero _)]
    exact Ev.now _
  obtain ⟨d1, d2⟩ := hdm hz0
  rw [s1, s2 d2] at lp ⊢
  by_cases hge : 0 ≤ d.e - i.e
  · refine Ev.if_pos (List.eq_nil_of_length_eq_zero (by omega)) ?_
    have e1 : (((wholeN d.m (d.e - i.e) % i.m : Nat) : Int) == 0) = decide ((U : Int) ∣ z) := by
      unfold wholeN
      rw [_root_.if_pos hge]
      have hzz : z.natAbs = d.m * 10 ^ (d.e - i.e).toNat * 10 ^ (i.e + K).toNat := by
        rw [← hzv, Nat.mul_assoc, ← Nat.pow_add]; congr 2; omega
      have hiff : (U : Int) ∣ z ↔ i.m ∣ d.m * 10 ^ (d.e - i.e).toNat := by
        rw [Int.ofNat_dvd_left, ← hUv, hzz]
        exact Nat.mul_dvd_mul_iff_right (Nat.pow_pos (by decide))
      by_cases hdv : i.m ∣ d.m * 10 ^ (d.e - i.e).toNat
      · rw [decide_eq_true (hiff.2 hdv), Nat.mod_eq_zero_of_dvd hdv]; rfl
      · rw [decide_eq_false (fun h => hdv (hiff.1 h))]
        refine beq_eq_false_iff_ne.2 (fun h => hdv (Nat.dvd_of_mod_eq_zero (by omega)))
    rw [e1]
    exact Ev.now _
  · refine Ev.if_neg (fun h => by rw [h, List.length_nil] at lp; omega) ?_
    have hnd : ¬ (U : Int) ∣ z := by
      intro h
      rw [Int.ofNat_dvd_left, ← hUv, ← hzv] at h
      have h2 : 10 ^ (i.e + K).toNat ∣ d.m * 10 ^ (d.e + K).toNat := Nat.dvd_trans (Nat.dvd_mul_left _ _) h
      rw [show (i.e + K).toNat = (i.e - d.e).toNat + (d.e + K).toNat by omega, Nat.pow_add] at h2
      have h3 := (Nat.mul_dvd_mul_iff_right (Nat.pow_pos (n := (d.e + K).toNat) (by decide : 0 < 10))).1 h2
      have h4 : 10 ∣ 10 ^ (i.e - d.e).toNat := by
        obtain ⟨j, hj⟩ : ∃ j, (i.e - d.e).toNat = j + 1 := ⟨(i.e - d.e).toNat - 1, by omega⟩
        rw [hj, Nat.pow_succ]; exact Nat.dvd_mul_left _ _
      exact d1 (Nat.mod_eq_zero_of_dvd (Nat.dvd_trans h4 h3))
    rw [decide_eq_false hnd]
    exact Ev.now _
theorem scl_dk {M K : Nat} {u : Int} (hu : Plc M K u) : scl (dk K u) (-1) = dk (K + 1) u := by
  unfold scl
  have h1 := dk_e_ge K u
  have h2 := dk_e_lt hu.hz hu.hK
  have := hu.hM
  have hidem := dk_norm hu
  by_cases h0 : u = 0
  · subst h0; rw [dk_zero, dk_zero, show D0.m = 0 from rfl, nrm_zero]
  · obtain ⟨m1, m2⟩ := dk_mod (K := K) h0
    have hst : st (dk K u).m = ((dk K u).m, 0) := by rw [dk_m]; exact st_st (by omega)
    rw [nrm_pos m2, hst, show held (-1) = -1 by decide]
    have he := dk_e K h0
    have e1 : dk (K + 1) u = ⟨decide (u < 0), (st u.natAbs).1, ((st u.natAbs).2 : Int) - ((K + 1 : Nat) : Int)⟩ := by unfold dk; rw [if_neg h0]
    rw [e1, dk_neg, dk_m]
    have := hu.hK
    have hs := st_snd_lt (n := u.natAbs) (by omega) hu.hz
    simp only [D.mk.injEq, true_and]
    rw [he, held_of (x := ((st u.natAbs).2 : Int) - K + -1) (by omega) (by omega), held_of (by omega) (by omega)]
    omega
theorem even_ev {M K : Nat} {z : Int} {U : Nat} (hz : Plc M K z) (hU : Inc M K U) (hKM : K + 1 ≤ M) (hM : 2 * (M + 10) ≤ 28000) :
    Ev (fun k => florinlaw03_even.f k (tri (dk K z)).1 (tri (dk K z)).2.1 (tri (dk K z)).2.2 (tri (dk K (U : Int))).1 (tri (dk K (U : Int))).2.1 (tri (dk K (U : Int))).2.2) (decide (((2 * U : Nat) : Int) ∣ z)) := by
  unfold florinlaw03_even.f
  have hM4 : M + 4 ≤ 29000 := by omega
  have p1 : Plc (M + 1) K (2 * z) := by have := hz.add hz (by omega); rwa [show z + z = 2 * z by omega] at this
  have p2 : Plc (M + 2) K (3 * z) := by have := p1.add (hz.up (show M ≤ M + 1 by omega) (by omega)) (by omega); rwa [show 2 * z + z = 3 * z by omega] at this
  have p3 : Plc (M + 3) K (4 * z) := by have := p2.add (hz.up (show M ≤ M + 2 by omega) (by omega)) (by omega); rwa [show 3 * z + z = 4 * z by omega] at this
  have p4 : Plc (M + 4) K (5 * z) := by have := p3.add (hz.up (show M ≤ M + 3 by omega) (by omega)) (by omega); rwa [show 4 * z + z = 5 * z by omega] at this
  have hv := Val.dk hz
  have a1 := Add_dk hz hz (Val.dk hz) hv
  have a2 := Add_dk p1 (hz.up (show M ≤ M + 1 by omega) (by omega)) (Val.dk p1) hv
  have a3 := Add_dk p2 (hz.up (show M ≤ M + 2 by omega) (by omega)) (Val.dk p2) hv
  have a4 := Add_dk p3 (hz.up (show M ≤ M + 3 by omega) (by omega)) (Val.dk p3) hv
  rw [show z + z = 2 * z by omega] at a1
  rw [show 2 * z + z = 3 * z by omega] at a2
  rw [show 3 * z + z = 4 * z by omega] at a3
  rw [show 4 * z + z = 5 * z by omega] at a4
  have w1 : wrap64 ((0 : Int) + 1) = 1 := (w64 (by decide) (by decide)).trans rfl
  have w2 : wrap64 ((1 : Int) + 1) = 2 := (w64 (by decide) (by decide)).trans rfl
  have w3 : wrap64 ((2 : Int) + 1) = 3 := (w64 (by decide) (by decide)).trans rfl
  have w4 : wrap64 ((3 : Int) + 1) = 4 := (w64 (by decide) (by decide)).trans rfl
  refine Ev.step (fun k => (by rw [florinlaw03_even.l0, _root_.if_pos (by decide), w1])) ?_
  refine Ev.bind a1 ?_
  refine Ev.step (fun k => (by rw [florinlaw03_even.l0, _root_.if_pos (by decide), w2])) ?_
  refine Ev.bind a2 ?_
  refine Ev.step (fun k => (by rw [florinlaw03_even.l0, _root_.if_pos (by decide), w3])) ?_
  refine Ev.bind a3 ?_
  refine Ev.step (fun k => (by rw [florinlaw03_even.l0, _root_.if_pos (by decide), w4])) ?_
  refine Ev.bind a4 ?_
  refine Ev.step (fun k => (by rw [florinlaw03_even.l0, _root_.if_neg (by decide)])) ?_
  have hs := Scale_tri _ (Val.dk p4).few (-1)
  rw [← dk_norm p4, scl_dk p4] at hs
  refine Ev.bind hs ?_
  have p5 : Plc (M + 4) (K + 1) (5 * z) := ⟨by omega, by omega, p4.hz⟩
  have hU2 : dk K (U : Int) = dk (K + 1) ((10 * U : Nat) : Int) := by
    have := dk_scale K 1 (U : Int)
    rw [← this]
    congr 1
    omega
  have hI2 : Inc (M + 4) (K + 1) (10 * U) := by
    refine ⟨⟨by omega, by omega, ?_⟩, by have := hU.pos; omega, by rw [← hU2]; exact hU.small⟩
    rw [Int.natAbs_natCast]
    have := hU.plc.hz
    rw [Int.natAbs_natCast] at this
    have h2 : 10 ^ M * 10 ≤ 10 ^ (M + 4) := by rw [← Nat.pow_succ]; exact Nat.pow_le_pow_right (by decide) (by omega)
    omega
  have hm := multiple_ev p5 hI2 (by omega)
  rw [← hU2] at hm
  have hiff : decide ((((10 * U : Nat)) : Int) ∣ 5 * z) = decide (((2 * U : Nat) : Int) ∣ z) := by
    apply decide_eq_decide.2
    rw [show ((10 * U : Nat) : Int) = 5 * ((2 * U : Nat) : Int) by omega]
    exact Int.mul_dvd_mul_iff_left (by decide)
  rw [hiff] at hm
  exact Ev.bind hm (Ev.now _)
/-- what is rounded by the mode is found to be so -/
theorem Rounded_ev {neg : Bool} {l : List UInt8} {e : Int} {M K : Nat} {z r : Int} {U : Nat} {m : Int} (hv : Val neg l e (dk K z)) (hz : Plc M K z) (hr : Plc M K r) (hU : Inc M K U) (hKM : K + 1 ≤ M) (hM : 2 * (M + 20) ≤ 28000)
    (h0 : 0 ≤ m) (h6 : m ≤ 6) (hRD : RD z r U m) :
    Ev (fun k => florinlaw03_Rounded.f k neg (S l) e (tri (dk K r)).1 (tri (dk K r)).2.1 (tri (dk K r)).2.2 (tri (dk K (U : Int))).1 (tri (dk K (U : Int))).2.1 (tri (dk K (U : Int))).2.2 m) true := by
  unfold florinlaw03_Rounded.f
  obtain ⟨hdv, hor⟩ := hRD
  have hdp : Plc (M + 1) K (z - r) := by
    have := hz.add hr.neg (by omega)
    rwa [show z + -r = z - r by omega] at this
  refine Ev.bind hv.norm (Ev.bind (multiple_ev hr hU (by omega)) (Ev.if_pos (decide_eq_true hdv) ?_))
  refine Ev.bind (Sub_dk hz hr (Val.dk hz) (Val.dk hr)) (Ev.bind (Zero_tri _ (Val.dk hdp).few) ?_)
  have hzz : (decide ((dk K (z - r)).m = 0)) = decide (z = r) := by
    apply decide_eq_decide.2
    rw [dk_m_zero]; omega
  rw [hzz]
  by_cases heq : z = r
  · refine Ev.if_pos (decide_eq_true heq) (Ev.yes ?_)
    rw [teq3, heq]; simp
  refine Ev.if_neg (by simpa using heq) (Ev.bind (multiple_ev hz hU (by omega)) ?_)
  rcases hor with hor | ⟨nd, hlt, m3, m4, m5, m6, m1, m2, mz⟩
  · exact absurd hor heq
  refine Ev.if_neg (by simpa using nd) ?_
  have habs := Abs_dk hdp (Val.dk hdp)
  have hU1 := hU.plc.succ (by omega)
  have hap := hdp.abs
  refine Ev.bind habs (Ev.bind (Cmp_dk (by omega) hap hU1 (Val.dk hap) (Val.dk hU1)) ?_)
  rw [decide_eq_false (show ¬ cmpI ((z - r).natAbs : Int) (U : Int) ≥ 0 from by have := (cmpI_lt0 (u := ((z - r).natAbs : Int)) (v := (U : Int))).2 (by omega); omega)]
  have hra := Abs_dk hr (Val.dk hr)
  have hza := Abs_dk hz (Val.dk hz)
  have hout := Cmp_dk (by omega) hr.abs hz.abs (Val.dk hr.abs) (Val.dk hz.abs)
  have htw := Add_dk hap hap (Val.dk hap) (Val.dk hap)
  have htp := hap.add hap (by omega)
  rw [show ((z - r).natAbs : Int) + ((z - r).natAbs : Int) = ((2 * (z - r).natAbs : Nat) : Int) by omega] at htw htp
  have hU2 := hU1.succ (by omega)
  have hc := Cmp_dk (by omega) htp hU2 (Val.dk htp) (Val.dk hU2)
  refine Ev.step (fun k => (by rw [florinlaw03_Rounded.j0, _root_.if_neg (by decide)])) ?_
  refine Ev.bind hra (Ev.bind hza (Ev.bind hout (Ev.bind habs ?_)))
  refine Ev.bind (a := tri (dk K ((2 * (z - r).natAbs : Nat) : Int))) (by unfold florinlaw03_twice.f; exact Ev.bind htw (Ev.now _)) (Ev.bind hc ?_)
  have o1 : cmpI (r.natAbs : Int) (z.natAbs : Int) > 0 ↔ z.natAbs < r.natAbs := by rw [cmpI_gt0]; omega
  have q1 : cmpI ((2 * (z - r).natAbs : Nat) : Int) (U : Int) < 0 ↔ 2 * (z - r).natAbs < U := by rw [cmpI_lt0]; omega
  have q2 : cmpI ((2 * (z - r).natAbs : Nat) : Int) (U : Int) = 0 ↔ 2 * (z - r).natAbs = U := by rw [cmpI_eq0]; omega
  obtain ⟨A, hA⟩ : ∃ A, cmpI (r.natAbs : Int) (z.natAbs : Int) = A := ⟨_, rfl⟩
  obtain ⟨C, hC⟩ : ∃ C, cmpI ((2 * (z - r).natAbs : Nat) : Int) (U : Int) = C := ⟨_, rfl⟩
  rw [hA] at o1 ⊢
  rw [hC] at q1 q2 ⊢
  rw [tri1, dk_neg]
  by_cases g3 : m = 3
  · exact Ev.if_pos g3 (Ev.yes (decide_eq_true (o1.2 (m3 g3))))
  refine Ev.if_neg g3 ?_
  by_cases g4 : m = 4
  · refine Ev.if_pos g4 (Ev.yes ?_)
    rw [decide_eq_false (fun h => m4 g4 (o1.1 h))]; rfl
  refine Ev.if_neg g4 ?_
  by_cases g5 : m = 5
  · exact Ev.if_pos g5 (Ev.yes (decide_eq_true (m5 g5)))
  refine Ev.if_neg g5 ?_
  by_cases g6 : m = 6
  · refine Ev.if_pos g6 (Ev.yes ?_)
    rw [decide_eq_false (m6 g6)]; rfl
  refine Ev.if_neg g6 ?_
  by_cases g1 : m = 1
  · refine Ev.if_pos g1 ?_
    rcases m1 g1 with h | ⟨h, h'⟩
    · exact Ev.if_pos (q1.2 h) (Ev.now _)
    · exact Ev.if_neg (fun h2 => by have := q1.1 h2; omega) (Ev.if_pos (q2.2 h) (Ev.yes (decide_eq_true (o1.2 h'))))
  refine Ev.if_neg g1 ?_
  by_cases g2 : m = 2
  · refine Ev.if_pos g2 ?_
    rcases m2 g2 with h | ⟨h, h'⟩
    · exact Ev.if_pos (q1.2 h) (Ev.now _)
    · refine Ev.if_neg (fun h2 => by have := q1.1 h2; omega) (Ev.if_pos (q2.2 h) (Ev.yes ?_))
      rw [decide_eq_false (fun h2 => h' (o1.1 h2))]; rfl
  refine Ev.if_neg g2 ?_
  rcases mz (by omega) with h | ⟨h, h'⟩
  · exact Ev.if_pos (q1.2 h) (Ev.now _)
  · refine Ev.if_neg (fun h2 => by have := q1.1 h2; omega) (Ev.if_pos (q2.2 h) ?_)
    have hev := even_ev hr hU hKM (by omega)
    rw [decide_eq_true h'] at hev
    exact Ev.bind hev (Ev.now _)
end Go.Proofs.YthkpmiajcmihjaaGreatDoor.P
namespace Go.Proofs.YthkpmiajcmihjaaGreatDoor.P
open Go.RowKit Go.Proofs.YthkpmiajcmihjaaGreatDoorW.PrintWords Go.Proofs.YthkpmiajcmihjaaGreatDoorW.PrintLast Go.Proofs.YthkpmiajcmihjaaGreatDoorW.PrintMore Go.Proofs.YthkpmiajcmihjaaGreatDoor.FM
set_option linter.unusedVariables false
set_option linter.unusedSimpArgs false

theorem u64_mod (a c : Int) (hc : 0 < c) (hc2 : c ≤ 1000) : ∃ m : Int, wrap64 (Int.tmod (IntKind.u64.wrap a) c) = m ∧ 0 ≤ m ∧ m < c := by
  have h0 : 0 ≤ IntKind.u64.wrap a := by rw [IntKind.wrap_u64]; omega
  obtain ⟨u, hu⟩ : ∃ u, IntKind.u64.wrap a = u := ⟨_, rfl⟩
  rw [hu] at h0 ⊢
  rw [Int.tmod_eq_emod_of_nonneg h0]
  have h1 := Int.emod_nonneg u (show c ≠ 0 by omega)
  have h2 := Int.emod_lt_of_pos u hc
  refine ⟨_, rfl, ?_⟩
  rw [w64 (by omega) (by omega)]
  exact ⟨h1, h2⟩
theorem Mode_ev (a : Int) : ∃ m : Int, florinlaw03_Mode.f a = some m ∧ 0 ≤ m ∧ m ≤ 6 := by
  obtain ⟨m, h1, h2, h3⟩ := u64_mod a 7 (by decide) (by decide)
  refine ⟨m, ?_, h2, by omega⟩
  unfold florinlaw03_Mode.f
  rw [h1]
theorem dk_pow_m (K n j : Nat) (hn : 0 < n) : (dk K ((n * 10 ^ j : Nat) : Int)).m ≤ n := by
  rw [dk_m, Int.natAbs_natCast, st_mul_pow hn]
  exact st_le n
theorem nrm_units {M K N : Nat} {p : Int} (hK : K ≤ M) (hM : M ≤ 29000) (h0 : 0 ≤ p + K) (hN : N * 10 ^ (p + K).toNat < 10 ^ M) (hp : p ≤ 30000) : nrm false N p = dk K ((N * 10 ^ (p + K).toNat : Nat) : Int) := by
  rw [nrm_dk (K := K) h0 hp (by omega) (Nat.lt_of_lt_of_le hN (Nat.pow_le_pow_right (by decide) (by omega)))]
  rfl
theorem inc_of {M K N : Nat} {p : Int} (hK : K ≤ M) (hM : M ≤ 29000) (hN : 0 < N) (hN2 : N ≤ 1000000000) (hlt : N * 10 ^ (p + K).toNat < 10 ^ M) : Inc M K (N * 10 ^ (p + K).toNat) :=
  ⟨⟨hK, hM, by rw [Int.natAbs_natCast]; exact hlt⟩, Nat.mul_pos hN (Nat.pow_pos (by decide)), Nat.le_trans (dk_pow_m K N _ hN) hN2⟩
theorem unit_inc {M K : Nat} {p : Int} (hK : K ≤ M) (hM : M ≤ 29000) (h1 : p + K < M) (h0 : 0 ≤ p + K) : Inc M K (1 * 10 ^ (p + K).toNat) :=
  inc_of hK hM (by decide) (by decide) (by rw [Nat.one_mul]; exact Nat.pow_lt_pow_right (by decide) (by omega))
theorem rnd_plc {M K U : Nat} {z m : Int} (hz : Plc M K z) (hM : M + 1 ≤ 29000) (hU : U ≤ 10 ^ M) : Plc (M + 1) K (rnd m z U) := ⟨Nat.le_succ_of_le hz.hK, hM, rnd_lt hz.hz hU⟩
theorem inc_succ {M K U : Nat} (h : Inc M K U) (hM : M + 1 ≤ 29000) : Inc (M + 1) K U := ⟨h.plc.succ hM, h.pos, h.small⟩
theorem inc_le {M K U : Nat} (h : Inc M K U) : U ≤ 10 ^ M := by have := h.plc.hz; rw [Int.natAbs_natCast] at this; omega
theorem Step_dk {neg : Bool} {l : List UInt8} {e : Int} {K M U : Nat} {z m : Int} (hz : Plc M K z) (hM : 2 * M ≤ 28000) (hv : Val neg l e (dk K z)) (hU : Inc M K U) (hm0 : 0 ≤ m) (hm : m ≤ 6) :
    Ev (fun k => round_Step.f k neg (S l) e (tri (dk K (U : Int))).1 (tri (dk K (U : Int))).2.1 (tri (dk K (U : Int))).2.2 m) (tri (dk K (rnd m z U))) := by
  have hUz : (U : Int) ≠ 0 := by have := hU.pos; omega
  obtain ⟨i1, i2⟩ := dk_mod (K := K) hUz
  have ie1 := dk_e_ge K (U : Int)
  have ie2 := dk_e_lt hU.plc.hz hU.plc.hK
  have de1 := dk_e_ge K z
  have de2 := dk_e_lt hz.hz hz.hK
  have hKM := hz.hK
  have hUv := dk_val K (U : Int)
  rw [Int.natAbs_natCast] at hUv
  have h := Step_ev hv (Val.dk hU.plc) m (by omega) (by omega)
  have hw : (whN (dk K (U : Int))).2 = true ∧ okM m = true := by
    refine ⟨?_, decide_eq_true ⟨hm0, hm⟩⟩
    unfold whN
    have hs := hU.small
    rw [_root_.if_pos (by omega), dk_neg]
    rw [show decide ((U : Int) < 0) = false from decide_eq_false (by omega), Bool.not_false, Bool.true_and]
    exact decide_eq_true ⟨by omega, hs⟩
  rw [_root_.if_pos hw, stD_dk hz.hK (by omega) hz.hz (by omega) i2 (by rw [hUv]; exact inc_le hU), hUv] at h
  exact h
end Go.Proofs.YthkpmiajcmihjaaGreatDoor.P
namespace Go.Proofs.YthkpmiajcmihjaaGreatDoor.P
open Go.RowKit Go.Proofs.YthkpmiajcmihjaaGreatDoorW.PrintWords Go.Proofs.YthkpmiajcmihjaaGreatDoorW.PrintLast Go.Proofs.YthkpmiajcmihjaaGreatDoorW.PrintMore Go.Proofs.YthkpmiajcmihjaaGreatDoor.FM
set_option linter.unusedVariables false
set_option linter.unusedSimpArgs false

/-! to so many digits, from the first one on -/
theorem mn_mx1 {n : Int} (h1 : 1 ≤ n) (h2 : n ≤ 30000) : mn (mx n 1) 30000 = n := by
  unfold mn mx
  repeat' split
  all_goals omega
theorem magD_dk {K : Nat} {z : Int} : magD (dk K z) = if z = 0 then (0, false) else ((nd z : Int) - K - 1, true) := by
  unfold magD
  by_cases h : z = 0
  · rw [_root_.if_pos (dk_m_zero.2 h), _root_.if_pos h]
  · rw [_root_.if_neg (fun h2 => h (dk_m_zero.1 h2)), _root_.if_neg h, dk_mag h]
theorem nd_le {M K : Nat} {z : Int} (h : Plc M K z) : nd z ≤ M := mkl_length_le.2 h.hz
theorem Sig_dk {neg : Bool} {l : List UInt8} {e : Int} {K M : Nat} {z m n : Int} (hp : Plc M K z) (hM : M ≤ 28000) (hv : Val neg l e (dk K z)) (m0 : 0 ≤ m) (m6 : m ≤ 6) (h1 : 1 ≤ n) (h2 : z ≠ 0 → n ≤ nd z) (h3 : n ≤ 30000) :
    Ev (fun k => round_Sig.f k neg (S l) e n m) (tri (dk K (rnd m z (10 ^ (nd z - n.toNat))))) := by
  unfold round_Sig.f
  have hg := Mag_ev neg l hv.len hv.dig e
  rw [hv.nrm, magD_dk] at hg
  refine Ev.bind hg ?_
  by_cases h0 : z = 0
  · rw [_root_.if_pos h0]
    refine Ev.if_neg (by dsimp only; decide) ?_
    rw [h0, rnd_zero, dk_zero, tri_D0]
    exact Ev.now _
  · rw [_root_.if_neg h0]
    refine Ev.if_pos rfl ?_
    have hn := h2 h0
    have hd := nd_le hp
    have hK := hp.hK
    rw [mn_mx1 h1 h3]
    dsimp only
    rw [w64 (x := (nd z : Int) - K - 1 + 1) (by omega) (by omega), w64 (x := (nd z : Int) - K - 1 + 1 - n) (by omega) (by omega)]
    have hat := At_dk (m := m) hp hM hv (p := (nd z : Int) - K - 1 + 1 - n) (by omega) (by omega) m0 m6
    rw [show ((nd z : Int) - K - 1 + 1 - n + K).toNat = nd z - n.toNat by omega] at hat
    exact Ev.bind hat (Ev.now _)
/-! what may be asked -/
theorem in_ev (a lo hi : Int) : show_in.f a lo hi = some (decide (lo ≤ a ∧ a ≤ hi)) := by
  unfold show_in.f
  by_cases h : a ≥ lo
  · rw [_root_.if_pos h]; congr 1; rw [decide_eq_decide]; omega
  · rw [_root_.if_neg h]; congr 1; exact (decide_eq_false (by omega)).symm
/-- what hangs on the kind -/
def okK (kd mn mx : Int) (i : D) : Bool :=
  if kd = 0 then decide (mn ≤ mx ∧ mx ≤ 100) else if kd = 1 then decide (1 ≤ mn ∧ mn ≤ mx ∧ mx ≤ 100)
  else if kd = 2 then !i.neg && decide (1 ≤ (mkl i.m).length ∧ (mkl i.m).length ≤ 9 ∧ -100 ≤ i.e ∧ i.e ≤ 100) else false
def okP (kd mn mx : Int) (i : D) (m mi : Int) : Bool := decide (0 ≤ m ∧ m ≤ 6 ∧ 0 ≤ mi ∧ mi ≤ 100 ∧ 0 ≤ mn ∧ mn ≤ 100) && okK kd mn mx i
theorem Valid_j0t (kd mn mx : Int) (n : Bool) (b : ByteArray) (x m mi : Int) : Ev (fun k => show_Prec_Valid.j0 k true kd mn mx n b x m mi) false :=
  Ev.step (f := fun _ => some false) (fun k => by rw [show_Prec_Valid.j0, _root_.if_pos rfl]) (Ev.now _)
theorem Valid_j0f {kd mn mx : Int} {n : Bool} {b : List UInt8} {x m mi : Int} {i : D} (hv : Val n b x i) : Ev (fun k => show_Prec_Valid.j0 k false kd mn mx n (S b) x m mi) (okK kd mn mx i) := by
  refine Ev.step (fun k => (by rw [show_Prec_Valid.j0, _root_.if_neg (by decide)])) ?_
  unfold okK
  by_cases h0 : kd = 0
  · rw [_root_.if_pos h0]
    exact Ev.if_pos h0 (Ev.const (in_ev _ _ _) (Ev.now _))
  rw [_root_.if_neg h0]
  refine Ev.if_neg h0 ?_
  by_cases h1 : kd = 1
  · rw [_root_.if_pos h1]
    refine Ev.if_pos h1 ?_
    by_cases h2 : mn ≥ 1
    · refine Ev.if_pos h2 (Ev.const (in_ev _ _ _) ?_)
      rw [show decide (1 ≤ mn ∧ mn ≤ mx ∧ mx ≤ 100) = decide (mn ≤ mx ∧ mx ≤ 100) from decide_eq_decide.2 (by omega)]
      exact Ev.now _
    · refine Ev.if_neg h2 ?_
      rw [decide_eq_false (by omega)]
      exact Ev.now _
  rw [_root_.if_neg h1]
  refine Ev.if_neg h1 ?_
  by_cases h2 : kd = 2
  · rw [_root_.if_pos h2]
    refine Ev.if_pos h2 (Ev.bind hv.norm ?_)
    rw [tri1, tri2, tri3, S_size]
    cases hn : i.neg with
    | true => exact Ev.if_pos rfl (Ev.now _)
    | false =>
      refine Ev.if_neg (by decide) (Ev.const (in_ev _ _ _) ?_)
      by_cases h3 : (1 : Int) ≤ ((mkl i.m).length : Int) ∧ ((mkl i.m).length : Int) ≤ 9
      · refine Ev.if_pos (decide_eq_true h3) (Ev.const (in_ev _ _ _) ?_)
        rw [show (!false && decide (1 ≤ (mkl i.m).length ∧ (mkl i.m).length ≤ 9 ∧ -100 ≤ i.e ∧ i.e ≤ 100)) = decide (-100 ≤ i.e ∧ i.e ≤ 100) by rw [Bool.not_false, Bool.true_and]; exact decide_eq_decide.2 (by omega)]
        exact Ev.now _
      · refine Ev.if_neg (by rw [decide_eq_true_eq]; exact h3) ?_
        rw [Bool.not_false, Bool.true_and, decide_eq_false (by omega)]
        exact Ev.now _
  · rw [_root_.if_neg h2]
    exact Ev.if_neg h2 (Ev.now _)
theorem PValid_ev {kd mn mx : Int} {n : Bool} {b : List UInt8} {x m mi : Int} {i : D} (hv : Val n b x i) : Ev (fun k => show_Prec_Valid.f k kd mn mx n (S b) x m mi) (okP kd mn mx i m mi) := by
  unfold show_Prec_Valid.f
  have no : ∀ {P : Prop} [Decidable P], ¬ P → Ev (fun k => show_Prec_Valid.j0 k true kd mn mx n (S b) x m mi) (decide P && okK kd mn mx i) := by
    intro P _ h
    rw [decide_eq_false h, Bool.false_and]
    exact Valid_j0t ..
  unfold okP
  refine Ev.const (Valid_ev m) ?_
  by_cases h1 : 0 ≤ m ∧ m ≤ 6
  case neg => exact Ev.if_neg (by unfold okM; rw [decide_eq_true_eq]; exact h1) (no (by omega))
  refine Ev.if_pos (decide_eq_true h1) (Ev.const (in_ev _ _ _) ?_)
  by_cases h2 : 0 ≤ mi ∧ mi ≤ 100
  case neg => exact Ev.if_neg (by rw [decide_eq_true_eq]; exact h2) (no (by omega))
  refine Ev.if_pos (decide_eq_true h2) (Ev.const (in_ev _ _ _) ?_)
  by_cases h3 : 0 ≤ mn ∧ mn ≤ 100
  case neg => rw [decide_eq_false h3]; exact no (by omega)
  rw [decide_eq_true h3, decide_eq_true (by omega), Bool.true_and]
  exact Valid_j0f hv
/-- what is asked, in the bounds of the laws -/
structure Pr (K M : Nat) (kd mn mx : Int) (i : D) (m mi : Int) (V : Nat) : Prop where
  k0 : 0 ≤ kd
  k2 : kd ≤ 2
  m0 : 0 ≤ m
  m6 : m ≤ 6
  i0 : 0 ≤ mi
  i1 : mi ≤ 100
  n0 : 0 ≤ mn
  n1 : mn ≤ 100
  n2 : kd ≠ 2 → mn ≤ mx
  x1 : mx ≤ 100
  sig : kd = 1 → 1 ≤ mn
  inc : kd = 2 → i = dk K (V : Int) ∧ Inc M K V ∧ (mkl i.m).length ≤ 9 ∧ -100 ≤ i.e ∧ i.e ≤ 100
  non : kd ≠ 2 → i = D0
/-- the unit that is asked, but for digits from the first one on -/
def U0f (K : Nat) (kd mx : Int) (V : Nat) : Nat := if kd = 0 then 10 ^ (-mx + (K : Int)).toNat else V
/-- what is shown, rounded -/
def shw (K : Nat) (kd mx m : Int) (V : Nat) (z : Int) : Int := rnd m z (Uf (decide (kd = 1)) mx.toNat (U0f K kd mx V) z)
theorem Pr.val {K M : Nat} {kd mn mx : Int} {i : D} {m mi : Int} {V : Nat} (h : Pr K M kd mn mx i m mi V) : Val i.neg (mkl i.m) i.e i := by
  by_cases hk : kd = 2
  · obtain ⟨h1, h2, -⟩ := h.inc hk
    rw [h1]; exact Val.dk h2.plc
  · rw [h.non hk, show D0.m = 0 from rfl, mkl_zero]
    exact ⟨Dig.nil, by simp, by rw [nvl_nil, nrm_zero]⟩
theorem Pr.ok {K M : Nat} {kd mn mx : Int} {i : D} {m mi : Int} {V : Nat} (h : Pr K M kd mn mx i m mi V) : okP kd mn mx i m mi = true := by
  have := h.k0; have := h.k2; have := h.x1
  unfold okP okK
  rw [decide_eq_true (show 0 ≤ m ∧ m ≤ 6 ∧ 0 ≤ mi ∧ mi ≤ 100 ∧ 0 ≤ mn ∧ mn ≤ 100 from ⟨h.m0, h.m6, h.i0, h.i1, h.n0, h.n1⟩), Bool.true_and]
  by_cases h0 : kd = 0
  · rw [_root_.if_pos h0]; exact decide_eq_true ⟨h.n2 (by omega), h.x1⟩
  rw [_root_.if_neg h0]
  by_cases h1 : kd = 1
  · rw [_root_.if_pos h1]; exact decide_eq_true ⟨h.sig h1, h.n2 (by omega), h.x1⟩
  rw [_root_.if_neg h1, _root_.if_pos (by omega)]
  obtain ⟨e1, e2, e3, e4, e5⟩ := h.inc (by omega)
  have hV : (V : Int) ≠ 0 := by have := e2.pos; omega
  have hm := (dk_mod (K := K) hV).2
  have hn : i.neg = false := by rw [e1, dk_neg]; exact decide_eq_false (by omega)
  have hl : 0 < (mkl i.m).length := by
    rcases Nat.eq_zero_or_pos (mkl i.m).length with h | h
    · have := List.eq_nil_of_length_eq_zero h
      rw [mkl_eq_nil, e1] at this; omega
    · exact h
  rw [hn, Bool.not_false, Bool.true_and]
  exact decide_eq_true ⟨hl, e3, e4, e5⟩
theorem shw_zero (K : Nat) (kd mx m : Int) (V : Nat) : shw K kd mx m V 0 = 0 := rnd_zero _ _
theorem Round_dk {K M : Nat} {kd mn mx : Int} {i : D} {m mi : Int} {V : Nat} (h : Pr K M kd mn mx i m mi V) {neg : Bool} {l : List UInt8} {e z : Int} (hp : Plc M K z) (hM : 2 * M ≤ 28000) (hKM : 100 ≤ K) (hv : Val neg l e (dk K z)) (hs : kd = 1 → z ≠ 0 → mx ≤ nd z) :
    Ev (fun k => show_Prec_Round.f k kd mn mx (tri i).1 (tri i).2.1 (tri i).2.2 m mi neg (S l) e) (tri (dk K (shw K kd mx m V z))) := by
  unfold show_Prec_Round.f
  have hok := PValid_ev (kd := kd) (mn := mn) (mx := mx) (m := m) (mi := mi) h.val
  rw [h.ok] at hok
  have := h.k0; have := h.k2; have := h.n0; have hn2 := h.n2; have := h.x1; have := hp.hK
  refine Ev.bind hok (Ev.if_pos rfl ?_)
  unfold shw Uf U0f
  by_cases h0 : kd = 0
  · rw [_root_.if_neg (by rw [decide_eq_true_eq]; omega), _root_.if_pos h0]
    refine Ev.if_pos h0 ?_
    have := hn2 (by omega)
    have hat := At_dk (m := m) hp (by omega) hv (p := -mx) (by omega) (by omega) h.m0 h.m6
    rw [w64 (x := -mx) (by omega) (by omega)]
    exact Ev.bind hat (Ev.now _)
  refine Ev.if_neg h0 ?_
  by_cases h1 : kd = 1
  · rw [_root_.if_pos (decide_eq_true h1)]
    have := h.sig h1
    have := hn2 (by omega)
    exact Ev.if_pos h1 (Ev.bind (Sig_dk hp (by omega) hv h.m0 h.m6 (by omega) (hs h1) (by omega)) (Ev.now _))
  · rw [_root_.if_neg (by rw [decide_eq_true_eq]; exact h1), _root_.if_neg h0]
    obtain ⟨e1, e2, -⟩ := h.inc (by omega)
    rw [e1]
    exact Ev.if_neg h1 (Ev.bind (Step_dk hp hM hv e2 h.m0 h.m6) (Ev.now _))
/-- how many digits behind the point there must be -/
def lst (K : Nat) (kd mn r : Int) : Nat := if kd = 1 then (mn - 1 - (magD (dk K r)).1).toNat else mn.toNat
theorem magD_le {M K : Nat} {r : Int} (hr : Plc M K r) : -(K : Int) - 1 ≤ (magD (dk K r)).1 ∧ (magD (dk K r)).1 ≤ M := by
  have := nd_le hr
  rw [magD_dk]
  split <;> dsimp only <;> omega
theorem lst_le {M K : Nat} {kd mn r : Int} (hr : Plc M K r) (h : mn ≤ 100) : lst K kd mn r ≤ 100 + K := by
  have := (magD_le hr).1
  unfold lst
  split <;> omega
theorem least_ev {M K : Nat} {kd mn t : Int} {n : Bool} {b : ByteArray} {x m mi r : Int} (hr : Plc M K r) (h0 : 0 ≤ mn) (h1 : mn ≤ 100) :
    Ev (fun k => show_Prec_least.f k kd mn t n b x m mi (tri (dk K r)).1 (tri (dk K r)).2.1 (tri (dk K r)).2.2) (lst K kd mn r : Int) := by
  unfold show_Prec_least.f lst
  have hv := Val.dk hr
  have hg := Mag_tri (dk K r) hv.few
  rw [← dk_norm hr] at hg
  obtain ⟨g1, g2⟩ := magD_le hr
  have := hr.hK; have := hr.hM
  by_cases h : kd = 1
  · rw [_root_.if_pos h]
    refine Ev.if_pos h (Ev.bind hg ?_)
    rw [w64 (x := mn - 1) (by omega) (by omega), w64 (by omega) (by omega)]
    rw [show mx (mn - 1 - (magD (dk K r)).1) 0 = (((mn - 1 - (magD (dk K r)).1).toNat : Nat) : Int) by unfold mx; split <;> omega]
    exact Ev.now _
  · rw [_root_.if_neg h, show ((mn.toNat : Nat) : Int) = mn by omega]
    exact Ev.if_neg h (Ev.now _)
theorem pad_ev (l : List UInt8) (n : Nat) (hl : l.length ≤ 1000000) (hn : n ≤ 60000) : show_pad.f (S l) (n : Int) = some (S (l ++ zs (n - l.length))) := by
  unfold show_pad.f
  rw [S_size, w64 (by omega) (by omega), Zeros_ev, Option.bind_some, S_size, zs_length, _root_.if_pos (by omega), S_append]
  rw [show min ((n : Int) - (l.length : Int)).toNat 60000 = n - l.length by omega]
/-- what is shown of a decimal, rounded as it may be -/
theorem Apply_gen {K M : Nat} {kd mn t m mi : Int} {n : Bool} {b : ByteArray} {x : Int} {neg : Bool} {l : ByteArray} {e r : Int} (n0 : 0 ≤ mn) (n1 : mn ≤ 100) (i0 : 0 ≤ mi) (i1 : mi ≤ 100) (hrp : Plc M K r)
    (hok : Ev (fun k => show_Prec_Valid.f k kd mn t n b x m mi) true) (hro : Ev (fun k => show_Prec_Round.f k kd mn t n b x m mi neg l e) (tri (dk K r))) :
    Ev (fun k => show_Prec_Apply.f k kd mn t n b x m mi neg l e)
      ((dk K r).neg, S (visI mi.toNat (dk K r) (visF (lst K kd mn r) (dk K r))), S (visF (lst K kd mn r) (dk K r)), 0) := by
  unfold show_Prec_Apply.f
  have hV := Val.dk hrp
  have hpa := Parts_tri (dk K r) hV.few
  rw [← dk_norm hrp] at hpa
  have hle := least_ev (kd := kd) (mn := mn) (t := t) (n := n) (b := b) (x := x) (m := m) (mi := mi) hrp n0 n1
  have hlb := lst_le (kd := kd) (mn := mn) hrp n1
  have hK := hrp.hK; have hM2 := hrp.hM
  have hwl := wholeN_len_le hV.few
  have hpl : (partL (dk K r).m (dk K r).e).length ≤ 30000 := by rw [partL_length]; have := hV.few.2.1; omega
  refine Ev.bind hok (Ev.if_pos rfl (Ev.bind hro (Ev.bind hpa (Ev.bind hle ?_))))
  dsimp only
  obtain ⟨W, hW⟩ : ∃ W, mkl (wholeN (dk K r).m (dk K r).e) = W := ⟨_, rfl⟩
  unfold visI visF
  rw [hW] at hwl ⊢
  obtain ⟨Q, hQ⟩ : ∃ Q, partL (dk K r).m (dk K r).e = Q := ⟨_, rfl⟩
  rw [hQ] at hpl ⊢
  refine Ev.const (pad_ev Q (lst K kd mn r) (by omega) (by omega)) ?_
  refine Ev.const (show num_Zeros.f (wrap64 (mi - ((S W).size : Int))) = some (S (zs (mi.toNat - W.length))) by
    rw [S_size, w64 (by omega) (by omega), Zeros_ev, show min (mi - (W.length : Int)).toNat 60000 = mi.toNat - W.length by omega]) ?_
  refine Ev.if_pos (by rw [S_size, S_size, zs_length]; omega) ?_
  rw [S_append, S_toList, S_toList, tri1]
  by_cases h1 : zs (mi.toNat - W.length) ++ W = []
  · refine Ev.if_pos h1 ?_
    by_cases h2 : Q ++ zs (lst K kd mn r - Q.length) = []
    · rw [show (if zs (mi.toNat - W.length) ++ W = [] ∧ Q ++ zs (lst K kd mn r - Q.length) = [] then [48] else zs (mi.toNat - W.length) ++ W) = [48] from _root_.if_pos ⟨h1, h2⟩]
      exact Ev.if_pos h2 (Ev.now _)
    · rw [show (if zs (mi.toNat - W.length) ++ W = [] ∧ Q ++ zs (lst K kd mn r - Q.length) = [] then [48] else zs (mi.toNat - W.length) ++ W) = zs (mi.toNat - W.length) ++ W from _root_.if_neg (fun hh => h2 hh.2)]
      exact Ev.if_neg h2 (Ev.now _)
  · rw [show (if zs (mi.toNat - W.length) ++ W = [] ∧ Q ++ zs (lst K kd mn r - Q.length) = [] then [48] else zs (mi.toNat - W.length) ++ W) = zs (mi.toNat - W.length) ++ W from _root_.if_neg (fun hh => h1 hh.1)]
    exact Ev.if_neg h1 (Ev.now _)
/-- what is shown of a decimal -/
theorem Apply_dk {K M : Nat} {kd mn mx : Int} {i : D} {m mi : Int} {V : Nat} (h : Pr K M kd mn mx i m mi V) {neg : Bool} {l : List UInt8} {e z : Int} (hp : Plc M K z) (hM : 2 * M ≤ 28000) (hKM : 100 ≤ K) (hv : Val neg l e (dk K z)) (hs : kd = 1 → z ≠ 0 → mx ≤ nd z)
    {r : Int} (hr : shw K kd mx m V z = r) (hrp : Plc (M + 1) K r) :
    Ev (fun k => show_Prec_Apply.f k kd mn mx (tri i).1 (tri i).2.1 (tri i).2.2 m mi neg (S l) e)
      ((dk K r).neg, S (visI mi.toNat (dk K r) (visF (lst K kd mn r) (dk K r))), S (visF (lst K kd mn r) (dk K r)), 0) := by
  have hok := PValid_ev (kd := kd) (mn := mn) (mx := mx) (m := m) (mi := mi) h.val
  rw [h.ok] at hok
  have hro := Round_dk h hp hM hKM hv hs
  rw [hr] at hro
  exact Apply_gen h.n0 h.n1 h.i0 h.i1 hrp hok hro
theorem Value_dk {K M : Nat} {r : Int} (hrp : Plc M K r) {a b : Nat} (hb : b ≤ 1000) (ha : a ≤ 1000) (hM : M ≤ 20000) : Ev (fun k => show_Vis_Value.f k (dk K r).neg (S (visI a (dk K r) (visF b (dk K r)))) (S (visF b (dk K r)))) (tri (dk K r)) := by
  unfold show_Vis_Value.f
  have hV := Val.dk hrp
  have e1 := dk_e_ge K r
  have e2 := dk_e_lt hrp.hz hrp.hK
  have hK := hrp.hK
  have hwl := wholeN_len_le hV.few
  have hlI : (visI a (dk K r) (visF b (dk K r))).length ≤ 100040000 := by
    unfold visI
    split
    · decide
    · rw [List.length_append, zs_length]; omega
  have hlF : (visF b (dk K r)).length ≤ 40000 := by rw [visF_length]; omega
  refine Ev.if_pos (by rw [S_size, S_size]; omega) ?_
  rw [S_append, S_size]
  have hm := Made_ev (dk K r).neg (visI a (dk K r) (visF b (dk K r)) ++ visF b (dk K r)) (by rw [List.length_append]; omega) ((dig_visI _ _ _).append (dig_visF _ _)) (-((visF b (dk K r)).length : Int))
  rw [vis_value (dk_norm hrp).symm (by omega) (by omega) hb] at hm
  exact Ev.bind hm (Ev.now _)
end Go.Proofs.YthkpmiajcmihjaaGreatDoor.P
namespace Go.Proofs.YthkpmiajcmihjaaGreatDoor.P
open Go.RowKit Go.Proofs.YthkpmiajcmihjaaGreatDoorW.PrintWords Go.Proofs.YthkpmiajcmihjaaGreatDoorW.PrintLast Go.Proofs.YthkpmiajcmihjaaGreatDoorW.PrintMore Go.Proofs.YthkpmiajcmihjaaGreatDoor.FM
set_option linter.unusedVariables false
set_option linter.unusedSimpArgs false

/-! what is asked as it is made -/
theorem tmod4 (a : Int) : -3 ≤ Int.tmod a 4 ∧ Int.tmod a 4 ≤ 3 := by
  have h1 := Int.tmod_lt_of_pos a (show (0 : Int) < 4 by decide)
  have h2 := Int.lt_tmod_of_pos a (show (0 : Int) < 4 by decide)
  omega
theorem Pr.up {K M M' : Nat} {kd mn mx : Int} {i : D} {m mi : Int} {V : Nat} (h : Pr K M kd mn mx i m mi V) (h1 : M ≤ M') (h2 : M' ≤ 29000) : Pr K M' kd mn mx i m mi V :=
  ⟨h.k0, h.k2, h.m0, h.m6, h.i0, h.i1, h.n0, h.n1, h.n2, h.x1, h.sig, fun hk => by
      obtain ⟨e1, e2, e3⟩ := h.inc hk
      exact ⟨e1, ⟨e2.plc.up h1 h2, e2.pos, e2.small⟩, e3⟩, h.non⟩
theorem U0f_le {K M : Nat} {kd mn mx : Int} {i : D} {m mi : Int} {V : Nat} (h : Pr K M kd mn mx i m mi V) (hK : K ≤ M) (h1 : kd ≠ 1) : U0f K kd mx V ≤ 10 ^ M := by
  have := h.k0; have := h.k2; have := h.n0
  unfold U0f
  split
  · have := h.n2 (by omega)
    exact Nat.pow_le_pow_right (by decide) (by omega)
  · exact inc_le (h.inc (by omega)).2.1
theorem shw_plc {K M : Nat} {kd mn mx : Int} {i : D} {m mi : Int} {V : Nat} (h : Pr K M kd mn mx i m mi V) {z : Int} (hz : Plc M K z) (hM : M + 1 ≤ 29000) : Plc (M + 1) K (shw K kd mx m V z) := by
  unfold shw Uf
  by_cases h1 : kd = 1
  · rw [_root_.if_pos (decide_eq_true h1)]
    refine ⟨Nat.le_succ_of_le hz.hK, hM, ?_⟩
    have h2 := sig_top m z (mx := mx.toNat)
    have h3 : 10 ^ nd z ≤ 10 ^ M := Nat.pow_le_pow_right (by decide) (nd_le hz)
    rw [Nat.pow_succ]
    have := Nat.pow_pos (n := M) (show 0 < 10 by decide)
    omega
  · rw [_root_.if_neg (by rw [decide_eq_true_eq]; exact h1)]
    exact rnd_plc hz hM (U0f_le h hz.hK h1)
/-- a raw decimal has digits enough -/
theorem raw_nd {neg : Bool} {n : Nat} {e : Int} (he : -40 ≤ e) {K : Nat} (hK : 40 ≤ K) (hz : raw K neg n e ≠ 0) : (K : Int) - 40 ≤ nd (raw K neg n e) := by
  have h1 := nd_lt (raw K neg n e)
  unfold raw at hz h1 ⊢
  rw [sg_natAbs] at h1
  have hn : 0 < n * 10 ^ (e + K).toNat := by
    rcases Nat.eq_zero_or_pos (n * 10 ^ (e + K).toNat) with h | h
    · exact absurd (by rw [h, sg_zero]) hz
    · exact h
  have hn2 : 0 < n := Nat.pos_of_mul_pos_right hn
  have h2 : 10 ^ (e + K).toNat ≤ n * 10 ^ (e + K).toNat := Nat.le_mul_of_pos_left _ hn2
  have h3 := (Nat.pow_lt_pow_iff_right (by decide : 1 < 10)).1 (Nat.lt_of_le_of_lt h2 h1)
  omega
theorem raw_nd_30 {neg : Bool} {n : Nat} {e : Int} (he : -30 ≤ e) {K : Nat} (hK : 40 ≤ K) (hz : raw K neg n e ≠ 0) : K - 30 < nd (raw K neg n e) := by
  have h1 := nd_lt (raw K neg n e)
  unfold raw at hz h1 ⊢
  rw [sg_natAbs] at h1
  have hn : 0 < n * 10 ^ (e + K).toNat := by
    rcases Nat.eq_zero_or_pos (n * 10 ^ (e + K).toNat) with h | h
    · exact absurd (by rw [h, sg_zero]) hz
    · exact h
  have hn2 : 0 < n := Nat.pos_of_mul_pos_right hn
  have h2 : 10 ^ (e + K).toNat ≤ n * 10 ^ (e + K).toNat := Nat.le_mul_of_pos_left _ hn2
  have h3 := (Nat.pow_lt_pow_iff_right (by decide : 1 < 10)).1 (Nat.lt_of_le_of_lt h2 h1)
  omega
/-- what is rounded from the first digit on isn't less than that digit's place -/
theorem shw_nd_low {K M : Nat} {kd mn mx : Int} {i : D} {m mi : Int} {V : Nat} (h : Pr K M kd mn mx i m mi V) {z : Int} (hz : Plc M K z) {q : Nat} (hq : q < nd z) (hr : shw K kd mx m V z ≠ 0) : kd = 1 → q < nd (shw K kd mx m V z) := by
  intro hk
  have hz0 : z ≠ 0 := fun h0 => hr (by rw [h0, shw_zero])
  have := h.sig hk; have := h.n2 (by omega)
  have h3 := sig_low m hz0 (mx := mx.toNat) (by omega)
  have h4 : shw K kd mx m V z = rnd m z (10 ^ (nd z - mx.toNat)) := by unfold shw Uf; rw [_root_.if_pos (decide_eq_true hk)]
  rw [← h4] at h3
  have h7 := (Nat.pow_lt_pow_iff_right (by decide : 1 < 10)).1 (Nat.lt_of_le_of_lt h3 (nd_lt (shw K kd mx m V z)))
  omega
theorem lst_small {K M : Nat} {kd mn mx : Int} {i : D} {m mi : Int} {V : Nat} (h : Pr K M kd mn mx i m mi V) {z : Int} (hz : Plc M K z) (hK : 40 ≤ K) (h5 : z ≠ 0 → K - 30 < nd z) (b2 : mn ≤ 8) : lst K kd mn (shw K kd mx m V z) ≤ 190 := by
  have := h.n0
  unfold lst
  by_cases hk : kd = 1
  · rw [_root_.if_pos hk, magD_dk]
    by_cases hz0 : z = 0
    · rw [hz0, shw_zero, _root_.if_pos rfl]; dsimp only; omega
    by_cases hne : shw K kd mx m V z = 0
    · rw [_root_.if_pos hne]; dsimp only; omega
    · rw [_root_.if_neg hne]
      have h6 := shw_nd_low h hz (h5 hz0) hne hk
      dsimp only; omega
  · rw [_root_.if_neg hk]; omega
theorem Prec_j0 {Q : Nat} (hQ : Q = 600) {kd mn m mi : Int} (a0 a1 a2 a3 a4 a5 a6 : Int) (k0 : 0 ≤ kd) (k2 : kd ≤ 2) (n0 : 0 ≤ mn) (n1 : mn ≤ 8) (m0 : 0 ≤ m) (m6 : m ≤ 6) (i0 : 0 ≤ mi) (i1 : mi ≤ 7) (hs : kd = 1 → 1 ≤ mn) :
    ∃ (mx : Int) (i : D) (V : Nat), Pr 200 Q kd mn mx i m mi V ∧ mx ≤ 15 ∧ mn ≤ 8 ∧ mi ≤ 7 ∧
      Ev (fun k => florinlaw04_Ask_Prec.j0 k a0 a1 a2 a3 a4 a5 a6 kd mn 0 false (⟨#[]⟩ : ByteArray) 0 m mi) (kd, mn, mx, (tri i).1, (tri i).2.1, (tri i).2.2, m, mi) := by
  obtain ⟨c, hc, hc2⟩ := low64 3 (by decide) a2 7 (by decide)
  replace hc2 : c < 8 := hc2
  have hw : wrap64 (mn + (c : Int)) = mn + c := w64 (by omega) (by omega)
  by_cases h2 : kd = 2
  · obtain ⟨n, hn, hn2⟩ := low64 16 (by decide) a5 65535 (by decide)
    replace hn2 : n < 65536 := hn2
    have ht := tmod4 a6
    obtain ⟨p, hp⟩ : ∃ p, Int.tmod a6 4 - 3 = p := ⟨_, rfl⟩
    have hpw : wrap64 (Int.tmod a6 4 - 3) = p := by rw [w64 (by omega) (by omega)]; exact hp
    have hlt : (n + 1) * 10 ^ (p + ((200 : Nat) : Int)).toNat < 10 ^ Q := by
      have h1 : n + 1 < 10 ^ 9 := by omega
      refine Nat.lt_of_lt_of_le (Nat.mul_lt_mul_of_pos_right h1 (Nat.pow_pos (by decide))) ?_
      rw [← Nat.pow_add]
      exact Nat.pow_le_pow_right (by decide) (by omega)
    have hU := inc_of (M := Q) (K := 200) (N := n + 1) (p := p) (by omega) (by omega) (by omega) (by omega) hlt
    have lN : (mkl (n + 1)).length ≤ 5 := mkl_length_le.2 (by omega)
    have hby := Made_tri false (n + 1) (by omega) p
    have hnu := nrm_units (M := Q) (K := 200) (p := p) (by omega) (by omega) (by omega) hlt (by omega)
    have hb : (mkl (dk 200 (((n + 1) * 10 ^ (p + ((200 : Nat) : Int)).toNat : Nat) : Int)).m).length ≤ 9 ∧ -100 ≤ (dk 200 (((n + 1) * 10 ^ (p + ((200 : Nat) : Int)).toNat : Nat) : Int)).e ∧ (dk 200 (((n + 1) * 10 ^ (p + ((200 : Nat) : Int)).toNat : Nat) : Int)).e ≤ 100 := by
      rw [← hnu, nrm_pos (by omega)]
      have hst := st_snd_lt (n := n + 1) (k := 5) (by omega) (by omega)
      have hml := mkl_length_mono (st_le (n + 1))
      dsimp only
      rw [held_of (x := p) (by omega) (by omega), held_of (by omega) (by omega)]
      omega
    rw [hnu] at hby
    refine ⟨mn + c, _, _, ⟨k0, k2, m0, m6, i0, by omega, n0, by omega, fun _ => by omega, by omega, hs, fun _ => ⟨rfl, hU, hb⟩, fun h => absurd h2 h⟩, by omega, n1, i1, ?_⟩
    refine Ev.step (fun k => (by rw [florinlaw04_Ask_Prec.j0, hc, hw, hn, hpw])) ?_
    refine Ev.if_pos h2 ?_
    rw [show wrap64 (1 + (n : Int)) = ((n + 1 : Nat) : Int) by rw [w64 (by omega) (by omega)]; omega]
    exact Ev.bind (Of_ev (n + 1) (by omega)) (Ev.bind hby (Ev.now _))
  · refine ⟨mn + c, D0, 1, ⟨k0, k2, m0, m6, i0, by omega, n0, by omega, fun _ => by omega, by omega, hs, fun h => absurd h h2, fun _ => rfl⟩, by omega, n1, i1, ?_⟩
    refine Ev.step (fun k => (by rw [florinlaw04_Ask_Prec.j0, hc, hw])) ?_
    refine Ev.if_neg h2 ?_
    rw [tri_D0]
    exact Ev.now _
theorem Prec_ev {Q : Nat} (hQ : Q = 600) (a0 a1 a2 a3 a4 a5 a6 : Int) :
    ∃ (kd mn mx : Int) (i : D) (m mi : Int) (V : Nat), Pr 200 Q kd mn mx i m mi V ∧ mx ≤ 15 ∧ mn ≤ 8 ∧ mi ≤ 7 ∧
      Ev (fun k => florinlaw04_Ask_Prec.f k a0 a1 a2 a3 a4 a5 a6) (kd, mn, mx, (tri i).1, (tri i).2.1, (tri i).2.2, m, mi) := by
  obtain ⟨m, hm, m0, m6⟩ := Mode_ev a3
  obtain ⟨kd, hk, k0, k2⟩ := u64_mod a0 3 (by decide) (by decide)
  obtain ⟨n, hn, hn2⟩ := low64 3 (by decide) a1 7 (by decide)
  replace hn2 : n < 8 := hn2
  obtain ⟨i, hi, hi2⟩ := low64 3 (by decide) a4 7 (by decide)
  replace hi2 : i < 8 := hi2
  have hw : wrap64 ((n : Int) + 1) = n + 1 := w64 (by omega) (by omega)
  by_cases h1 : kd = 1
  · obtain ⟨mx, d, V, hp, b1, b2, b3, hev⟩ := Prec_j0 hQ (kd := kd) (mn := n + 1) (m := m) (mi := i) a0 a1 a2 a3 a4 a5 a6 k0 (by omega) (by omega) (by omega) m0 m6 (by omega) (by omega) (by omega)
    refine ⟨kd, n + 1, mx, d, m, i, V, hp, b1, b2, b3, ?_⟩
    unfold florinlaw04_Ask_Prec.f
    refine Ev.const hm ?_
    rw [hk, hn, hi, hw]
    exact Ev.if_pos h1 hev
  · obtain ⟨mx, d, V, hp, b1, b2, b3, hev⟩ := Prec_j0 hQ (kd := kd) (mn := n) (m := m) (mi := i) a0 a1 a2 a3 a4 a5 a6 k0 (by omega) (by omega) (by omega) m0 m6 (by omega) (by omega) (fun h => absurd h h1)
    refine ⟨kd, n, mx, d, m, i, V, hp, b1, b2, b3, ?_⟩
    unfold florinlaw04_Ask_Prec.f
    refine Ev.const hm ?_
    rw [hk, hn, hi]
    exact Ev.if_neg h1 hev
theorem Text_ev (neg : Bool) (i f : List UInt8) (h1 : i.length ≤ 1000000000) (h2 : f.length ≤ 1000000000) : show_Vis_Text.f neg (S i) (S f) = some (S (show_Vis_Text.L neg i f)) := by
  unfold show_Vis_Text.f
  rw [_root_.if_pos (by rw [S_size, S_size]; omega)]
  rfl
theorem head04_val {c : Nat} (hc : c = 10 ^ 99) : dk 100 ((12345 * c : Nat) : Int) = ⟨false, 12345, -1⟩ := by
  obtain ⟨Q, hQ⟩ : ∃ Q : Nat, Q = 200 := ⟨_, rfl⟩
  have h := (nrm_raw (neg := false) (n := 12345) (e := -1) (K := 100) (k := 5) (M := Q) (by omega) (by omega) (by decide) (by decide) (by rw [show ((-1 : Int) + ((100 : Nat) : Int)).toNat = 99 by decide]; omega)).1
  unfold raw at h
  rw [show ((-1 : Int) + ((100 : Nat) : Int)).toNat = 99 by decide, ← hc] at h
  have hs : st 12345 = (12345, 0) := st_uniq (m := 12345) (k := 0) (by decide)
  rw [nrm_pos (by decide), hs] at h
  rw [show ((12345 * c : Nat) : Int) = sg false (12345 * c) from rfl, ← h]
  rfl
theorem head04_val2 {c : Nat} (hc : c = 10 ^ 99) : dk 100 ((12000 * c : Nat) : Int) = ⟨false, 12, 2⟩ := by
  obtain ⟨Q, hQ⟩ : ∃ Q : Nat, Q = 200 := ⟨_, rfl⟩
  have h := (nrm_raw (neg := false) (n := 12000) (e := -1) (K := 100) (k := 5) (M := Q) (by omega) (by omega) (by decide) (by decide) (by rw [show ((-1 : Int) + ((100 : Nat) : Int)).toNat = 99 by decide]; omega)).1
  unfold raw at h
  rw [show ((-1 : Int) + ((100 : Nat) : Int)).toNat = 99 by decide, ← hc] at h
  have hs : st 12000 = (12, 3) := st_uniq (m := 12) (k := 3) (by decide)
  rw [nrm_pos (by decide), hs] at h
  rw [show ((12000 * c : Nat) : Int) = sg false (12000 * c) from rfl, ← h]
  rfl
theorem head04_nd {c : Nat} (hc : c = 10 ^ 99) : nd ((12345 * c : Nat) : Int) = 104 := by
  have h := dk_mag (K := 100) (z := ((12345 * c : Nat) : Int)) (by have := Nat.pow_pos (n := 99) (show 0 < 10 by decide); omega)
  rw [head04_val hc] at h
  have hl : (mkl 12345).length = 5 := by rw [mkl_lit [49, 50, 51, 52, 53] (by decide) (by unfold Dig; decide) (by unfold Bare; decide)]; rfl
  dsimp only at h
  rw [hl] at h
  omega
theorem mul_pos99 {c : Nat} (hc : c = 10 ^ 99) : 0 < c := by rw [hc]; exact Nat.pow_pos (by decide)
theorem head04 : Ev (fun k => florinlaw04_head.f k) true := by
  unfold florinlaw04_head.f
  obtain ⟨c, hc⟩ : ∃ c, c = 10 ^ 99 := ⟨_, rfl⟩
  obtain ⟨Q, hQ⟩ : ∃ Q : Nat, Q = 200 := ⟨_, rfl⟩
  have hcp := mul_pos99 hc
  have hv := head04_val hc
  have hv2 := head04_val2 hc
  have hnd := head04_nd hc
  have hz : Plc Q 100 ((12345 * c : Nat) : Int) := ⟨by omega, by omega, by
    rw [Int.natAbs_natCast, hc]
    refine Nat.lt_of_lt_of_le (Nat.mul_lt_mul_of_pos_right (show 12345 < 10 ^ 5 by decide) (Nat.pow_pos (by decide))) ?_
    rw [← Nat.pow_add]
    exact Nat.pow_le_pow_right (by decide) (by omega)⟩
  have hm := Made_ev false [49, 50, 51, 52, 53] (by decide) (by unfold Dig; decide) (-1)
  rw [show nvl [49, 50, 51, 52, 53] = 12345 by decide, show nrm false 12345 (-1) = ⟨false, 12345, -1⟩ by
    rw [nrm_pos (by decide), show st 12345 = (12345, 0) from st_uniq (m := 12345) (k := 0) (by decide)]; rfl, ← hv] at hm
  have hval := Val.dk hz
  have p1 : Pr 100 Q 0 2 2 D0 0 0 1 := ⟨by decide, by decide, by decide, by decide, by decide, by decide, by decide, by decide, fun _ => by decide, by decide, by decide, fun h => absurd h (by decide), fun _ => rfl⟩
  have p2 : Pr 100 Q 1 1 2 D0 0 0 1 := ⟨by decide, by decide, by decide, by decide, by decide, by decide, by decide, by decide, fun _ => by decide, by decide, by decide, fun h => absurd h (by decide), fun _ => rfl⟩
  have s1 : shw 100 0 2 0 1 ((12345 * c : Nat) : Int) = ((12345 * c : Nat) : Int) := by
    unfold shw Uf U0f
    rw [_root_.if_neg (by decide), _root_.if_pos rfl]
    apply rnd_of_dvd
    rw [show (-2 + ((100 : Nat) : Int)).toNat = 98 by decide, hc]
    exact Int.natCast_dvd_natCast.2 (Nat.dvd_mul_left_of_dvd (Nat.pow_dvd_pow 10 (by decide)) _)
  have s2 : shw 100 1 2 0 1 ((12345 * c : Nat) : Int) = ((12000 * c : Nat) : Int) := by
    unfold shw Uf
    rw [_root_.if_pos (decide_eq_true rfl), hnd, show 104 - (2 : Int).toNat = 3 + 99 by decide, Nat.pow_add, ← hc, rnd_nonneg 0 (by omega), Int.natAbs_natCast, rnat_scale 0 false hcp]
    congr 2
  have a1 := Apply_dk p1 hz (by omega) (by decide) hval (fun h => absurd h (by decide)) s1 (hz.up (Nat.le_succ _) (by omega))
  have z2 : Plc (Q + 1) 100 ((12000 * c : Nat) : Int) := by rw [← s2]; exact shw_plc p2 hz (by omega)
  have a2 := Apply_dk p2 hz (by omega) (by decide) hval (by intro _ _; rw [hnd]; decide) s2 z2
  rw [tri_D0] at a1 a2
  refine Ev.bind hm (Ev.bind a1 (Ev.bind a2 (Ev.if_pos rfl (Ev.if_pos rfl ?_))))
  rw [hv, hv2]
  have m1 : mkl 1234 = [49, 50, 51, 52] := mkl_lit _ (by decide) (by unfold Dig; decide) (by unfold Bare; decide)
  have m2 : mkl 1200 = [49, 50, 48, 48] := mkl_lit _ (by decide) (by unfold Dig; decide) (by unfold Bare; decide)
  have m3 : mkl 12345 = [49, 50, 51, 52, 53] := mkl_lit _ (by decide) (by unfold Dig; decide) (by unfold Bare; decide)
  have f1 : visF (lst 100 0 2 ((12345 * c : Nat) : Int)) ⟨false, 12345, -1⟩ = [53, 48] := by
    unfold visF lst
    rw [_root_.if_neg (by decide), partL_length]
    dsimp only
    unfold partL padL
    rw [m3]; decide
  have g1 : lst 100 1 1 ((12000 * c : Nat) : Int) = 0 := by
    unfold lst
    rw [_root_.if_pos rfl, hv2]
    unfold magD
    rw [_root_.if_neg (by decide), show (mkl (⟨false, 12, 2⟩ : D).m) = [49, 50] from mkl_lit _ (by decide) (by unfold Dig; decide) (by unfold Bare; decide)]
    decide
  have f2 : visF 0 ⟨false, 12, 2⟩ = [] := by
    unfold visF
    rw [partL_length]
    dsimp only
    unfold partL
    rw [_root_.if_pos (by decide)]; rfl
  have i1 : ∀ p, visI (0 : Int).toNat ⟨false, 12345, -1⟩ p = [49, 50, 51, 52] := by
    intro p
    unfold visI
    dsimp only
    rw [show wholeN 12345 (-1) = 1234 by decide, m1]
    rfl
  have i2 : ∀ p, visI (0 : Int).toNat ⟨false, 12, 2⟩ p = [49, 50, 48, 48] := by
    intro p
    unfold visI
    dsimp only
    rw [show wholeN 12 2 = 1200 by decide, m2]
    rfl
  dsimp only
  rw [f1, g1, f2, i1, i2]
  refine Ev.const (Text_ev _ _ _ (by decide) (by decide)) (Ev.if_pos (by rw [S_toList]; decide) (Ev.const (Text_ev _ _ _ (by decide) (by decide)) (Ev.yes ?_)))
  rw [S_toList]; decide
end Go.Proofs.YthkpmiajcmihjaaGreatDoor.P
