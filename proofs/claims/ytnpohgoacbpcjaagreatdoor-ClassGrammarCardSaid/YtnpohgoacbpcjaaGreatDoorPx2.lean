-- written by a program of this session (wip/p2)
import Derived.Test.YtnpohgoacbpcjaaGreatDoorPx0
namespace Go.Proofs.YtnpohgoacbpcjaaGreatDoor.P
open Go.RowKit Go.Proofs.YtnpohgoacbpcjaaGreatDoorW.PrintWords Go.Proofs.YtnpohgoacbpcjaaGreatDoorW.PrintLast Go.Proofs.YtnpohgoacbpcjaaGreatDoorW.PrintMore
attribute [local go_sem] max2_int min2_int max_two min_two max_three min_three max_four min_four   -- for this text's walks alone
set_option linter.unusedVariables false
set_option linter.unusedSimpArgs false

/-! ### slices_BinarySearchFunc: function 27 -/
def slices_BinarySearchFunc.up : List S28 → Bool
  | x :: y :: r => decide (x.f1 ≤ y.f1) && slices_BinarySearchFunc.up (y :: r)
  | _ => true
def slices_BinarySearchFunc.f (l : List S28) (r : Int) : Option (Int × Bool) := if l.length ≤ 100000 ∧ slices_BinarySearchFunc.up l = true then some ((l.countP (fun x => decide (x.f1 < r)) : Nat), false) else none
theorem slices_BinarySearchFunc.up_cons : ∀ (x : S28) (l : List S28), slices_BinarySearchFunc.up (x :: l) = true → (∀ y ∈ l, x.f1 ≤ y.f1) ∧ slices_BinarySearchFunc.up l = true
  | _, [], _ => ⟨fun _ h => (by cases h), rfl⟩
  | x, y :: r, h => by
    unfold slices_BinarySearchFunc.up at h
    simp only [Bool.and_eq_true, decide_eq_true_eq] at h
    obtain ⟨h1, h2⟩ := h
    have := slices_BinarySearchFunc.up_cons y r h2
    refine ⟨fun z hz => ?_, h2⟩
    rcases List.mem_cons.1 hz with rfl | hz
    · exact h1
    · exact Int.le_trans h1 (this.1 z hz)
theorem slices_BinarySearchFunc.up_le : ∀ (l : List S28), slices_BinarySearchFunc.up l = true → ∀ i j, i ≤ j → j < l.length → (l.getD i z28).f1 ≤ (l.getD j z28).f1
  | [], _, _, _, _, h => by simp at h
  | x :: r, h, i, j, hij, hj => by
    have hc := slices_BinarySearchFunc.up_cons x r h
    match i, j, hij, hj with
    | 0, 0, _, _ => exact Int.le_refl _
    | 0, j + 1, _, hj =>
      have hj' : j < r.length := by simpa using hj
      have : (x :: r).getD (j + 1) z28 = r[j] := by simp [List.getD, List.getElem?_eq_getElem hj']
      rw [this]
      exact hc.1 _ (List.getElem_mem hj')
    | i + 1, j + 1, hij, hj => exact slices_BinarySearchFunc.up_le r hc.2 i j (by omega) (by simpa using hj)
theorem slices_BinarySearchFunc.cnt (l : List S28) (r : Int) (i : Nat) (hi : i ≤ l.length) (h1 : ∀ t, t < i → (l.getD t z28).f1 < r) (h2 : ∀ t, i ≤ t → t < l.length → r ≤ (l.getD t z28).f1) : l.countP (fun x => decide (x.f1 < r)) = i := by
  induction l generalizing i with
  | nil => simp at hi; simp [hi]
  | cons a s ih =>
    match i, hi with
    | 0, _ =>
      rw [List.countP_eq_zero]
      intro x hx
      obtain ⟨t, ht, rfl⟩ := List.getElem_of_mem hx
      have := h2 t (Nat.zero_le _) ht
      rw [List.getD, List.getElem?_eq_getElem ht] at this
      simp at this ⊢
      exact this
    | i + 1, hi =>
      have ha := h1 0 (by omega)
      rw [List.countP_cons_of_pos (by simpa using ha), ih i (by simpa using hi) (fun t ht => by simpa using h1 (t + 1) (by omega)) (fun t h3 h4 => by simpa using h2 (t + 1) (by omega) (by simpa using h4))]
set_option maxHeartbeats 1000000 in
theorem slices_BinarySearchFunc.cmp1 (a b r : Int) (h : b < r) (W : World) : Calls Tryz.prog 28 #[.agg #[.int .i32 a, .int .i32 b], .int .i32 r] W fun e w' => e = .returned (.int .i64 (-1)) ∧ Below W.heap.size W w' := by
  have h' : decide (b < r) = true := decide_eq_true h
  clear h
  go_enter Tryz.func28, Tryz.ntmps28
  go_wp2
  go_ret
  exact ⟨rfl, below_alloc (Below.refl _ _) _⟩
set_option maxHeartbeats 1000000 in
theorem slices_BinarySearchFunc.cmp2 (a b r : Int) (h : ¬ b < r) (W : World) : Calls Tryz.prog 28 #[.agg #[.int .i32 a, .int .i32 b], .int .i32 r] W fun e w' => e = .returned (.int .i64 1) ∧ Below W.heap.size W w' := by
  have h' : decide (b < r) = false := decide_eq_false h
  clear h
  go_enter Tryz.func28, Tryz.ntmps28
  go_wp2
  go_ret
  exact ⟨rfl, below_alloc (Below.refl _ _) _⟩
set_option maxHeartbeats 4000000 in
set_option maxRecDepth 100000 in
theorem slices_BinarySearchFunc.calls (A0 : Option Addr) (c0 : Nat) (l0 : List S28) (a1 : Int) (r1 : Int) (r2 : Bool) (w : World) (hr0 : Kd.C k28 w A0 l0.length l0) (hc0 : l0.length ≤ c0) (h : slices_BinarySearchFunc.f l0 a1 = some (r1, r2)) :
    Calls Tryz.prog 27 #[.slice A0 l0.length c0, .int .i32 a1, .func (.func 28) #[] #[]] w fun e w' => e = .returned (.tuple #[.int .i64 r1, .bool r2]) ∧ Below w.heap.size w w' := by
  unfold slices_BinarySearchFunc.f at h
  split at h
  case isFalse => cases h
  rename_i hc
  obtain ⟨hlen, hup⟩ := hc
  have h := Option.some.inj h
  injection h with e1 e2
  subst e2
  have eg : ∀ args w, (callFunc 28 args).run Tryz.prog w = .ok (.enter 28 args) w := enters_of Tryz.func28 (by kernel_rfl) rfl
  have LE := slices_BinarySearchFunc.up_le l0 hup
  have CNT := slices_BinarySearchFunc.cnt l0 a1
  generalize hcnt : l0.countP (fun x => decide (x.f1 < a1)) = cnt at e1 CNT
  have U : Aside0 (∀ i j, i ≤ j → j < l0.length → (l0.getD i z28).f1 ≤ (l0.getD j z28).f1) := ⟨LE⟩
  have HR := Aside0.mk hr0
  have HC := Aside0.mk CNT
  subst e1
  clear hup LE CNT hr0 hcnt hc0
  have hB0 := Aside0.mk (Below.refl w.heap.size w)
  generalize hn : l0.length = n at *
  go_enter Tryz.func27, Tryz.ntmps27
  go_wp2
  go_loopg [9, 10] n (fun kx s9 s10 wr => ∃ lo hi : Nat, s9 = .int .i64 lo ∧ s10 = .int .i64 hi ∧ lo ≤ hi ∧ hi ≤ n ∧ hi - lo ≤ kx ∧ Aside0 (Below w.heap.size w wr) ∧
    Aside0 ((∀ t, t < lo → (l0.getD t z28).f1 < a1) ∧ (∀ t, hi ≤ t → t < n → a1 ≤ (l0.getD t z28).f1)))
  case atStart => exact ⟨0, n, rfl, rfl, Nat.zero_le _, Nat.le_refl _, by omega, hB0, ⟨⟨fun t ht => absurd ht (Nat.not_lt_zero _), fun t h1 h2 => by omega⟩⟩⟩
  case round =>
    clear hB0
    obtain ⟨lo, hi, rfl, rfl, hlh, hin, hg, HB, I⟩ := hrel
    by_cases hlt : lo < hi
    · have hm : (lo + hi) / 2 < n := by omega
      obtain ⟨ad, e, hx0, hx1⟩ := at_T28 HR.out (((lo + hi) / 2 : Nat) : Int) (by omega) (by omega)
      subst e
      rw [Int.toNat_natCast] at hx0 hx1
      have hrd : rd_T28 l0 (((lo + hi) / 2 : Nat) : Int) = l0.getD ((lo + hi) / 2) z28 := by unfold rd_T28; rw [Int.toNat_natCast]
      rw [hrd] at hx0 hx1
      replace hx0 := (HB.out.cell (World.block_lt_of_cell? _ _ hx0)).trans hx0
      replace hx1 := (HB.out.cell (World.block_lt_of_cell? _ _ hx1)).trans hx1
      have Y : Aside0 (∀ t, t ≤ (lo + hi) / 2 → (l0.getD t z28).f1 ≤ (l0.getD ((lo + hi) / 2) z28).f1) := ⟨fun t ht => U.out t _ ht hm⟩
      have Y2 : Aside0 (∀ t, (lo + hi) / 2 ≤ t → t < n → (l0.getD ((lo + hi) / 2) z28).f1 ≤ (l0.getD t z28).f1) := ⟨fun t ht h4 => U.out _ t ht h4⟩
      clear hrd
      generalize (l0.getD ((lo + hi) / 2) z28).f0 = y0 at hx0
      generalize (l0.getD ((lo + hi) / 2) z28).f1 = y1 at hx1 Y Y2
      by_cases hyx : y1 < a1
      · have hcmp := slices_BinarySearchFunc.cmp1 y0 _ a1 hyx wr
        go_wp2_with (go_at_fn 28; refine hcmp.mono ?_; rintro e w' ⟨rfl, hb⟩)
        go_roundg (hi - ((lo + hi) / 2 + 1))
        case measure => omega
        case rel =>
          have I2 : Aside0 ((∀ t, t < (lo + hi) / 2 + 1 → (l0.getD t z28).f1 < a1) ∧ (∀ t, hi ≤ t → t < n → a1 ≤ (l0.getD t z28).f1)) := ⟨⟨fun t ht => Int.lt_of_le_of_lt (Y.out t (by omega)) hyx, I.out.2⟩⟩
          exact ⟨(lo + hi) / 2 + 1, hi, by rw [show ((lo : Int) + (hi : Int)) / 2 + 1 = (((lo + hi) / 2 + 1 : Nat) : Int) by omega], rfl, by omega, hin, Nat.le_refl _, ⟨below_step HB.out hb⟩, I2⟩
      · have hcmp := slices_BinarySearchFunc.cmp2 y0 _ a1 hyx wr
        go_wp2_with (go_at_fn 28; refine hcmp.mono ?_; rintro e w' ⟨rfl, hb⟩)
        go_roundg ((lo + hi) / 2 - lo)
        case measure => omega
        case rel =>
          have I2 : Aside0 ((∀ t, t < lo → (l0.getD t z28).f1 < a1) ∧ (∀ t, (lo + hi) / 2 ≤ t → t < n → a1 ≤ (l0.getD t z28).f1)) := ⟨⟨I.out.1, fun t h3 h4 => Int.le_trans hyx (Y2.out t h3 h4)⟩⟩
          exact ⟨lo, (lo + hi) / 2, rfl, by rw [show ((lo : Int) + (hi : Int)) / 2 = (((lo + hi) / 2 : Nat) : Int) by omega], by omega, by omega, Nat.le_refl _, ⟨below_step HB.out hb⟩, I2⟩
    · obtain rfl : hi = lo := by omega
      have hcnt := HC.out hi hin I.out.1 I.out.2
      subst hcnt
      by_cases hn2 : cnt < n
      · obtain ⟨ad, e, hx0, hx1⟩ := at_T28 HR.out ((cnt : Nat) : Int) (by omega) (by omega)
        subst e
        rw [Int.toNat_natCast] at hx0 hx1
        have hrd : rd_T28 l0 ((cnt : Nat) : Int) = l0.getD cnt z28 := by unfold rd_T28; rw [Int.toNat_natCast]
        rw [hrd] at hx0 hx1
        replace hx0 := (HB.out.cell (World.block_lt_of_cell? _ _ hx0)).trans hx0
        replace hx1 := (HB.out.cell (World.block_lt_of_cell? _ _ hx1)).trans hx1
        have hyx : ¬ (l0.getD cnt z28).f1 < a1 := Int.not_lt.2 (I.out.2 cnt (Nat.le_refl _) hn2)
        clear hrd
        generalize (l0.getD cnt z28).f0 = y0 at hx0
        generalize (l0.getD cnt z28).f1 = y1 at hx1 hyx
        have hcmp := slices_BinarySearchFunc.cmp2 y0 _ a1 hyx wr
        go_wp2_with (go_at_fn 28; refine hcmp.mono ?_; rintro e w' ⟨rfl, hb⟩)
        go_ret2
        exact ⟨rfl, below_step HB.out hb⟩
      · go_wp2
        go_ret2
        exact ⟨rfl, HB.out⟩

/-! ### class_Class_Has: function 13 -/
def class_Class_Has.f (l0 : List (S28)) (a1 : Int) : Option (Bool) := (slices_BinarySearchFunc.f l0 a1).bind fun bt101 => (if bt101.1 < (l0.length : Int) then (if 0 ≤ bt101.1 then (some (decide (((rd_T28 l0 bt101.1).f0) ≤ a1))) else (none)) else (some false))
set_option maxHeartbeats 64000000 in
set_option maxRecDepth 100000 in
theorem class_Class_Has.calls (A0 : Option Addr) (c0 : Nat) (l0 : List (S28)) (a1 : Int) (r : Bool) (w : World) (hr0 : Kd.C k28 w A0 l0.length l0) (hc0 : l0.length ≤ c0) (h : class_Class_Has.f l0 a1 = some r) :
    Calls Tryz.prog 13 #[.slice A0 l0.length c0, .int .i32 a1] w fun e w' => e = .returned (.bool r) ∧ Below w.heap.size w w' := by
  have HR0 := Aside0.mk hr0
  have HC0 := Aside0.mk hc0
  clear hr0 hc0
  have HB := Aside0.mk (Below.refl w.heap.size w)
  have H : ((slices_BinarySearchFunc.f l0 a1).bind fun bt101 => (if bt101.1 < (l0.length : Int) then (if 0 ≤ bt101.1 then (some (decide (((rd_T28 l0 bt101.1).f0) ≤ a1))) else (none)) else (some false))) = some r := h
  clear h
  replace H := Option.bind_eq_some_iff.mp H
  obtain ⟨⟨t101, t102⟩, A30, H⟩ := H
  replace H : (if t101 < (l0.length : Int) then (if 0 ≤ t101 then (some (decide (((rd_T28 l0 t101).f0) ≤ a1))) else (none)) else (some false)) = some r := H
  have A3 := Aside0.mk A30
  clear A30
  by_cases c4 : t101 < (l0.length : Int)
  · rw [if_pos c4] at H
    have c4b0 : decide (t101 < (l0.length : Int)) = true := decide_eq_true c4
    clear c4
    by_cases c5 : 0 ≤ t101
    · rw [if_pos c5] at H
      have c5b0 : decide (0 ≤ t101) = true := decide_eq_true c5
      clear c5
      obtain rfl := Option.some.inj H
      go_enter Tryz.func13, Tryz.ntmps13
      go_wp2_with (first | ((with_reducible refine gate_callee (f := 27) rfl ?_); refine gl_ (some 10) Tryz.func27 #[.slice A0 l0.length c0, .int .i32 a1, .func (.func 28) #[] #[]] ?_; (with_reducible refine (slices_BinarySearchFunc.calls _ _ l0 a1  t101 t102 _ ?side1 ?side2 A3.out).mono ?_); (case side1 => repeat (first | exact HR0.out | (with_reducible refine Kd.C_alloc ?_ _) | (with_reducible refine Kd.C_drewN ?_ _) | (with_reducible refine Kd.C_drew ?_))); (case side2 => exact HC0.out); rintro e w6 ⟨rfl, hb⟩; refine ⟨_, rfl, ?_⟩; replace HB := Aside0.mk (below_step (bl_ HB).out hb); (try clear hb); have p103 : 0 ≤ (t101 : Int) := of_decide_eq_true (by first | (with_reducible assumption) | assumption); have q103 : t101 < (l0.length : Int) := of_decide_eq_true (by first | (with_reducible assumption) | assumption); obtain ⟨ad103, e103, hx103_0, hx103_1⟩ := at_T28 HR0.out t101 p103 q103; cases e103; replace hx103_0 := (HB.out.cell (World.block_lt_of_cell? w _ hx103_0)).trans hx103_0; replace hx103_1 := (HB.out.cell (World.block_lt_of_cell? w _ hx103_1)).trans hx103_1; replace p103 := eq_true p103; replace q103 := eq_true q103))
      go_ret
      exact ⟨ew_, (bl_ HB).out⟩
    · rw [if_neg c5] at H
      exact absurd H (by simp)
  · rw [if_neg c4] at H
    have c4b0 : decide (t101 < (l0.length : Int)) = false := decide_eq_false c4
    clear c4
    obtain rfl := Option.some.inj H
    go_enter Tryz.func13, Tryz.ntmps13
    go_wp2_with (first | ((with_reducible refine gate_callee (f := 27) rfl ?_); refine gl_ (some 10) Tryz.func27 #[.slice A0 l0.length c0, .int .i32 a1, .func (.func 28) #[] #[]] ?_; (with_reducible refine (slices_BinarySearchFunc.calls _ _ l0 a1  t101 t102 _ ?side1 ?side2 A3.out).mono ?_); (case side1 => repeat (first | exact HR0.out | (with_reducible refine Kd.C_alloc ?_ _) | (with_reducible refine Kd.C_drewN ?_ _) | (with_reducible refine Kd.C_drew ?_))); (case side2 => exact HC0.out); rintro e w7 ⟨rfl, hb⟩; refine ⟨_, rfl, ?_⟩; replace HB := Aside0.mk (below_step (bl_ HB).out hb); (try clear hb); (try clear hi)))
    go_ret
    exact ⟨ew_, (bl_ HB).out⟩

/-! ### slices_SortFunc: function 25 -/
def slices_SortFunc.cl (x : Int) : Int := if x < -2147483648 then -2147483648 else if 2147483647 < x then 2147483647 else x
def slices_SortFunc.cf (x y : Int × Int) : Int := slices_SortFunc.cl x.1 - slices_SortFunc.cl y.1
def slices_SortFunc.P (x : S28) : Int × Int := (x.f0, x.f1)
def slices_SortFunc.R (x : Int × Int) : S28 := ⟨x.1, x.2⟩
def slices_SortFunc.ok (x : S28) : Bool := decide (-2147483648 ≤ x.f0 ∧ x.f0 ≤ 2147483647)
def slices_SortFunc.enc (x : Int × Int) : List Value := [.int .i32 (slices_SortFunc.cl x.1), .int .i32 x.2]
def slices_SortFunc.go (l : List S28) : Array (Int × Int) := Sort.pdq (ltOf slices_SortFunc.cf) (l.map slices_SortFunc.P).toArray 0 l.length (Lib.bitLen l.length) true true
def slices_SortFunc.f (l : List S28) : Option (List S28) := if l.length ≤ 100000 ∧ l.all slices_SortFunc.ok = true then some ((slices_SortFunc.go l).toList.map slices_SortFunc.R) else none
theorem slices_SortFunc.ltcl (x y : Int × Int) : ltOf slices_SortFunc.cf x y = decide (slices_SortFunc.cl x.1 < slices_SortFunc.cl y.1) := by
  unfold ltOf slices_SortFunc.cf
  by_cases h : slices_SortFunc.cl x.1 < slices_SortFunc.cl y.1
  · simp only [h, decide_true, decide_eq_true_eq]; omega
  · simp only [h, decide_false, decide_eq_false_iff_not]; omega
theorem slices_SortFunc.swo : Sort.SWO (ltOf slices_SortFunc.cf) where
  irrefl x := by rw [slices_SortFunc.ltcl]; simp
  trans x y z h1 h2 := by rw [slices_SortFunc.ltcl] at *; simp only [decide_eq_true_eq] at *; omega
  ntrans x y z h1 h2 := by rw [slices_SortFunc.ltcl] at *; simp only [decide_eq_false_iff_not] at *; omega
theorem slices_SortFunc.cl_lo (x : Int) : -2147483648 ≤ slices_SortFunc.cl x := by unfold slices_SortFunc.cl; split; omega; split <;> omega
theorem slices_SortFunc.cl_hi (x : Int) : slices_SortFunc.cl x ≤ 2147483647 := by unfold slices_SortFunc.cl; split; omega; split <;> omega
theorem slices_SortFunc.cl_in {x : Int} (h0 : -2147483648 ≤ x) (h1 : x ≤ 2147483647) : slices_SortFunc.cl x = x := by unfold slices_SortFunc.cl; rw [if_neg (by omega), if_neg (by omega)]
set_option maxHeartbeats 1000000 in
theorem slices_SortFunc.less (a b c d : Int) (ha : -2147483648 ≤ a) (ha' : a ≤ 2147483647) (hb : -2147483648 ≤ b) (hb' : b ≤ 2147483647) (W : World) :
    Calls Tryz.prog 26 #[.agg #[.int .i32 a, .int .i32 c], .agg #[.int .i32 b, .int .i32 d]] W fun e w' => e = .returned (.int .i64 (a - b)) ∧ ∃ q os', w' = Sort.grow (W.drewN q) os' := by
  have e1 : IntKind.i64.wrap a = a := by rw [IntKind.wrap_i64]; omega
  have e2 : IntKind.i64.wrap b = b := by rw [IntKind.wrap_i64]; omega
  have e3 : IntKind.i64.wrap (a - b) = a - b := by rw [IntKind.wrap_i64]; omega
  have f1 : wrap64 a = a := by unfold wrap64; omega
  have f2 : wrap64 b = b := by unfold wrap64; omega
  have f3 : wrap64 (a - b) = a - b := by unfold wrap64; omega
  clear ha ha' hb hb'
  go_enter Tryz.func26, Tryz.ntmps26
  go_wp2
  go_ret
  exact ⟨rfl, 0, _, by rw [Sort.alloc_eq_grow, Sort.alloc_eq_grow, Sort.grow_grow]; rfl⟩
theorem slices_SortFunc.cmp (off blk size : Nat) (w : World) : CmpLays Tryz.prog 26 #[] slices_SortFunc.enc 2 slices_SortFunc.cf blk off size w :=
  fun _ _ _ _ x y => slices_SortFunc.less _ _ _ _ (slices_SortFunc.cl_lo x.1) (slices_SortFunc.cl_hi x.1) (slices_SortFunc.cl_lo y.1) (slices_SortFunc.cl_hi y.1) _
theorem slices_SortFunc.two (x y : Value) (j : Nat) (hj : j < 2) : ([x, y] : List Value)[j]! = if j = 0 then x else y := by
  match j, hj with
  | 0, _ => rfl
  | 1, _ => rfl
theorem slices_SortFunc.holds {w : World} {B : Nat} {ok : Nat → Prop} {g cap : Nat} {l : List S28} (h : Kd.R k28 28 w B ok (.slice (some ⟨g, 0, none⟩) l.length cap) l) (hok : l.all slices_SortFunc.ok = true) :
    Sort.HoldsK slices_SortFunc.enc 2 w g 0 (l.map slices_SortFunc.P).toArray := by
  intro j hj
  rw [Sort.size_flatK] at hj
  have hs : (l.map slices_SortFunc.P).toArray.size = l.length := by simp
  rw [hs] at hj
  rw [Sort.get_flatK _ _ _ _ (by rw [hs]; exact hj)]
  have hq : j / 2 < l.length := by omega
  obtain ⟨c, hcl, hM, hcc, hfr⟩ := Kd.R_elem h z28 ((j / 2 : Nat) : Int) (by omega) (by omega)
  obtain rfl := k28_openM hM
  rw [Int.toNat_natCast] at hcc hfr hcl hM
  have hg : l.getD (j / 2) z28 = l[j / 2] := by simp [List.getD, List.getElem?_eq_getElem hq]
  rw [hg] at hcc hcl hM
  have he : (l.map slices_SortFunc.P).toArray[j / 2]! = slices_SortFunc.P l[j / 2] := by
    rw [getElem!_pos _ _ (by rw [hs]; exact hq)]; simp
  have hin : slices_SortFunc.ok l[j / 2] = true := List.all_eq_true.1 hok _ (List.getElem_mem hq)
  have hin2 : -2147483648 ≤ l[j / 2].f0 ∧ l[j / 2].f0 ≤ 2147483647 := of_decide_eq_true hin
  have hsz : (k28 : Kd S28).sz = 2 := rfl
  rw [hsz] at hcc hfr
  rw [he]
  have hm : j % 2 < 2 := Nat.mod_lt _ (by omega)
  have hj3 : 0 + j = j / 2 * 2 + j % 2 := by omega
  rw [hj3]
  refine ⟨?_, hfr _⟩
  have := hcc (j % 2) (slices_SortFunc.enc (slices_SortFunc.P l[j / 2]))[j % 2]! (by
    unfold slices_SortFunc.enc slices_SortFunc.P
    rw [slices_SortFunc.two _ _ _ hm, slices_SortFunc.cl_in hin2.1 hin2.2]
    rcases Nat.lt_or_ge (j % 2) 1 with h0 | h1
    · obtain h0 : j % 2 = 0 := by omega
      simp [h0]
    · obtain h0 : j % 2 = 1 := by omega
      simp [h0])
  exact this

theorem slices_SortFunc.flat (d : List (Int × Int)) (hd : ∀ x ∈ d, slices_SortFunc.cl x.1 = x.1) : (Sort.flatK slices_SortFunc.enc 2 d.toArray).toList = (d.map slices_SortFunc.R).flatMap (fun x : S28 => [Value.int .i32 x.f0, Value.int .i32 x.f1]) := by
  have gen : ∀ (e : List (Int × Int)), (∀ x ∈ e, slices_SortFunc.cl x.1 = x.1) → ∀ t, t < e.length * 2 → ((e.map slices_SortFunc.R).flatMap (fun x : S28 => [Value.int .i32 x.f0, Value.int .i32 x.f1]))[t]? = some (slices_SortFunc.enc (e[t / 2]!))[t % 2]! := by
    intro e
    induction e with
    | nil => intro _ t ht; simp at ht
    | cons a r ih =>
      intro hc t ht
      rw [List.map_cons, List.flatMap_cons]
      have ha := hc a List.mem_cons_self
      match t with
      | 0 => simp [slices_SortFunc.R, slices_SortFunc.enc, ha]
      | 1 => simp [slices_SortFunc.R, slices_SortFunc.enc]
      | t + 2 =>
        have h1 : (t + 2) / 2 = t / 2 + 1 := by omega
        have h2 : (t + 2) % 2 = t % 2 := by omega
        have := ih (fun x hx => hc x (List.mem_cons_of_mem _ hx)) t (by simp at ht; omega)
        rw [h1, h2]
        simpa using this
  apply List.ext_getElem?
  intro t
  rcases Nat.lt_or_ge t (d.length * 2) with ht | ht
  · rw [gen d hd t ht]
    have hs : t < (Sort.flatK slices_SortFunc.enc 2 d.toArray).size := by rw [Sort.size_flatK]; simpa using ht
    have := Sort.get_flatK slices_SortFunc.enc 2 d.toArray t (by simpa using ht)
    rw [getElem!_pos (Sort.flatK slices_SortFunc.enc 2 d.toArray) t hs] at this
    rw [List.getElem?_eq_getElem (by simpa using hs), Array.getElem_toList, this]
    simp
  · rw [List.getElem?_eq_none (by simp [Sort.size_flatK]; omega), List.getElem?_eq_none]
    have : ((d.map slices_SortFunc.R).flatMap (fun x : S28 => [Value.int .i32 x.f0, Value.int .i32 x.f1])).length = d.length * 2 := by
      clear gen hd ht
      induction d with
      | nil => rfl
      | cons a r ih => rw [List.map_cons, List.flatMap_cons, List.length_append, ih]; simp; omega
    omega
theorem slices_SortFunc.reps (w : World) (base : Nat) (ok : Nat → Prop) (xs : List S28) : Reps (k28.M w base ok) 2 xs (xs.flatMap (fun x : S28 => [Value.int .i32 x.f0, Value.int .i32 x.f1])) := by
  have : ∀ (ys : List S28) (pre : List S28), Reps (k28.M w base ok) 2 pre (pre.flatMap (fun x : S28 => [Value.int .i32 x.f0, Value.int .i32 x.f1])) → Reps (k28.M w base ok) 2 (pre ++ ys) ((pre ++ ys).flatMap (fun x : S28 => [Value.int .i32 x.f0, Value.int .i32 x.f1])) := by
    intro ys
    induction ys with
    | nil => intro pre h; simpa using h
    | cons a r ih =>
      intro pre h
      have := ih (pre ++ [a]) (by
        rw [List.flatMap_append]
        exact h.snoc (k28_mkM _ _ _ a) rfl)
      simpa using this
  have h0 := this xs [] (Reps.none _ _)
  simpa using h0
theorem slices_SortFunc.heap_ {w : World} {g n : Nat} {cur : Array Value} {d : Array (Int × Int)} {os : Array Obj} (hc : w.heap[g]? = some (.cells cur 28 (0, 0))) :
    (sortWorldK slices_SortFunc.enc 2 w g 0 n d os).heap[g]? = some (.cells (Sort.putCells id 0 (Sort.flatK slices_SortFunc.enc 2 d) cur) 28 (0, 0)) := by
  have hlt : g < w.heap.size := blk_lt hc
  show ((Sort.putRowK slices_SortFunc.enc 2 (Sort.ahead w n) g 0 d).heap ++ os)[g]? = _
  have hs : (Sort.putRowK slices_SortFunc.enc 2 (Sort.ahead w n) g 0 d).heap.size = w.heap.size := by unfold Sort.putRowK; rw [Sort.size_putRow]; rfl
  rw [Array.getElem?_append_left (by rw [hs]; exact hlt)]
  show (w.heap.modify g (Sort.onCells _))[g]? = _
  rw [Array.getElem?_modify, if_pos rfl, hc]
  rfl
theorem slices_SortFunc.other {w : World} {g n : Nat} {d : Array (Int × Int)} {os : Array Obj} (i : Nat) (hi : i < w.heap.size) (hne : g ≠ i) :
    (sortWorldK slices_SortFunc.enc 2 w g 0 n d os).heap[i]? = w.heap[i]? := by
  show ((Sort.putRowK slices_SortFunc.enc 2 (Sort.ahead w n) g 0 d).heap ++ os)[i]? = _
  have hs : (Sort.putRowK slices_SortFunc.enc 2 (Sort.ahead w n) g 0 d).heap.size = w.heap.size := by unfold Sort.putRowK; rw [Sort.size_putRow]; rfl
  rw [Array.getElem?_append_left (by rw [hs]; exact hi)]
  show (w.heap.modify g (Sort.onCells _))[i]? = _
  rw [Array.getElem?_modify, if_neg hne]
theorem slices_SortFunc.size_ (w : World) (g n : Nat) (d : Array (Int × Int)) (os : Array Obj) : w.heap.size ≤ (sortWorldK slices_SortFunc.enc 2 w g 0 n d os).heap.size := by
  show w.heap.size ≤ ((Sort.putRowK slices_SortFunc.enc 2 (Sort.ahead w n) g 0 d).heap ++ os).size
  have hs : (Sort.putRowK slices_SortFunc.enc 2 (Sort.ahead w n) g 0 d).heap.size = w.heap.size := by unfold Sort.putRowK; rw [Sort.size_putRow]; rfl
  rw [Array.size_append, hs]; omega
theorem slices_SortFunc.new {w : World} {B : Nat} {ok ok' : Nat → Prop} {g cap n : Nat} {l : List S28} {d : Array (Int × Int)} {os : Array Obj} (h : Kd.R k28 28 w B ok (.slice (some ⟨g, 0, none⟩) l.length cap) l)
    (hd : d.size = l.length) (hcl : ∀ x ∈ d.toList, slices_SortFunc.cl x.1 = x.1) (hok : ok' g) :
    Kd.R k28 28 (sortWorldK slices_SortFunc.enc 2 w g 0 n d os) B ok' (.slice (some ⟨g, 0, none⟩) l.length cap) (d.toList.map slices_SortFunc.R) := by
  obtain ⟨_, inner, ho, _⟩ := h
  rcases ho.2 with ⟨hv, _⟩ | ⟨g', cap', cur, hv, hb, hh, hn, hm, hsz, htk⟩
  · cases hv
  · injection hv with hv1 hv2 hv3
    obtain rfl : g' = g := by injection hv1 with hv1; injection hv1 with hv1 _ _; exact hv1.symm
    subst hv3
    have hsz2 : (k28 : Kd S28).sz = 2 := rfl
    have hfl := slices_SortFunc.flat d.toList hcl
    have hfs : (Sort.flatK slices_SortFunc.enc 2 d).size = l.length * 2 := by rw [Sort.size_flatK, hd]
    refine ⟨fun k hk => ?_, (d.toList.map slices_SortFunc.R).flatMap (fun x : S28 => [Value.int .i32 x.f0, Value.int .i32 x.f1]), ⟨?_, .inr ⟨g', cap, _, ?_, hb, slices_SortFunc.heap_ hh, ?_, hm, ?_, ?_⟩⟩, slices_SortFunc.reps _ _ _ _⟩
    · have : g' = k := by simpa [Value.ownBlock] using hk
      rw [← this]; exact hok
    · rw [← hfl]; simp [hfs, hd, hsz2]
    · simp [hd]
    · simpa [hd] using hn
    · unfold Sort.putCells; rw [Array.size_mapIdx]; exact hsz
    · rw [← hfl]
      apply List.ext_getElem?
      intro t
      have hcs : l.length * 2 ≤ cur.size := by rw [hsz, hsz2]; omega
      have hl2 : (d.toList.map slices_SortFunc.R).length * (k28 : Kd S28).sz = l.length * 2 := by simp [hd, hsz2]
      rw [hl2]
      rcases Nat.lt_or_ge t (l.length * 2) with ht | ht
      · rw [List.getElem?_take_of_lt ht, Array.getElem?_toList, Array.getElem?_toList]
        have h1 : t < (Sort.flatK slices_SortFunc.enc 2 d).size := by rw [hfs]; exact ht
        unfold Sort.putCells
        rw [Array.getElem?_mapIdx, Array.getElem?_eq_getElem (by omega : t < cur.size), Array.getElem?_eq_getElem h1, Option.map_some, if_pos ⟨Nat.zero_le _, by rw [Nat.zero_add]; exact h1⟩, Nat.sub_zero, getElem!_pos (Sort.flatK slices_SortFunc.enc 2 d) t h1]
        rfl
      · rw [List.getElem?_eq_none (by rw [List.length_take]; omega), List.getElem?_eq_none (by simp [hfs]; exact ht)]
set_option maxHeartbeats 1000000 in
theorem slices_SortFunc.calls (P0_ : Nat → Prop) (u0_ : Value) (l0 : List S28) (r : List S28) (w0 w : World) (hB : Below w0.heap.size w0 w) (ho0 : Kd.R k28 28 w w0.heap.size P0_ u0_ l0) (h : slices_SortFunc.f l0 = some r) :
    Calls Tryz.prog 25 #[u0_, .func (.func 26) #[] #[]] w fun e w' => e = .returned (.tuple #[]) ∧ Kd.R k28 28 w' w0.heap.size (fun k_ => P0_ k_ ∨ w.heap.size ≤ k_) u0_ r ∧ Below w0.heap.size w0 w' ∧ Kept w w' (fun k_ => P0_ k_) := by
  unfold slices_SortFunc.f at h
  split at h
  case isFalse => cases h
  rename_i hc
  obtain ⟨hlen, hok⟩ := hc
  obtain rfl := Option.some.inj h
  obtain ⟨A, c, rfl⟩ := Kd.R_slice ho0
  rcases Nat.eq_zero_or_pos l0.length with h0 | hp
  · have hl : l0 = [] := List.length_eq_zero_iff.1 h0
    subst hl
    have hcon := AnyF.slices_SortFunc_none (P := Tryz.prog) Tryz.sortRange A c (.func (.func 26) #[] #[]) w
    change Calls Tryz.prog 25 _ _ _ at hcon
    refine hcon.mono ?_
    rintro e w' ⟨rfl, rfl⟩
    have hgo : (slices_SortFunc.go []).toList.map slices_SortFunc.R = [] := by
      have hs := (Sort.pdq_sorts (ltOf slices_SortFunc.cf) slices_SortFunc.swo #[] 0 0 (Lib.bitLen 0) true true (Nat.zero_le _) (Nat.le_refl _) (Or.inl rfl)).1.1
      have : slices_SortFunc.go [] = #[] := Array.size_eq_zero_iff.1 hs
      rw [this]; rfl
    rw [hgo]
    exact ⟨rfl, Kd.R_mono ho0 (fun k hk => .inl hk), hB, Kept.refl _ _⟩
  · obtain ⟨g, cap, hv, hg0, hgl, cells, hcells⟩ := Kd.R_form ho0 hp
    injection hv with hv1 hv2 hv3
    subst hv1 hv3
    have hds : ((l0.map slices_SortFunc.P).toArray).size = l0.length := by simp
    have eg : ∀ args w, (callFunc 26 args).run Tryz.prog w = .ok (.enter 26 args) w := enters_of Tryz.func26 (by kernel_rfl) rfl
    have hcon := AnyQ.slices_SortFunc_eq (P := Tryz.prog) Tryz.sortRange 2 Tryz.isAgg28 Tryz.sizeOf28 slices_SortFunc.enc (fun _ => rfl) (fun x v hv => by simp [slices_SortFunc.enc] at hv; rcases hv with rfl | rfl <;> rfl) slices_SortFunc.cf slices_SortFunc.swo 26 #[] g 0 c (l0.map slices_SortFunc.P).toArray w eg (slices_SortFunc.cmp 0 g _ w) (slices_SortFunc.holds ho0 hok) hgl (by rw [hds]; omega)
    change Calls Tryz.prog 25 _ _ _ at hcon
    rw [hds] at hcon
    have hsort := Sort.pdq_sorts (ltOf slices_SortFunc.cf) slices_SortFunc.swo (l0.map slices_SortFunc.P).toArray 0 l0.length (Lib.bitLen l0.length) true true (Nat.zero_le _) (by simp) (Or.inl rfl)
    have hgo : Sort.pdq (ltOf slices_SortFunc.cf) (l0.map slices_SortFunc.P).toArray 0 l0.length (Lib.bitLen l0.length) true true = slices_SortFunc.go l0 := rfl
    rw [hgo] at hcon hsort
    have hsz : (slices_SortFunc.go l0).size = l0.length := by rw [hsort.1.1, hds]
    have hcl : ∀ x ∈ (slices_SortFunc.go l0).toList, slices_SortFunc.cl x.1 = x.1 := by
      intro x hx
      have hp := hsort.1.2.2
      rw [show (slices_SortFunc.go l0).extract 0 l0.length = slices_SortFunc.go l0 from by rw [← hsz]; exact Array.extract_size, show (l0.map slices_SortFunc.P).toArray.extract 0 l0.length = (l0.map slices_SortFunc.P).toArray from by rw [← hds]; exact Array.extract_size] at hp
      have hx2 := hp.mem_iff.1 hx
      obtain ⟨y, hy, rfl⟩ := List.mem_map.1 (by simpa using hx2)
      have := of_decide_eq_true (List.all_eq_true.1 hok y hy)
      exact slices_SortFunc.cl_in this.1 this.2
    refine hcon.mono ?_
    rintro e w' ⟨rfl, n, os, rfl⟩
    have hPg : P0_ g := ho0.1 g (by simp [Value.ownBlock])
    refine ⟨rfl, slices_SortFunc.new ho0 hsz hcl (.inl hPg), ?_, slices_SortFunc.size_ _ _ _ _ _, fun i hi hn => slices_SortFunc.other i hi (fun he => hn (he ▸ hPg))⟩
    exact ⟨hB.os, hB.tape, hB.output, Nat.le_trans hB.size (slices_SortFunc.size_ _ _ _ _ _), fun i hi => (slices_SortFunc.other i (Nat.lt_of_lt_of_le hi hB.size) (by omega)).trans (hB.block i hi)⟩

end Go.Proofs.YtnpohgoacbpcjaaGreatDoor.P
