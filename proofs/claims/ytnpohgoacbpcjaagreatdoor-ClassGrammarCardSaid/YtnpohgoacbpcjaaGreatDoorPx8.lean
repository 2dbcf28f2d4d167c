-- written by a program of this session (wip/p2)
import Derived.Test.YtnpohgoacbpcjaaGreatDoorPx0
import Derived.Test.YtnpohgoacbpcjaaGreatDoorPx2
import Derived.Test.YtnpohgoacbpcjaaGreatDoorPx4
import Derived.Test.YtnpohgoacbpcjaaGreatDoorPx5
import Derived.Test.YtnpohgoacbpcjaaGreatDoorPx7
namespace Go.Proofs.YtnpohgoacbpcjaaGreatDoor.P
open Go.RowKit Go.Proofs.YtnpohgoacbpcjaaGreatDoorW.PrintWords Go.Proofs.YtnpohgoacbpcjaaGreatDoorW.PrintLast Go.Proofs.YtnpohgoacbpcjaaGreatDoorW.PrintMore
attribute [local go_sem] max2_int min2_int max_two min_two max_three min_three max_four min_four   -- for this text's walks alone
set_option linter.unusedVariables false
set_option linter.unusedSimpArgs false

/-! ### class_Parse: function 19 -/
def class_Parse.f (k : Nat) (a0 : ByteArray) : Option ((List (S28)) × Int × Int) := (class_reader_class.f k a0 0 (-1)).bind fun bt246 => (if bt246.2.2.2 ≥ 0 then (some (([] : List (S28)), 1, bt246.2.2.2)) else (some (bt246.1, 0, 0)))
theorem class_Parse.mono : ∀ a0 k, LeO (class_Parse.f k a0) (class_Parse.f (k + 1) a0) := by
  intro a0 k
  unfold class_Parse.f
  repeat' first
      | (with_reducible exact class_reader_class.mono _ _ _ _)
      | (with_reducible exact LeO.refl _)
      | (with_reducible exact LeO.none _)
      | (with_reducible refine LeO.ite ?_ ?_)
      | (with_reducible refine LeO.bind ?_ (fun _ => ?_))
      | exact class_reader_class.mono _ _ _ _
      | exact LeO.none _
      | refine LeO.ite ?_ ?_
      | refine LeO.bind ?_ (fun _ => ?_)
set_option maxHeartbeats 64000000 in
set_option maxRecDepth 100000 in
theorem class_Parse.calls (k : Nat) (a0 : ByteArray) (r1 : List (S28)) (r2 : Int) (r3 : Int) (w : World) (h : class_Parse.f k a0 = some (r1, r2, r3)) (ht : GTabs w := by first | assumption | exact gtb_ (by assumption) (bl_ (by assumption)).out) :
    Calls Tryz.prog 19 #[.string a0] w fun e w' => ∃ v0_ : Value, e = .returned (.tuple #[v0_, .int .i64 r2, .int .i64 r3]) ∧ Kd.R k28 28 w' w.heap.size (fun _ => True) v0_ r1 ∧ Below w.heap.size w w' := by
  have hu66 := Tryz.underlying66
  have HB := Aside0.mk (Below.refl w.heap.size w)
  have H : ((class_reader_class.f k a0 0 (-1)).bind fun bt246 => (if bt246.2.2.2 ≥ 0 then (some (([] : List (S28)), 1, bt246.2.2.2)) else (some (bt246.1, 0, 0)))) = some (r1, r2, r3) := h
  clear h
  replace H := Option.bind_eq_some_iff.mp H
  obtain ⟨⟨t246, t249, t250, t251⟩, A20, H⟩ := H
  replace H : (if t251 ≥ 0 then (some (([] : List (S28)), 1, t251)) else (some (t246, 0, 0))) = some (r1, r2, r3) := H
  have A2 := Aside0.mk A20
  clear A20
  by_cases c3 : t251 ≥ 0
  · rw [if_pos c3] at H
    have c3b0 : decide (0 ≤ t251) = true := decide_eq_true c3
    clear c3
    simp only [Option.some.injEq, Prod.mk.injEq] at H
    obtain ⟨rfl, rfl, rfl⟩ := H
    go_enter Tryz.func19, Tryz.ntmps19
    go_wp2_with (first | ((with_reducible refine gate_dst (N := 9) rfl ?_); refine be_ 9 #[.string a0, .int .i64 0, .int .i64 (-1)] 66 ?_; intro gb245 hg w4 hbox hb; have n0_ := Aside0.mk (below_step (bl_ HB).out hb); have n1_ := Aside0.mk (hbox); have n2_ := Aside0.mk ((⟨hbox, (by rw [hg]; exact (below_size (bl_ HB).out) : w.heap.size ≤ gb245)⟩ : IsS66 w w4 gb245 a0 0 (-1))); clear HB; have HB := n0_; have HI245 := n1_; have HI245 := n2_; clear n0_ n1_ n2_; clear hb hbox hg) | (go_at_call 31; (with_reducible refine (class_reader_class.calls k gb245 a0 0 (-1) t246 t249 t250 t251 w _ ?side1 ?side2 A2.out).mono ?_); (case side1 => repeat (first | (with_reducible first | exact HI245.out | apply IsS66.alloc | apply IsS66.drewN | apply IsS66.drew | apply IsS66.set_0 | apply IsS66.set_1 | apply IsS66.set_2) | exact HI245.out)); (case side2 => repeat (first | (with_reducible first | exact HB.out | apply below_alloc | apply pw_below_drewN | apply below_drew1 | refine below_set ?_ (IsS66.ge HI245.out)) | exact HB.out)); rintro e w5 ⟨v247, rfl, ho0, hi, hb, hk⟩; have HO248 := Aside0.mk (Kd.R_lower ho0 (below_size (by repeat (first | (with_reducible first | exact HB.out | apply below_alloc | apply pw_below_drewN | apply below_drew1 | refine below_set ?_ (IsS66.ge HI245.out)) | exact HB.out)))); replace HB := Aside0.mk (hb); replace HI245 := Aside0.mk (hi); (try clear hb); (try clear hk); (try clear hi); (try clear ho0); obtain ⟨HGz6, hgz6⟩ := HI245.out; have hcz6_0 := cellS66_0 HGz6; have hcz6_1 := cellS66_1 HGz6; have hcz6_2 := cellS66_2 HGz6; have hfz6_0 := blk_frozen HGz6 0; have hfz6_1 := blk_frozen HGz6 1; have hfz6_2 := blk_frozen HGz6 2; clear HGz6 hgz6))
    repeat (go_quiet (first | ((with_reducible refine gate_dst (N := 9) rfl ?_); refine be_ 9 #[.string a0, .int .i64 0, .int .i64 (-1)] 66 ?_; intro gb245 hg w4 hbox hb; have n0_ := Aside0.mk (below_step (bl_ HB).out hb); have n1_ := Aside0.mk (hbox); have n2_ := Aside0.mk ((⟨hbox, (by rw [hg]; exact (below_size (bl_ HB).out) : w.heap.size ≤ gb245)⟩ : IsS66 w w4 gb245 a0 0 (-1))); clear HB; have HB := n0_; have HI245 := n1_; have HI245 := n2_; clear n0_ n1_ n2_; clear hb hbox hg) | (go_at_call 31; (with_reducible refine (class_reader_class.calls k gb245 a0 0 (-1) t246 t249 t250 t251 w _ ?side1 ?side2 A2.out).mono ?_); (case side1 => repeat (first | (with_reducible first | exact HI245.out | apply IsS66.alloc | apply IsS66.drewN | apply IsS66.drew | apply IsS66.set_0 | apply IsS66.set_1 | apply IsS66.set_2) | exact HI245.out)); (case side2 => repeat (first | (with_reducible first | exact HB.out | apply below_alloc | apply pw_below_drewN | apply below_drew1 | refine below_set ?_ (IsS66.ge HI245.out)) | exact HB.out)); rintro e w5 ⟨v247, rfl, ho0, hi, hb, hk⟩; have HO248 := Aside0.mk (Kd.R_lower ho0 (below_size (by repeat (first | (with_reducible first | exact HB.out | apply below_alloc | apply pw_below_drewN | apply below_drew1 | refine below_set ?_ (IsS66.ge HI245.out)) | exact HB.out)))); replace HB := Aside0.mk (hb); replace HI245 := Aside0.mk (hi); (try clear hb); (try clear hk); (try clear hi); (try clear ho0); obtain ⟨HGz6, hgz6⟩ := HI245.out; have hcz6_0 := cellS66_0 HGz6; have hcz6_1 := cellS66_1 HGz6; have hcz6_2 := cellS66_2 HGz6; have hfz6_0 := blk_frozen HGz6 0; have hfz6_1 := blk_frozen HGz6 1; have hfz6_2 := blk_frozen HGz6 2; clear HGz6 hgz6)); try go_wp2_with (first | ((with_reducible refine gate_dst (N := 9) rfl ?_); refine be_ 9 #[.string a0, .int .i64 0, .int .i64 (-1)] 66 ?_; intro gb245 hg w4 hbox hb; have n0_ := Aside0.mk (below_step (bl_ HB).out hb); have n1_ := Aside0.mk (hbox); have n2_ := Aside0.mk ((⟨hbox, (by rw [hg]; exact (below_size (bl_ HB).out) : w.heap.size ≤ gb245)⟩ : IsS66 w w4 gb245 a0 0 (-1))); clear HB; have HB := n0_; have HI245 := n1_; have HI245 := n2_; clear n0_ n1_ n2_; clear hb hbox hg) | (go_at_call 31; (with_reducible refine (class_reader_class.calls k gb245 a0 0 (-1) t246 t249 t250 t251 w _ ?side1 ?side2 A2.out).mono ?_); (case side1 => repeat (first | (with_reducible first | exact HI245.out | apply IsS66.alloc | apply IsS66.drewN | apply IsS66.drew | apply IsS66.set_0 | apply IsS66.set_1 | apply IsS66.set_2) | exact HI245.out)); (case side2 => repeat (first | (with_reducible first | exact HB.out | apply below_alloc | apply pw_below_drewN | apply below_drew1 | refine below_set ?_ (IsS66.ge HI245.out)) | exact HB.out)); rintro e w5 ⟨v247, rfl, ho0, hi, hb, hk⟩; have HO248 := Aside0.mk (Kd.R_lower ho0 (below_size (by repeat (first | (with_reducible first | exact HB.out | apply below_alloc | apply pw_below_drewN | apply below_drew1 | refine below_set ?_ (IsS66.ge HI245.out)) | exact HB.out)))); replace HB := Aside0.mk (hb); replace HI245 := Aside0.mk (hi); (try clear hb); (try clear hk); (try clear hi); (try clear ho0); obtain ⟨HGz6, hgz6⟩ := HI245.out; have hcz6_0 := cellS66_0 HGz6; have hcz6_1 := cellS66_1 HGz6; have hcz6_2 := cellS66_2 HGz6; have hfz6_0 := blk_frozen HGz6 0; have hfz6_1 := blk_frozen HGz6 1; have hfz6_2 := blk_frozen HGz6 2; clear HGz6 hgz6)))
    go_ret3
    exact ⟨_, by first | rfl | (simp [errW_none, errW_some] <;> rfl) | (simp [*, errW_none, errW_some] <;> first | rfl | exact given_isEmpty _ | exact (given_isEmpty _).symm), by first | exact Kd.R_nil _ _ _ _ _ | exact Kd.N_nil _ _ _ _ _ | exact Kd.V_nil _ _ _ _ _ | exact Kd.Q_nil _ _ _ _ _ | exact Kd.S_nil _ _ _ _ _, by repeat (first | (with_reducible first | exact HB.out | apply below_alloc | apply pw_below_drewN | apply below_drew1 | refine below_set ?_ (IsS66.ge HI245.out)) | exact HB.out)⟩
  · rw [if_neg c3] at H
    have c3b0 : decide (0 ≤ t251) = false := decide_eq_false c3
    clear c3
    simp only [Option.some.injEq, Prod.mk.injEq] at H
    obtain ⟨rfl, rfl, rfl⟩ := H
    go_enter Tryz.func19, Tryz.ntmps19
    go_wp2_with (first | ((with_reducible refine gate_dst (N := 9) rfl ?_); refine be_ 9 #[.string a0, .int .i64 0, .int .i64 (-1)] 66 ?_; intro gb245 hg w7 hbox hb; have n0_ := Aside0.mk (below_step (bl_ HB).out hb); have n1_ := Aside0.mk (hbox); have n2_ := Aside0.mk ((⟨hbox, (by rw [hg]; exact (below_size (bl_ HB).out) : w.heap.size ≤ gb245)⟩ : IsS66 w w7 gb245 a0 0 (-1))); clear HB; have HB := n0_; have HI245 := n1_; have HI245 := n2_; clear n0_ n1_ n2_; clear hb hbox hg) | (go_at_call 31; (with_reducible refine (class_reader_class.calls k gb245 a0 0 (-1) t246 t249 t250 t251 w _ ?side1 ?side2 A2.out).mono ?_); (case side1 => repeat (first | (with_reducible first | exact HI245.out | apply IsS66.alloc | apply IsS66.drewN | apply IsS66.drew | apply IsS66.set_0 | apply IsS66.set_1 | apply IsS66.set_2) | exact HI245.out)); (case side2 => repeat (first | (with_reducible first | exact HB.out | apply below_alloc | apply pw_below_drewN | apply below_drew1 | refine below_set ?_ (IsS66.ge HI245.out)) | exact HB.out)); rintro e w8 ⟨v247, rfl, ho0, hi, hb, hk⟩; have HO248 := Aside0.mk (Kd.R_lower ho0 (below_size (by repeat (first | (with_reducible first | exact HB.out | apply below_alloc | apply pw_below_drewN | apply below_drew1 | refine below_set ?_ (IsS66.ge HI245.out)) | exact HB.out)))); replace HB := Aside0.mk (hb); replace HI245 := Aside0.mk (hi); (try clear hb); (try clear hk); (try clear hi); (try clear ho0); obtain ⟨HGz9, hgz9⟩ := HI245.out; have hcz9_0 := cellS66_0 HGz9; have hcz9_1 := cellS66_1 HGz9; have hcz9_2 := cellS66_2 HGz9; have hfz9_0 := blk_frozen HGz9 0; have hfz9_1 := blk_frozen HGz9 1; have hfz9_2 := blk_frozen HGz9 2; clear HGz9 hgz9))
    repeat (go_quiet (first | ((with_reducible refine gate_dst (N := 9) rfl ?_); refine be_ 9 #[.string a0, .int .i64 0, .int .i64 (-1)] 66 ?_; intro gb245 hg w7 hbox hb; have n0_ := Aside0.mk (below_step (bl_ HB).out hb); have n1_ := Aside0.mk (hbox); have n2_ := Aside0.mk ((⟨hbox, (by rw [hg]; exact (below_size (bl_ HB).out) : w.heap.size ≤ gb245)⟩ : IsS66 w w7 gb245 a0 0 (-1))); clear HB; have HB := n0_; have HI245 := n1_; have HI245 := n2_; clear n0_ n1_ n2_; clear hb hbox hg) | (go_at_call 31; (with_reducible refine (class_reader_class.calls k gb245 a0 0 (-1) t246 t249 t250 t251 w _ ?side1 ?side2 A2.out).mono ?_); (case side1 => repeat (first | (with_reducible first | exact HI245.out | apply IsS66.alloc | apply IsS66.drewN | apply IsS66.drew | apply IsS66.set_0 | apply IsS66.set_1 | apply IsS66.set_2) | exact HI245.out)); (case side2 => repeat (first | (with_reducible first | exact HB.out | apply below_alloc | apply pw_below_drewN | apply below_drew1 | refine below_set ?_ (IsS66.ge HI245.out)) | exact HB.out)); rintro e w8 ⟨v247, rfl, ho0, hi, hb, hk⟩; have HO248 := Aside0.mk (Kd.R_lower ho0 (below_size (by repeat (first | (with_reducible first | exact HB.out | apply below_alloc | apply pw_below_drewN | apply below_drew1 | refine below_set ?_ (IsS66.ge HI245.out)) | exact HB.out)))); replace HB := Aside0.mk (hb); replace HI245 := Aside0.mk (hi); (try clear hb); (try clear hk); (try clear hi); (try clear ho0); obtain ⟨HGz9, hgz9⟩ := HI245.out; have hcz9_0 := cellS66_0 HGz9; have hcz9_1 := cellS66_1 HGz9; have hcz9_2 := cellS66_2 HGz9; have hfz9_0 := blk_frozen HGz9 0; have hfz9_1 := blk_frozen HGz9 1; have hfz9_2 := blk_frozen HGz9 2; clear HGz9 hgz9)); try go_wp2_with (first | ((with_reducible refine gate_dst (N := 9) rfl ?_); refine be_ 9 #[.string a0, .int .i64 0, .int .i64 (-1)] 66 ?_; intro gb245 hg w7 hbox hb; have n0_ := Aside0.mk (below_step (bl_ HB).out hb); have n1_ := Aside0.mk (hbox); have n2_ := Aside0.mk ((⟨hbox, (by rw [hg]; exact (below_size (bl_ HB).out) : w.heap.size ≤ gb245)⟩ : IsS66 w w7 gb245 a0 0 (-1))); clear HB; have HB := n0_; have HI245 := n1_; have HI245 := n2_; clear n0_ n1_ n2_; clear hb hbox hg) | (go_at_call 31; (with_reducible refine (class_reader_class.calls k gb245 a0 0 (-1) t246 t249 t250 t251 w _ ?side1 ?side2 A2.out).mono ?_); (case side1 => repeat (first | (with_reducible first | exact HI245.out | apply IsS66.alloc | apply IsS66.drewN | apply IsS66.drew | apply IsS66.set_0 | apply IsS66.set_1 | apply IsS66.set_2) | exact HI245.out)); (case side2 => repeat (first | (with_reducible first | exact HB.out | apply below_alloc | apply pw_below_drewN | apply below_drew1 | refine below_set ?_ (IsS66.ge HI245.out)) | exact HB.out)); rintro e w8 ⟨v247, rfl, ho0, hi, hb, hk⟩; have HO248 := Aside0.mk (Kd.R_lower ho0 (below_size (by repeat (first | (with_reducible first | exact HB.out | apply below_alloc | apply pw_below_drewN | apply below_drew1 | refine below_set ?_ (IsS66.ge HI245.out)) | exact HB.out)))); replace HB := Aside0.mk (hb); replace HI245 := Aside0.mk (hi); (try clear hb); (try clear hk); (try clear hi); (try clear ho0); obtain ⟨HGz9, hgz9⟩ := HI245.out; have hcz9_0 := cellS66_0 HGz9; have hcz9_1 := cellS66_1 HGz9; have hcz9_2 := cellS66_2 HGz9; have hfz9_0 := blk_frozen HGz9 0; have hfz9_1 := blk_frozen HGz9 1; have hfz9_2 := blk_frozen HGz9 2; clear HGz9 hgz9)))
    go_ret3
    exact ⟨_, by first | rfl | (simp [errW_none, errW_some] <;> rfl) | (simp [*, errW_none, errW_some] <;> first | rfl | exact given_isEmpty _ | exact (given_isEmpty _).symm), by (with_reducible repeat (first | apply Kd.R_alloc | apply Kd.R_drewN | apply Kd.R_drew)); exact HO248.out, by repeat (first | (with_reducible first | exact HB.out | apply below_alloc | apply pw_below_drewN | apply below_drew1 | refine below_set ?_ (IsS66.ge HI245.out)) | exact HB.out)⟩

/-! ### class_Class_String: function 21 -/
set_option maxHeartbeats 4000000 in
theorem class_sign.zeros (w : World) (ht : GTabs w) : Calls Tryz.prog 94 #[.int .u64 16] w fun e w' => e = .returned (.int .i64 4) ∧ w' = w := by
  have hc := ht.2.cell (g := 7) (by kernel_rfl) 15 (by decide)
  have hz : GTabs.deB.getD 15 0 = 4 := rfl
  rw [hz] at hc
  have e1 : Go.bits .and .u64 16 (IntKind.u64.wrap (-16)) = 16 := by decide
  have e2 : Go.bits .and .u64 16 18446744073709551600 = 16 := by decide
  have e3 : IntKind.u64.wrap (16 * 285870213051353865) = 4573923408821661840 := by decide
  go_enter Tryz.func94, Tryz.ntmps94
  go_wp2
  go_ret
  exact ⟨rfl, rfl⟩
theorem class_sign.pow (w : World) : Calls Tryz.prog 93 #[.int .i64 16] w fun e w' => e = .returned (.bool true) ∧ w' = w := by
  have e1 : Go.bits .and .i64 16 15 = 0 := by decide
  go_enter Tryz.func93, Tryz.ntmps93
  go_wp2
  go_ret
  exact ⟨rfl, rfl⟩
def class_sign.hexd (n : Nat) : UInt8 := if n < 10 then (48 + n).toUInt8 else (87 + n).toUInt8
def class_sign.hex : Nat → Nat → List UInt8
  | 0, _ => []
  | k + 1, n => if n < 16 then [class_sign.hexd n] else class_sign.hex k (n / 16) ++ [class_sign.hexd (n % 16)]
/-- The digits so far: at the row's end. -/
def class_sign.At (cur : Array Value) (acc : List UInt8) : Prop := cur.size = 65 ∧ acc.length ≤ 65 ∧ ∀ j (h : j < acc.length), cur[65 - acc.length + j]? = some (.int .u8 (acc[j]'h).toNat)
theorem class_sign.At_put {cur : Array Value} {acc : List UInt8} (h : class_sign.At cur acc) (hl : acc.length ≤ 64) (d : UInt8) : class_sign.At (cur.setIfInBounds (65 - acc.length - 1) (.int .u8 (d.toNat : Int))) (d :: acc) := by
  obtain ⟨h1, h2, h3⟩ := h
  refine ⟨by simpa using h1, by rw [List.length_cons]; omega, fun j hj => ?_⟩
  rw [List.length_cons] at hj ⊢
  match j, hj with
  | 0, _ =>
    rw [show 65 - (acc.length + 1) + 0 = 65 - acc.length - 1 by omega, Array.getElem?_setIfInBounds, if_pos rfl, if_pos (by omega)]
    rfl
  | j + 1, hj =>
    rw [Array.getElem?_setIfInBounds, if_neg (by omega), show 65 - (acc.length + 1) + (j + 1) = 65 - acc.length + j by omega, h3 j (by omega)]
    rfl
theorem class_sign.hex_step (k u : Nat) (h : 16 ≤ u) : class_sign.hex (k + 1) u = class_sign.hex k (u / 16) ++ [class_sign.hexd (u % 16)] := by
  rw [class_sign.hex, if_neg (by omega)]
theorem class_sign.hex_last (k u : Nat) (h : u < 16) : class_sign.hex (k + 1) u = [class_sign.hexd u] := by
  rw [class_sign.hex, if_pos h]
theorem class_sign.addOff (b o j : Nat) : (⟨b, o, none⟩ : Addr).add j = ⟨b, o + j, none⟩ := by
  unfold Addr.add
  split
  · next h => rw [h]; rfl
  · rfl
set_option maxRecDepth 100000 in
theorem class_sign.conv {w : World} {ad : Addr} (xs : List UInt8) (hc : ∀ j (h : j < xs.length), w.cell? (ad.add j) = some (.int .u8 ((xs[j]'h).toNat : Int))) (c : Nat) :
    (convert 67 9 (.slice (some ad) xs.length c)).run Tryz.prog w = .ok (.string ⟨xs.toArray⟩) w := by
  have hl : (loadCells ad xs.length).run Tryz.prog w = .ok ((xs.map fun b => ((b.toNat : Int))).map (Value.int .u8)).toArray w := by
    have := run_loadCells_list (P := Tryz.prog) w ad ((xs.map fun b => ((b.toNat : Int))).map (Value.int .u8)) (fun j v hj => by
      rw [List.getElem?_map, List.getElem?_map] at hj
      rcases Nat.lt_or_ge j xs.length with h' | h'
      · rw [List.getElem?_eq_getElem h'] at hj
        rw [hc j h', ← hj]; rfl
      · rw [List.getElem?_eq_none h'] at hj; cases hj)
    simpa using this
  rw [run_convert_bytes_string w 67 9 5 _ xs.length c Tryz.underlying67 Tryz.underlying5 Tryz.underlying9, run_bytesToString w ad xs.length c (xs.map fun b => ((b.toNat : Int))) hl, foldl_push_bytes]
  simp [ByteArray.empty, ByteArray.emptyWithCapacity]
  refine (List.nil_append _).trans ?_
  conv => rhs; rw [← List.map_id xs]
  exact List.map_congr_left fun b _ => by simp
def class_sign.digs : ByteArray := ⟨#[48, 49, 50, 51, 52, 53, 54, 55, 56, 57, 97, 98, 99, 100, 101, 102, 103, 104, 105, 106, 107, 108, 109, 110, 111, 112, 113, 114, 115, 116, 117, 118, 119, 120, 121, 122]⟩
theorem class_sign.digit (d : Int) (h0 : 0 ≤ d) (h1 : d < 16) : bt class_sign.digs d = (class_sign.hexd d.toNat).toNat := by
  have : d = 0 ∨ d = 1 ∨ d = 2 ∨ d = 3 ∨ d = 4 ∨ d = 5 ∨ d = 6 ∨ d = 7 ∨ d = 8 ∨ d = 9 ∨ d = 10 ∨ d = 11 ∨ d = 12 ∨ d = 13 ∨ d = 14 ∨ d = 15 := by omega
  rcases this with rfl | rfl | rfl | rfl | rfl | rfl | rfl | rfl | rfl | rfl | rfl | rfl | rfl | rfl | rfl | rfl <;> decide
set_option maxHeartbeats 8000000 in
set_option maxRecDepth 100000 in
theorem class_sign.bits (n : Int) (h0 : 0 ≤ n) (h1 : n < 16777216) (w : World) (ht : GTabs w) :
    Calls Tryz.prog 77 #[.slice none 0 0, .int .u64 n, .int .i64 16, .bool false, .bool false] w fun e w' => e = .returned (.tuple #[.slice none 0 0, .string ⟨(class_sign.hex 16 n.toNat).toArray⟩]) ∧ Below w.heap.size w w' := by
  have hz := fun W hb => class_sign.zeros W (gtb_ ht hb)
  have hp := fun W => class_sign.pow W
  go_enter Tryz.func77, Tryz.ntmps77
  go_wp2_with (first | (go_at_call 93; refine (hp _).mono ?_; rintro e w' ⟨rfl, rfl⟩) | (go_at_call 94; refine (hz _ (below_alloc (Below.refl _ _) _)).mono ?_; rintro e w' ⟨rfl, rfl⟩))
  have hcz : (w.alloc (.cells Tryz.zeroCells140 140)).heap[w.heap.size]? = some (.cells Tryz.zeroCells140 140 (0, 0)) := by
    show (w.heap.push _)[w.heap.size]? = _
    simp
  have hB0 : Below w.heap.size w (w.alloc (.cells Tryz.zeroCells140 140)) := below_alloc (Below.refl _ _) _
  have hA0 : class_sign.At Tryz.zeroCells140 [] := ⟨by kernel_rfl, by decide, fun j h => absurd h (Nat.not_lt_zero _)⟩
  clear hz hp
  generalize w.alloc (.cells Tryz.zeroCells140 140) = W1 at hcz hB0 ⊢
  generalize Tryz.zeroCells140 = cur0 at hcz hA0
  have HCZ := Aside0.mk hcz
  have HB0 := Aside0.mk hB0
  have HA0 := Aside0.mk hA0
  clear hcz hB0 hA0
  go_loopg [1, 13] n.toNat (fun kx s1 s13 wr => ∃ (u i : Int) (acc : List UInt8) (cur : Array Value), s1 = .int .u64 u ∧ s13 = .int .i64 i ∧ 0 ≤ u ∧ u < 16777216 ∧ u.toNat ≤ kx ∧ 59 ≤ i ∧ i ≤ 65 ∧ Aside0 (i = 65 - (acc.length : Int) ∧ u.toNat < 16 ^ (6 - acc.length) ∧ acc.length ≤ 5 ∧
    class_sign.hex 16 n.toNat = class_sign.hex (16 - acc.length) u.toNat ++ acc) ∧ Aside0 (class_sign.At cur acc) ∧ Aside0 (wr.heap[w.heap.size]? = some (.cells cur 140 (0, 0))) ∧ Aside0 (Below w.heap.size w wr))
  case atStart => exact ⟨n, 65, [], cur0, rfl, rfl, h0, h1, Nat.le_refl _, by omega, by omega, ⟨rfl, by show n.toNat < 16 ^ 6; omega, by decide, by simp⟩, HA0, HCZ, HB0⟩
  case round =>
    clear HCZ HB0 HA0
    obtain ⟨u, i, acc, cur, rfl, rfl, hu0, hu1, hg, hi0, hi1, I, AT, HC, HB⟩ := hrel
    have hcell : ∀ j : Nat, j < 65 → ∃ v, wr.cell? ⟨w.heap.size, j, none⟩ = some v := by
      intro j hj
      have := AT.out.1
      exact ⟨cur[j], by rw [show wr.cell? ⟨w.heap.size, j, none⟩ = cur[j]? from by simp [World.cell?, HC.out], Array.getElem?_eq_getElem (by omega)]⟩
    by_cases hlt : 16 ≤ u
    · have hd := class_sign.digit (u % 16) (by omega) (by omega)
      have hx := bt_at class_sign.digs (u % 16)
      rw [hd] at hx
      unfold class_sign.digs at hx
      clear hd
      obtain ⟨v, hv⟩ : ∃ v : Int, v = ((class_sign.hexd (u % 16).toNat).toNat : Int) := ⟨_, rfl⟩
      rw [← hv] at hx
      have hv0 : 0 ≤ v := by omega
      have hv1 : v < 256 := by have := (class_sign.hexd (u % 16).toNat).toNat_lt; omega
      have HV := Aside0.mk hv
      clear hv
      have hand := bits_mask .u64 24 (by decide) (fun n h0 h1 => by rw [IntKind.wrap_u64]; omega) 4 (by decide) u hu0 (by omega)
      rw [show ((2 : Int) ^ 4 - 1) = 15 from by decide, show ((2 : Int) ^ 4) = 16 from by decide] at hand
      have p1 : (0 ≤ u % 16) = True := eq_true (by omega)
      have p2 : (u % 16 < 36) = True := eq_true (by omega)
      have p3 : (0 ≤ i - 1) = True := eq_true (by omega)
      have p4 : (i - 1 < 65) = True := eq_true (by omega)
      have p5 : decide (16 ≤ u) = true := decide_eq_true hlt
      obtain ⟨old, hold⟩ := hcell (i.toNat - 1) (by omega)
      have hfr := blk_frozen HC.out (i.toNat - 1)
      clear hcell
      go_wp2
      go_roundg (u / 16).toNat
      case measure => omega
      case rel =>
        obtain ⟨i1, i2, i3, i4⟩ := I.out
        have hl6 : u.toNat < 16 ^ (6 - acc.length) := i2
        have hle : acc.length ≤ 4 := by
          apply Decidable.byContradiction
          intro hn
          have : acc.length = 5 := by omega
          rw [this] at i2
          omega
        refine ⟨u / 16, i - 1, class_sign.hexd (u % 16).toNat :: acc, cur.setIfInBounds (i.toNat - 1) (.int .u8 v), rfl, rfl, by omega, by omega, Nat.le_refl _, by omega, by omega, ⟨?_, ?_, ?_, ?_⟩, ⟨?_⟩, ⟨blk_set HC.out _ _⟩, ⟨?_⟩⟩
        · rw [List.length_cons]; omega
        · rw [List.length_cons]
          have e : 16 ^ (6 - acc.length) = 16 ^ (6 - (acc.length + 1)) * 16 := by rw [← Nat.pow_succ]; congr 1; omega
          omega
        · rw [List.length_cons]; omega
        · rw [i4, List.length_cons, show 16 - acc.length = (16 - (acc.length + 1)) + 1 by omega, class_sign.hex_step _ _ (by omega), show (u / 16).toNat = u.toNat / 16 by omega, show (u % 16).toNat = u.toNat % 16 by omega]
          simp
        · have := class_sign.At_put AT.out (by omega) (class_sign.hexd (u % 16).toNat)
          rw [HV.out, show i.toNat - 1 = 65 - acc.length - 1 by omega]
          exact this
        · exact below_set HB.out (Nat.le_refl _)
    · have hd := class_sign.digit u hu0 (by omega)
      have hx := bt_at class_sign.digs u
      rw [hd] at hx
      unfold class_sign.digs at hx
      clear hd
      obtain ⟨v, hv⟩ : ∃ v : Int, v = ((class_sign.hexd u.toNat).toNat : Int) := ⟨_, rfl⟩
      rw [← hv] at hx
      have hv0 : 0 ≤ v := by omega
      have hv1 : v < 256 := by have := (class_sign.hexd u.toNat).toNat_lt; omega
      have HV := Aside0.mk hv
      clear hv
      have p1 : (0 ≤ u) = True := eq_true (by omega)
      have p2 : (u < 36) = True := eq_true (by omega)
      have p3 : (0 ≤ i - 1) = True := eq_true (by omega)
      have p4 : (i - 1 < 65) = True := eq_true (by omega)
      have p5 : decide (16 ≤ u) = false := decide_eq_false hlt
      obtain ⟨old, hold⟩ := hcell (i.toNat - 1) (by omega)
      have hfr := blk_frozen HC.out (i.toNat - 1)
      clear hcell
      obtain ⟨i1, i2, i3, i4⟩ := I.out
      have hAT := class_sign.At_put AT.out (by omega) (class_sign.hexd u.toNat)
      have hC2 := blk_set HC.out (i.toNat - 1) (.int .u8 v)
      obtain ⟨ds, hds⟩ : ∃ ds, ds = class_sign.hexd u.toNat :: acc := ⟨_, rfl⟩
      have hlen : ds.length = acc.length + 1 := by rw [hds]; rfl
      have hoff : i.toNat - 1 = 65 - ds.length := by omega
      have hres : class_sign.hex 16 n.toNat = ds := by
        rw [i4, show 16 - acc.length = (15 - acc.length) + 1 by omega, class_sign.hex_last _ _ (by omega), hds]; rfl
      rw [← hds] at hAT
      have hcv := class_sign.conv (w := wr.setCell ⟨w.heap.size, i.toNat - 1, none⟩ (.int .u8 v)) (ad := ⟨w.heap.size, i.toNat - 1, none⟩) ds (fun j hj => by
        have h3 := hAT.2.2 j hj
        rw [show (⟨w.heap.size, i.toNat - 1, none⟩ : Addr).add j = ⟨w.heap.size, i.toNat - 1 + j, none⟩ from class_sign.addOff _ _ _, blk_cell hC2, HV.out, hoff, show 65 - ds.length = 65 - acc.length - 1 by omega]
        rw [← h3]; congr 1; omega) ds.length
      have hsl : ∀ W, (Instr.sliceAt 140 (.pointer (some ⟨w.heap.size, 0, none⟩)) (some (.int .i64 (i - 1))) none none).run Tryz.prog W = .ok (.slice (some ⟨w.heap.size, i.toNat - 1, none⟩) ds.length ds.length) W := fun W => by
        have hal : Tryz.prog.arrayLen 140 = 65 := by simp [Program.arrayLen, Tryz.underlying140]
        rw [run_sliceAt_array_l W 140 ⟨w.heap.size, 0, none⟩ (by simp [Program.arrayLen, Program.elem, Tryz.underlying140]) .i64 (i - 1) (by omega) (by rw [hal]; omega), hal]
        have he : Tryz.prog.elem 140 = 5 := by simp [Program.elem, Tryz.underlying140]
        rw [he, Tryz.sizeOf5]
        show Result.ok (slicedAt _ _ _ _ _) W = _
        unfold slicedAt
        rw [if_neg (by omega), show (i - 1).toNat = i.toNat - 1 by omega, show 65 - (i.toNat - 1) = ds.length by omega, class_sign.addOff, Nat.mul_one, Nat.zero_add]
      have HRES := Aside0.mk hres
      clear hAT hC2 hds hlen i1 i2 i3 i4 hoff hres
      go_wp2
      go_ret2
      exact ⟨by rw [HRES.out]; rfl, below_set HB.out (Nat.le_refl _)⟩
set_option maxHeartbeats 4000000 in
theorem class_sign.fmt_i (n : Int) (h0 : 0 ≤ n) (h1 : n < 16777216) (w : World) (ht : GTabs w) :
    Calls Tryz.prog 62 #[.int .i64 n, .int .i64 16] w fun e w' => e = .returned (.string ⟨(class_sign.hex 16 n.toNat).toArray⟩) ∧ Below w.heap.size w w' := by
  have hb := class_sign.bits n h0 h1 w ht
  have p1 : decide (n < 0) = false := decide_eq_false (by omega)
  have e1 : IntKind.u64.wrap n = n := by rw [IntKind.wrap_u64]; omega
  go_enter Tryz.func62, Tryz.ntmps62
  go_wp2_with (go_at_call 77; refine hb.mono ?_; rintro e w' ⟨rfl, hB⟩)
  go_ret
  exact ⟨rfl, hB⟩
set_option maxHeartbeats 4000000 in
theorem class_sign.fmt (n : Int) (h0 : 0 ≤ n) (h1 : n < 16777216) (w : World) (ht : GTabs w) :
    Calls Tryz.prog 47 #[.int .i64 n, .int .i64 16] w fun e w' => e = .returned (.string ⟨(class_sign.hex 16 n.toNat).toArray⟩) ∧ Below w.heap.size w w' := by
  have hb := class_sign.fmt_i n h0 h1 w ht
  go_enter Tryz.func47, Tryz.ntmps47
  go_wp2_with (go_at_call 62; refine hb.mono ?_; rintro e w' ⟨rfl, hB⟩)
  go_ret
  exact ⟨rfl, hB⟩
def class_sign.L (r : Int) : List UInt8 := if 48 ≤ r ∧ r ≤ 57 ∨ 65 ≤ r ∧ r ≤ 90 ∨ 97 ≤ r ∧ r ≤ 122 then [r.toNat.toUInt8] else [92, 117, 123] ++ class_sign.hex 16 r.toNat ++ [125]
theorem class_sign.ascii (r : Int) (h0 : 0 ≤ r) (h1 : r < 128) : Utf8.encode r = ⟨#[r.toNat.toUInt8]⟩ := by
  have hv : Utf8.valid r = true := by unfold Utf8.valid; simp; omega
  unfold Utf8.encode
  rw [hv]
  simp only [if_true]
  rw [if_pos (by omega)]
theorem class_sign.hex_len : ∀ k n, (class_sign.hex k n).length ≤ k
  | 0, _ => Nat.le_refl _
  | k + 1, n => by
    rw [class_sign.hex]
    split
    · simp
    · have := class_sign.hex_len k (n / 16)
      rw [List.length_append, List.length_singleton]; omega
set_option maxHeartbeats 4000000 in
theorem class_sign.calls (r : Int) (h0 : 0 ≤ r) (h1 : r ≤ 1114111) (w : World) (ht : GTabs w) :
    Calls Tryz.prog 35 #[.int .i32 r] w fun e w' => e = .returned (.string ⟨(class_sign.L r).toArray⟩) ∧ Below w.heap.size w w' := by
  have hb := class_sign.fmt r h0 (by omega) w ht
  have e1 : IntKind.i64.wrap r = r := by rw [IntKind.wrap_i64]; omega
  have hs : r < 48 ∨ (48 ≤ r ∧ r ≤ 57) ∨ (57 < r ∧ r < 65) ∨ (65 ≤ r ∧ r ≤ 90) ∨ (90 < r ∧ r < 97) ∨ (97 ≤ r ∧ r ≤ 122) ∨ 122 < r := by omega
  have hu := class_sign.ascii r h0
  have hq := class_sign.hex_len 16 r.toNat
  have q1 : (9223372036854775807 < 3 + (class_sign.hex 16 r.toNat).length) = False := eq_false (by omega)
  have q2 : (9223372036854775807 < 3 + (class_sign.hex 16 r.toNat).length + 1) = False := eq_false (by omega)
  obtain ⟨L, hL⟩ : ∃ L, L = class_sign.L r := ⟨_, rfl⟩
  rw [← hL]
  unfold class_sign.L at hL
  rcases hs with hs | hs | hs | hs | hs | hs | hs
  · have a0 : decide (48 ≤ r) = false := decide_eq_false (by omega)
    have a1 : decide (r ≤ 57) = true := decide_eq_true (by omega)
    have a2 : decide (65 ≤ r) = false := decide_eq_false (by omega)
    have a3 : decide (r ≤ 90) = true := decide_eq_true (by omega)
    have a4 : decide (97 ≤ r) = false := decide_eq_false (by omega)
    have a5 : decide (r ≤ 122) = true := decide_eq_true (by omega)
    rw [if_neg (by omega)] at hL
    have HL := Aside0.mk hL
    clear hL hs hu hq
    go_enter Tryz.func35, Tryz.ntmps35
    go_wp2_with (go_at_call 47; refine hb.mono ?_; rintro e w' ⟨rfl, hB⟩)
    go_ret
    refine ⟨?_, hB⟩
    rw [HL.out]
    exact congrArg Ending.returned (congrArg Value.string (ByteArray.ext (by simp)))
  · have a0 : decide (48 ≤ r) = true := decide_eq_true (by omega)
    have a1 : decide (r ≤ 57) = true := decide_eq_true (by omega)
    have a2 : decide (65 ≤ r) = false := decide_eq_false (by omega)
    have a3 : decide (r ≤ 90) = true := decide_eq_true (by omega)
    have a4 : decide (97 ≤ r) = false := decide_eq_false (by omega)
    have a5 : decide (r ≤ 122) = true := decide_eq_true (by omega)
    rw [if_pos (by omega)] at hL
    have hu := hu (by omega)
    have HL := Aside0.mk hL
    clear hL hs hq
    go_enter Tryz.func35, Tryz.ntmps35
    go_wp2
    go_ret
    refine ⟨?_, Below.refl _ _⟩
    rw [HL.out]
    rfl
  · have a0 : decide (48 ≤ r) = true := decide_eq_true (by omega)
    have a1 : decide (r ≤ 57) = false := decide_eq_false (by omega)
    have a2 : decide (65 ≤ r) = false := decide_eq_false (by omega)
    have a3 : decide (r ≤ 90) = true := decide_eq_true (by omega)
    have a4 : decide (97 ≤ r) = false := decide_eq_false (by omega)
    have a5 : decide (r ≤ 122) = true := decide_eq_true (by omega)
    rw [if_neg (by omega)] at hL
    have HL := Aside0.mk hL
    clear hL hs hu hq
    go_enter Tryz.func35, Tryz.ntmps35
    go_wp2_with (go_at_call 47; refine hb.mono ?_; rintro e w' ⟨rfl, hB⟩)
    go_ret
    refine ⟨?_, hB⟩
    rw [HL.out]
    exact congrArg Ending.returned (congrArg Value.string (ByteArray.ext (by simp)))
  · have a0 : decide (48 ≤ r) = true := decide_eq_true (by omega)
    have a1 : decide (r ≤ 57) = false := decide_eq_false (by omega)
    have a2 : decide (65 ≤ r) = true := decide_eq_true (by omega)
    have a3 : decide (r ≤ 90) = true := decide_eq_true (by omega)
    have a4 : decide (97 ≤ r) = false := decide_eq_false (by omega)
    have a5 : decide (r ≤ 122) = true := decide_eq_true (by omega)
    rw [if_pos (by omega)] at hL
    have hu := hu (by omega)
    have HL := Aside0.mk hL
    clear hL hs hq
    go_enter Tryz.func35, Tryz.ntmps35
    go_wp2
    go_ret
    refine ⟨?_, Below.refl _ _⟩
    rw [HL.out]
    rfl
  · have a0 : decide (48 ≤ r) = true := decide_eq_true (by omega)
    have a1 : decide (r ≤ 57) = false := decide_eq_false (by omega)
    have a2 : decide (65 ≤ r) = true := decide_eq_true (by omega)
    have a3 : decide (r ≤ 90) = false := decide_eq_false (by omega)
    have a4 : decide (97 ≤ r) = false := decide_eq_false (by omega)
    have a5 : decide (r ≤ 122) = true := decide_eq_true (by omega)
    rw [if_neg (by omega)] at hL
    have HL := Aside0.mk hL
    clear hL hs hu hq
    go_enter Tryz.func35, Tryz.ntmps35
    go_wp2_with (go_at_call 47; refine hb.mono ?_; rintro e w' ⟨rfl, hB⟩)
    go_ret
    refine ⟨?_, hB⟩
    rw [HL.out]
    exact congrArg Ending.returned (congrArg Value.string (ByteArray.ext (by simp)))
  · have a0 : decide (48 ≤ r) = true := decide_eq_true (by omega)
    have a1 : decide (r ≤ 57) = false := decide_eq_false (by omega)
    have a2 : decide (65 ≤ r) = true := decide_eq_true (by omega)
    have a3 : decide (r ≤ 90) = false := decide_eq_false (by omega)
    have a4 : decide (97 ≤ r) = true := decide_eq_true (by omega)
    have a5 : decide (r ≤ 122) = true := decide_eq_true (by omega)
    rw [if_pos (by omega)] at hL
    have hu := hu (by omega)
    have HL := Aside0.mk hL
    clear hL hs hq
    go_enter Tryz.func35, Tryz.ntmps35
    go_wp2
    go_ret
    refine ⟨?_, Below.refl _ _⟩
    rw [HL.out]
    rfl
  · have a0 : decide (48 ≤ r) = true := decide_eq_true (by omega)
    have a1 : decide (r ≤ 57) = false := decide_eq_false (by omega)
    have a2 : decide (65 ≤ r) = true := decide_eq_true (by omega)
    have a3 : decide (r ≤ 90) = false := decide_eq_false (by omega)
    have a4 : decide (97 ≤ r) = true := decide_eq_true (by omega)
    have a5 : decide (r ≤ 122) = false := decide_eq_false (by omega)
    rw [if_neg (by omega)] at hL
    have HL := Aside0.mk hL
    clear hL hs hu hq
    go_enter Tryz.func35, Tryz.ntmps35
    go_wp2_with (go_at_call 47; refine hb.mono ?_; rintro e w' ⟨rfl, hB⟩)
    go_ret
    refine ⟨?_, hB⟩
    rw [HL.out]
    exact congrArg Ending.returned (congrArg Value.string (ByteArray.ext (by simp)))
def class_Class_String.ren : Go.Shelf.Ren := ⟨fun | 167 => 33 | 166 => 34 | 240 => 46 | 276 => 61 | n => n, fun | 3 => 3 | 4 => 4 | 5 => 5 | 9 => 9 | 20 => 20 | 37 => 67 | 70 => 69 | 72 => 71 | 75 => 73 | 80 => 44 | 164 => 103 | n => n, fun | n => n⟩
set_option maxRecDepth 100000 in
theorem class_Class_String.laysWS : Go.Proofs.Lays.n166 Tryz.prog class_Class_String.ren := {
  mixed := by kernel_rfl
  f166 := Tryz.func34.trans (congrArg some (by kernel_rfl))
  f240 := Tryz.func46.trans (congrArg some (by kernel_rfl))
  f276 := Tryz.func61.trans (congrArg some (by kernel_rfl))
  t0 := Tryz.underlying0, a0 := Tryz.isAgg0, z0 := Tryz.sizeOf0, v0 := Tryz.zeroValue0
  t3 := Tryz.underlying3, a3 := Tryz.isAgg3, z3 := Tryz.sizeOf3, v3 := Tryz.zeroValue3
  t4 := Tryz.underlying4, a4 := Tryz.isAgg4, z4 := Tryz.sizeOf4, v4 := Tryz.zeroValue4
  t9 := Tryz.underlying9, a9 := Tryz.isAgg9, z9 := Tryz.sizeOf9, v9 := Tryz.zeroValue9
  t20 := Tryz.underlying20, a20 := Tryz.isAgg20, z20 := Tryz.sizeOf20, v20 := Tryz.zeroValue20
  t37 := Tryz.underlying67, a37 := Tryz.isAgg67, z37 := Tryz.sizeOf67, v37 := Tryz.zeroValue67
  t70 := Tryz.underlying69, a70 := Tryz.isAgg69, z70 := Tryz.sizeOf69, v70 := Tryz.zeroValue69
  t72 := Tryz.underlying71, a72 := Tryz.isAgg71, z72 := Tryz.sizeOf71, v72 := Tryz.zeroValue71
  t75 := Tryz.underlying73, a75 := Tryz.isAgg73, z75 := Tryz.sizeOf73, v75 := Tryz.zeroValue73
  t164 := Tryz.underlying103, a164 := Tryz.isAgg103, z164 := Tryz.sizeOf103, v164 := Tryz.zeroValue103 }
set_option maxRecDepth 100000 in
theorem class_Class_String.laysWB : Go.Proofs.Lays.n167 Tryz.prog class_Class_String.ren := by
  have L := class_Class_String.laysWS
  exact { mixed := L.mixed, f167 := Tryz.func33.trans (congrArg some (by kernel_rfl)), f240 := L.f240, f276 := L.f276,
          t0 := L.t0, a0 := L.a0, z0 := L.z0, v0 := L.v0, t4 := L.t4, a4 := L.a4, z4 := L.z4, v4 := L.v4, t5 := Tryz.underlying5, a5 := Tryz.isAgg5, z5 := Tryz.sizeOf5, v5 := Tryz.zeroValue5,
          t9 := L.t9, a9 := L.a9, z9 := L.z9, v9 := L.v9, t20 := L.t20, a20 := L.a20, z20 := L.z20, v20 := L.v20, t37 := L.t37, a37 := L.a37, z37 := L.z37, v37 := L.v37,
          t70 := L.t70, a70 := L.a70, z70 := L.z70, v70 := L.v70, t72 := L.t72, a72 := L.a72, z72 := L.z72, v72 := L.v72, t75 := L.t75, a75 := L.a75, z75 := L.z75, v75 := L.v75, t164 := L.t164, a164 := L.a164, z164 := L.z164, v164 := L.v164 }
set_option maxRecDepth 100000 in
theorem class_Class_String.extra : Builder.Extra Tryz.prog class_Class_String.ren := {
  sizeBuilder := by kernel_rfl
  liesBuilder := by kernel_rfl
  t5 := Tryz.underlying5
  a5 := Tryz.isAgg5
  z5 := Tryz.sizeOf5
  v5 := Tryz.zeroValue5
  infoByte := by kernel_rfl
  cellsByte := by kernel_rfl
  sizeByte := by kernel_rfl
  neB5 := by decide }
abbrev class_Class_String.B (b : Nat) (l : List UInt8) (w : World) : Prop := Lib.IsBuilderF 71 5 b b (Lib.byteCells l) w
abbrev class_Class_String.O (b : Nat) (w w' : World) : Prop := Lib.OthersKept 5 (some b) w w'
theorem class_Class_String.cells_app (a : List UInt8) (s : ByteArray) : Lib.byteCells a ++ Lib.strCells s = Lib.byteCells (a ++ s.data.toList) := by
  unfold Lib.byteCells Lib.strCells
  simp
theorem class_Class_String.byte (b : Nat) (l : List UInt8) (c : UInt8) (w : World) (h : class_Class_String.B b l w) (hl : l.length + 1 ≤ 140737488355328) (hb : b ≤ w.heap.size) :
    Calls Tryz.prog 33 #[.pointer (some ⟨b, 0, none⟩), .int .u8 c.toNat] w fun e w' => e = .returned .nilIface ∧ class_Class_String.B b (l ++ [c]) w' ∧ Below b w w' := by
  refine (Any.Builder_WriteByte_k class_Class_String.laysWB class_Class_String.extra b b _ c.toNat w h (by rw [Lib.byteCells_length]; exact hl) hb).mono ?_
  rintro e w' ⟨rfl, h1, h2, _⟩
  exact ⟨rfl, .inr (by have e : Lib.byteCells l ++ [Value.int .u8 c.toNat] = Lib.byteCells (l ++ [c]) := (by unfold Lib.byteCells; simp)
                       rw [← e]; exact h1), h2⟩
theorem class_Class_String.text (b : Nat) (l s : List UInt8) (w : World) (h : class_Class_String.B b l w) (hl : l.length + s.length ≤ 140737488355328) (hb : b ≤ w.heap.size) :
    Calls Tryz.prog 34 #[.pointer (some ⟨b, 0, none⟩), .string ⟨s.toArray⟩] w fun e w' => e = .returned (.tuple #[.int .i64 (⟨s.toArray⟩ : ByteArray).size, .nilIface]) ∧ class_Class_String.B b (l ++ s) w' ∧ Below b w w' ∧ class_Class_String.O b w w' := by
  refine (Any.Builder_WriteString_k class_Class_String.laysWS class_Class_String.extra b b _ ⟨s.toArray⟩ w h (by rw [Lib.byteCells_length]; exact hl) hb).mono ?_
  rintro e w' ⟨rfl, h1, h2, h3⟩
  rw [class_Class_String.cells_app] at h1
  exact ⟨rfl, .inr h1, h2, h3⟩
theorem class_Class_String.end_ (b : Nat) (l : List UInt8) (w : World) (h : class_Class_String.B b l w) (hb : b ≤ w.heap.size) :
    Calls Tryz.prog 36 #[.pointer (some ⟨b, 0, none⟩)] w fun e w' => e = .returned (.string ⟨l.toArray⟩) ∧ Below b w w' := by
  refine (Any.Builder_String_any_k Tryz.lays169 Tryz.Builder_Extra_169 b b l w h hb).mono ?_
  rintro e w' ⟨rfl, _, h2, _⟩
  exact ⟨rfl, h2⟩
theorem class_Class_String.below {b : Nat} {l : List UInt8} {w w' : World} (h : class_Class_String.B b l w) (hb : Below w.heap.size w w') : class_Class_String.B b l w' := by
  have lt : ∀ {o : Obj} {k : Nat}, w.heap[k]? = some o → k < w.heap.size := fun {o k} hk => by
    rcases Nat.lt_or_ge k w.heap.size with h' | h'
    · exact h'
    · rw [Array.getElem?_eq_none h'] at hk; cases hk
  have own : ∀ {v : Value} {n : Nat} {xs : List Value}, w.ownsRowF b 5 1 v n xs → w'.ownsRowF b 5 1 v n xs := fun {v n xs} h => by
    obtain ⟨h1, h2⟩ := h
    refine ⟨h1, ?_⟩
    rcases h2 with h2 | ⟨g, cap, cur, fz, rfl, hg, hh, r⟩
    · exact .inl h2
    · exact .inr ⟨g, cap, cur, fz, rfl, hg, (hb.block g (lt hh)).trans hh, r⟩
  rcases h with h | h
  · obtain ⟨h1, v, h2, h3, h4⟩ := h
    exact .inl ⟨h1, v, (hb.block _ (lt h2)).trans h2, own h3, h4⟩
  · obtain ⟨h1, v, h2, h3, h4⟩ := h
    exact .inr ⟨h1, v, (hb.block _ (lt h2)).trans h2, own h3, h4⟩
theorem class_Class_String.blk {w w' : World} {n : Nat} {o : Obj} (h : w.heap[n]? = some o) (hb : Below w.heap.size w w') : w'.heap[n]? = some o := (hb.block n (by
  rcases Nat.lt_or_ge n w.heap.size with h' | h'
  · exact h'
  · rw [Array.getElem?_eq_none h'] at h; cases h)).trans h
theorem class_Class_String.new_ (w : World) (o : Obj) : (w.alloc o).heap[w.heap.size]? = some o := by
  show (w.heap.push o)[w.heap.size]? = _
  simp
def class_Class_String.one (x : S28) : List UInt8 := class_sign.L x.f0 ++ if x.f0 ≠ x.f1 then 45 :: class_sign.L x.f1 else []
def class_Class_String.L (l : List S28) : List UInt8 := 91 :: (l.flatMap class_Class_String.one ++ [93])
def class_Class_String.ok (x : S28) : Bool := decide (0 ≤ x.f0 ∧ x.f0 ≤ 1114111 ∧ 0 ≤ x.f1 ∧ x.f1 ≤ 1114111)
def class_Class_String.f (l : List S28) : Option ByteArray := if l.length ≤ 100000 ∧ l.all class_Class_String.ok = true then some ⟨(class_Class_String.L l).toArray⟩ else none
theorem class_Class_String.sign_len (r : Int) : (class_sign.L r).length ≤ 40 := by
  unfold class_sign.L
  have := class_sign.hex_len 16 r.toNat
  split
  · simp
  · simp; omega
theorem class_Class_String.one_len (x : S28) : (class_Class_String.one x).length ≤ 81 := by
  unfold class_Class_String.one
  have h1 := class_Class_String.sign_len x.f0
  have h2 := class_Class_String.sign_len x.f1
  rw [List.length_append]
  split
  · rw [List.length_cons]; omega
  · simp; omega
theorem class_Class_String.one_same (x : Int) : class_Class_String.one ⟨x, x⟩ = class_sign.L x := by
  unfold class_Class_String.one
  rw [if_neg (fun h => h rfl), List.append_nil]
theorem class_Class_String.one_two (x y : Int) (h : ¬ x = y) : class_Class_String.one ⟨x, y⟩ = class_sign.L x ++ 45 :: class_sign.L y := by
  unfold class_Class_String.one
  rw [if_pos h]
theorem class_Class_String.dash (l : List UInt8) : (⟨#[45]⟩ : ByteArray) ++ (⟨l.toArray⟩ : ByteArray) = ⟨(45 :: l).toArray⟩ := ByteArray.ext (by simp)
theorem class_Class_String.flat_len (l : List S28) : (l.flatMap class_Class_String.one).length ≤ 81 * l.length := by
  induction l with
  | nil => simp
  | cons x l ih =>
    have := class_Class_String.one_len x
    rw [List.flatMap_cons, List.length_append, List.length_cons]
    omega
set_option maxHeartbeats 8000000 in
set_option maxRecDepth 100000 in
theorem class_Class_String.calls (A0 : Option Addr) (c0 : Nat) (l0 : List S28) (r : ByteArray) (w : World) (hr0 : Kd.C k28 w A0 l0.length l0) (hc0 : l0.length ≤ c0) (h : class_Class_String.f l0 = some r) (ht : GTabs w := by first | assumption | exact gtb_ (by assumption) (bl_ (by assumption)).out) :
    Calls Tryz.prog 21 #[.slice A0 l0.length c0] w fun e w' => e = .returned (.string r) ∧ Below w.heap.size w w' := by
  unfold class_Class_String.f at h
  split at h
  case isFalse => cases h
  rename_i hc
  obtain ⟨hlen, hok⟩ := hc
  have HR := Aside0.mk (Option.some.inj h)
  have HC := Aside0.mk hr0
  have HK := Aside0.mk (List.all_eq_true.1 hok)
  have HT := Aside0.mk ht
  have hf := class_Class_String.flat_len l0
  have FL : ∀ i, ((l0.take i).flatMap class_Class_String.one).length ≤ 8100000 := fun i => by
    have h1 := class_Class_String.flat_len (l0.take i)
    have h2 : (l0.take i).length ≤ l0.length := by rw [List.length_take]; omega
    omega
  have HF := Aside0.mk FL
  obtain ⟨b, hb⟩ : ∃ b, w.heap.size = b := ⟨_, rfl⟩
  have hB0 : class_Class_String.B b [] (w.alloc (.cells #[.pointer none, .slice none 0 0] 71)) := by
    rw [← hb]; exact Lib.IsBuilderF.of (Lib.fresh_isBuilder 71 5 w)
  have hL0 : Below b w (w.alloc (.cells #[.pointer none, .slice none 0 0] 71)) := by
    rw [← hb]; exact (Below.refl _ _).alloc (Nat.le_refl _) _
  have HB := Aside0.mk hB0
  have HL := Aside0.mk hL0
  have HS := Aside0.mk hb
  clear hr0 h hok ht hf FL hB0 hL0 hc0
  generalize hn : l0.length = n at *
  have HN := Aside0.mk hn
  clear hn
  go_enter Tryz.func21, Tryz.ntmps21
  go_wp2_with fail
  refine (class_Class_String.byte b [] 91 _ HB.out (by decide) (by rw [← HS.out]; exact below_size (by rw [HS.out]; exact HL.out))).mono ?_
  rintro e W1 ⟨rfl, hb1, hl1⟩
  have HB1 := Aside0.mk hb1
  have HL1 := Aside0.mk (HL.out.trans hl1)
  clear hb1 hl1 HB HL
  go_wp2_with fail
  go_loopg [9] n (fun kx s9 wr => ∃ i : Nat, s9 = .int .i64 i ∧ i ≤ n ∧ n - i ≤ kx ∧ Aside0 (class_Class_String.B b (91 :: (l0.take i).flatMap class_Class_String.one) wr) ∧ Aside0 (Below b w wr))
  case atStart => exact ⟨0, rfl, Nat.zero_le _, by omega, ⟨HB1.out⟩, HL1⟩
  case round =>
    clear HB1 HL1
    obtain ⟨i, rfl, hi, hk, HB, HL⟩ := hrel
    by_cases hlt : i < n
    · obtain ⟨ad, e, hx0, hx1⟩ := at_T28 HC.out ((i : Nat) : Int) (by omega) (by omega)
      subst e
      rw [Int.toNat_natCast] at hx0 hx1
      have hi2 : i < l0.length := by rw [HN.out]; exact hlt
      have hrd : rd_T28 l0 ((i : Nat) : Int) = l0[i] := by
        unfold rd_T28
        rw [Int.toNat_natCast, List.getD_eq_getElem?_getD, List.getElem?_eq_getElem hi2]; rfl
      rw [hrd] at hx0 hx1
      have hbw : Below w.heap.size w wr := by rw [HS.out]; exact HL.out
      replace hx0 := (hbw.cell (World.block_lt_of_cell? _ _ hx0)).trans hx0
      replace hx1 := (hbw.cell (World.block_lt_of_cell? _ _ hx1)).trans hx1
      have hok := of_decide_eq_true (HK.out l0[i] (List.getElem_mem hi2))
      have hone : (l0.take (i + 1)).flatMap class_Class_String.one = (l0.take i).flatMap class_Class_String.one ++ class_Class_String.one l0[i] := by
        rw [List.take_succ_eq_append_getElem hi2, List.flatMap_append, List.flatMap_singleton]
      have HO := Aside0.mk hone
      clear hrd hone hbw
      generalize l0[i] = x at hx0 hx1 hok HO
      obtain ⟨x0, x1⟩ := x
      dsimp only at hx0 hx1 hok
      have OK := Aside0.mk hok
      clear hok hi2
      have hsz : b ≤ wr.heap.size := by rw [← HS.out]; exact below_size (by rw [HS.out]; exact HL.out)
      have hne2 : wr.heap.size ≠ b := fun e => by
        have h1 : b < wr.heap.size := by
          rcases HB.out with h | h
          · exact h.lt
          · exact h.lt
        omega
      have HNE := Aside0.mk hne2
      have HSZ := Aside0.mk hsz
      clear hne2 hsz
      -- the struct in its box
      have bk0 := Aside0.mk (class_Class_String.new_ wr (.cells #[.int .i32 x0, .int .i32 x1] 28))
      have bl0 : Below wr.heap.size wr (wr.alloc (.cells #[.int .i32 x0, .int .i32 x1] 28)) := below_alloc (Below.refl _ _) _
      have HB1 := Aside0.mk (class_Class_String.below HB.out bl0)
      have HL1 := Aside0.mk (HL.out.trans (bl0.mono HSZ.out))
      clear bl0
      have hd : decide (x0 = x1) = decide (x0 = x1) := rfl
      clear hd
      have step1 : ∀ Wa, Aside0 (class_Class_String.B b (91 :: (l0.take i).flatMap class_Class_String.one) Wa) → Aside0 (Below b w Wa) → True := fun _ _ _ => trivial
      clear step1
      by_cases hne : x0 = x1
      · subst hne
        go_wp2_with fail
        refine (class_sign.calls x0 OK.out.1 OK.out.2.1 _ (gtb_ HT.out (by rw [HS.out]; exact HL1.out))).mono ?_
        rintro e W2 ⟨rfl, hb2⟩
        have bk2 := Aside0.mk (class_Class_String.blk bk0.out hb2)
        have HB2 := Aside0.mk (class_Class_String.below HB1.out hb2)
        have HL2 := Aside0.mk (HL1.out.trans (hb2.mono (by rw [← HS.out]; exact below_size (by rw [HS.out]; exact HL1.out))))
        clear hb2 HB1 HL1 bk0
        go_wp2_with fail
        refine (class_Class_String.text b _ (class_sign.L x0) _ HB2.out (by have h1 := HF.out i; have h2 := class_Class_String.sign_len x0; rw [List.length_cons]; omega) (by rw [← HS.out]; exact below_size (by rw [HS.out]; exact HL2.out))).mono ?_
        rintro e W3 ⟨rfl, hb3, hl3, ho3⟩
        have bk3 := Aside0.mk (ho3 _ _ bk2.out (fun e => HNE.out (Option.some.inj e)) (fun c fz e => by injection e with _ e2 _; revert e2; decide))
        have HB3 := Aside0.mk hb3
        have HL3 := Aside0.mk (HL2.out.trans hl3)
        clear hb3 hl3 ho3 HB2 HL2 bk2
        have c0 : W3.cell? ⟨wr.heap.size, 0, none⟩ = some (.int .i32 x0) := bc_ bk3 0
        have c1 : W3.cell? ⟨wr.heap.size, 1, none⟩ = some (.int .i32 x0) := bc_ bk3 1
        go_wp2
        go_roundg (n - (i + 1))
        case measure => omega
        case rel => exact ⟨i + 1, by go_num, by omega, Nat.le_refl _, ⟨by rw [HO.out, class_Class_String.one_same]; exact HB3.out⟩, HL3⟩
      · have hd : (x0 != x1) = true := by simpa using hne
        have hd2 : (x0 == x1) = false := by simpa using hne
        have HD := Aside0.mk hne
        clear hne
        go_wp2_with fail
        refine (class_sign.calls x0 OK.out.1 OK.out.2.1 _ (gtb_ HT.out (by rw [HS.out]; exact HL1.out))).mono ?_
        rintro e W2 ⟨rfl, hb2⟩
        have bk2 := Aside0.mk (class_Class_String.blk bk0.out hb2)
        have HB2 := Aside0.mk (class_Class_String.below HB1.out hb2)
        have HL2 := Aside0.mk (HL1.out.trans (hb2.mono (by rw [← HS.out]; exact below_size (by rw [HS.out]; exact HL1.out))))
        clear hb2 HB1 HL1 bk0
        go_wp2_with fail
        refine (class_Class_String.text b _ (class_sign.L x0) _ HB2.out (by have h1 := HF.out i; have h2 := class_Class_String.sign_len x0; rw [List.length_cons]; omega) (by rw [← HS.out]; exact below_size (by rw [HS.out]; exact HL2.out))).mono ?_
        rintro e W3 ⟨rfl, hb3, hl3, ho3⟩
        have bk3 := Aside0.mk (ho3 _ _ bk2.out (fun e => HNE.out (Option.some.inj e)) (fun c fz e => by injection e with _ e2 _; revert e2; decide))
        have HB3 := Aside0.mk hb3
        have HL3 := Aside0.mk (HL2.out.trans hl3)
        clear hb3 hl3 ho3 HB2 HL2 bk2
        have c0 : W3.cell? ⟨wr.heap.size, 0, none⟩ = some (.int .i32 x0) := bc_ bk3 0
        have c1 : W3.cell? ⟨wr.heap.size, 1, none⟩ = some (.int .i32 x1) := bc_ bk3 1
        go_wp2_with fail
        refine (class_sign.calls x1 OK.out.2.2.1 OK.out.2.2.2 _ (gtb_ HT.out (by rw [HS.out]; exact HL3.out))).mono ?_
        rintro e W4 ⟨rfl, hb4⟩
        have HB4 := Aside0.mk (class_Class_String.below HB3.out hb4)
        have HL4 := Aside0.mk (HL3.out.trans (hb4.mono (by rw [← HS.out]; exact below_size (by rw [HS.out]; exact HL3.out))))
        clear hb4 HB3 HL3 bk3 c0 c1
        have q1 : (9223372036854775807 < 1 + (class_sign.L x1).length) = False := eq_false (by have := class_Class_String.sign_len x1; omega)
        go_wp2_with fail
        rw [class_Class_String.dash]
        refine (class_Class_String.text b _ (45 :: class_sign.L x1) _ HB4.out (by have h1 := HF.out i; have h2 := class_Class_String.sign_len x0; have h3 := class_Class_String.sign_len x1; rw [List.length_append, List.length_cons, List.length_cons]; omega) (by rw [← HS.out]; exact below_size (by rw [HS.out]; exact HL4.out))).mono ?_
        rintro e W5 ⟨rfl, hb5, hl5, ho5⟩
        have HB5 := Aside0.mk hb5
        have HL5 := Aside0.mk (HL4.out.trans hl5)
        clear hb5 hl5 ho5 HB4 HL4 q1
        go_wp2
        go_roundg (n - (i + 1))
        case measure => omega
        case rel => exact ⟨i + 1, by go_num, by omega, Nat.le_refl _, ⟨by rw [HO.out, class_Class_String.one_two _ _ HD.out, ← List.append_assoc]; exact HB5.out⟩, HL5⟩
    · obtain rfl : i = n := by omega
      have ht2 : l0.take i = l0 := by rw [← HN.out, List.take_length]
      rw [ht2] at HB
      clear ht2
      go_wp2_with fail
      refine (class_Class_String.byte b _ 93 _ HB.out (by have h1 := HF.out i; rw [← HN.out, List.take_length] at h1; rw [List.length_cons]; omega) (by rw [← HS.out]; exact below_size (by rw [HS.out]; exact HL.out))).mono ?_
      rintro e W5 ⟨rfl, hb5, hl5⟩
      have HB5 := Aside0.mk hb5
      have HL5 := Aside0.mk (HL.out.trans hl5)
      clear hb5 hl5 HB HL
      go_wp2_with fail
      refine (class_Class_String.end_ b _ _ HB5.out (by rw [← HS.out]; exact below_size (by rw [HS.out]; exact HL5.out))).mono ?_
      rintro e W6 ⟨rfl, hl6⟩
      have HL6 := Aside0.mk (HL5.out.trans hl6)
      clear hl6 HL5 HB5
      go_wp2
      go_ret
      exact ⟨by rw [← HR.out]; rfl, by rw [HS.out]; exact HL6.out⟩

/-! ### florinlaw10_head: function 9 -/
def florinlaw10_head.f (k : Nat)  : Option (Bool) := (class_Parse.f k (⟨#[91, 97, 45, 99, 32, 120, 93]⟩ : ByteArray)).bind fun bt252 => (if bt252.2.1 = 0 then ((class_Class_Has.f bt252.1 97).bind fun t257 => (if t257 = true then ((class_Class_Has.f bt252.1 120).bind fun t258 => (if t258 = true then ((class_Class_Has.f bt252.1 100).bind fun t259 => (if t259 = true then (some false) else ((class_Class_String.f bt252.1).bind fun t260 => (some (t260.toList == ([91, 97, 45, 99, 120, 93] : List UInt8)))))) else (some false))) else (some false))) else (some false))
theorem florinlaw10_head.mono : ∀ k, LeO (florinlaw10_head.f k ) (florinlaw10_head.f (k + 1) ) := by
  intro  k
  unfold florinlaw10_head.f
  repeat' first
      | (with_reducible exact class_Parse.mono _ _)
      | (with_reducible exact LeO.refl _)
      | (with_reducible exact LeO.none _)
      | (with_reducible refine LeO.ite ?_ ?_)
      | (with_reducible refine LeO.bind ?_ (fun _ => ?_))
      | exact class_Parse.mono _ _
      | exact LeO.none _
      | refine LeO.ite ?_ ?_
      | refine LeO.bind ?_ (fun _ => ?_)
set_option maxHeartbeats 64000000 in
set_option maxRecDepth 100000 in
theorem florinlaw10_head.calls (k : Nat)  (r : Bool) (w : World) (h : florinlaw10_head.f k  = some r) (ht : GTabs w := by first | assumption | exact gtb_ (by assumption) (bl_ (by assumption)).out) :
    Calls Tryz.prog 9 #[] w fun e w' => e = .returned (.bool r) ∧ Below w.heap.size w w' := by
  have HB := Aside0.mk (Below.refl w.heap.size w)
  have H : ((class_Parse.f k (⟨#[91, 97, 45, 99, 32, 120, 93]⟩ : ByteArray)).bind fun bt252 => (if bt252.2.1 = 0 then ((class_Class_Has.f bt252.1 97).bind fun t257 => (if t257 = true then ((class_Class_Has.f bt252.1 120).bind fun t258 => (if t258 = true then ((class_Class_Has.f bt252.1 100).bind fun t259 => (if t259 = true then (some false) else ((class_Class_String.f bt252.1).bind fun t260 => (some (t260.toList == ([91, 97, 45, 99, 120, 93] : List UInt8)))))) else (some false))) else (some false))) else (some false))) = some r := h
  clear h
  replace H := Option.bind_eq_some_iff.mp H
  obtain ⟨⟨t252, t253, t254⟩, A10, H⟩ := H
  replace H : (if t253 = 0 then ((class_Class_Has.f t252 97).bind fun t257 => (if t257 = true then ((class_Class_Has.f t252 120).bind fun t258 => (if t258 = true then ((class_Class_Has.f t252 100).bind fun t259 => (if t259 = true then (some false) else ((class_Class_String.f t252).bind fun t260 => (some (t260.toList == ([91, 97, 45, 99, 120, 93] : List UInt8)))))) else (some false))) else (some false))) else (some false)) = some r := H
  have A1 := Aside0.mk A10
  clear A10
  by_cases c2 : t253 = 0
  · rw [if_pos c2] at H
    have c2b0 : (t253 == 0) = true := beq_iff_eq.mpr c2
    have c2b1 : (t253 != 0) = false := bne_eq_false_iff_eq.mpr c2
    clear c2
    replace H := Option.bind_eq_some_iff.mp H
    obtain ⟨t257, A30, H⟩ := H
    replace H : (if t257 = true then ((class_Class_Has.f t252 120).bind fun t258 => (if t258 = true then ((class_Class_Has.f t252 100).bind fun t259 => (if t259 = true then (some false) else ((class_Class_String.f t252).bind fun t260 => (some (t260.toList == ([91, 97, 45, 99, 120, 93] : List UInt8)))))) else (some false))) else (some false)) = some r := H
    have A3 := Aside0.mk A30
    clear A30
    by_cases c4 : t257 = true
    · subst c4
      have H1 : ((class_Class_Has.f t252 120).bind fun t258 => (if t258 = true then ((class_Class_Has.f t252 100).bind fun t259 => (if t259 = true then (some false) else ((class_Class_String.f t252).bind fun t260 => (some (t260.toList == ([91, 97, 45, 99, 120, 93] : List UInt8)))))) else (some false))) = some r := by rw [if_pos rfl] at H; exact H
      clear H
      have H := H1
      clear H1
      replace H := Option.bind_eq_some_iff.mp H
      obtain ⟨t258, A50, H⟩ := H
      replace H : (if t258 = true then ((class_Class_Has.f t252 100).bind fun t259 => (if t259 = true then (some false) else ((class_Class_String.f t252).bind fun t260 => (some (t260.toList == ([91, 97, 45, 99, 120, 93] : List UInt8)))))) else (some false)) = some r := H
      have A5 := Aside0.mk A50
      clear A50
      by_cases c6 : t258 = true
      · subst c6
        have H1 : ((class_Class_Has.f t252 100).bind fun t259 => (if t259 = true then (some false) else ((class_Class_String.f t252).bind fun t260 => (some (t260.toList == ([91, 97, 45, 99, 120, 93] : List UInt8)))))) = some r := by rw [if_pos rfl] at H; exact H
        clear H
        have H := H1
        clear H1
        replace H := Option.bind_eq_some_iff.mp H
        obtain ⟨t259, A70, H⟩ := H
        replace H : (if t259 = true then (some false) else ((class_Class_String.f t252).bind fun t260 => (some (t260.toList == ([91, 97, 45, 99, 120, 93] : List UInt8))))) = some r := H
        have A7 := Aside0.mk A70
        clear A70
        by_cases c8 : t259 = true
        · subst c8
          have H1 : (some false) = some r := by rw [if_pos rfl] at H; exact H
          clear H
          have H := H1
          clear H1
          obtain rfl := Option.some.inj H
          go_enter Tryz.func9, Tryz.ntmps9
          go_wp2_with (first | ((with_reducible refine gate_callee (f := 19) rfl ?_); refine gl_ (some 5) Tryz.func19 #[.string (⟨#[91, 97, 45, 99, 32, 120, 93]⟩ : ByteArray)] ?_; (with_reducible refine (class_Parse.calls k (⟨#[91, 97, 45, 99, 32, 120, 93]⟩ : ByteArray) t252 t253 t254 _ A1.out).mono ?_); rintro e w9 ⟨v255, rfl, ho0, hb⟩; refine ⟨_, rfl, ?_⟩; have HO256 := Aside0.mk (Kd.R_lower ho0 (below_size (bl_ HB).out)); replace HB := Aside0.mk (below_step (bl_ HB).out hb); (try clear hb); (try clear ho0); obtain ⟨Ao10, co10, eo10⟩ := Kd.R_slice HO256.out; subst eo10) | (go_at_call 13; (with_reducible refine (class_Class_Has.calls _ _ t252 97 true _ ?side1 ?side2 A3.out).mono ?_); (case side1 => exact kc_ HO256); (case side2 => exact kl_ HO256); rintro e w11 ⟨rfl, hb⟩; replace HO256 := kb_ HO256 hb; replace HB := Aside0.mk (below_step (bl_ HB).out hb); (try clear hb); (try clear hi)) | (go_at_call 13; (with_reducible refine (class_Class_Has.calls _ _ t252 120 true _ ?side1 ?side2 A5.out).mono ?_); (case side1 => exact kc_ HO256); (case side2 => exact kl_ HO256); rintro e w12 ⟨rfl, hb⟩; replace HO256 := kb_ HO256 hb; replace HB := Aside0.mk (below_step (bl_ HB).out hb); (try clear hb); (try clear hi)) | (go_at_call 13; (with_reducible refine (class_Class_Has.calls _ _ t252 100 true _ ?side1 ?side2 A7.out).mono ?_); (case side1 => exact kc_ HO256); (case side2 => exact kl_ HO256); rintro e w13 ⟨rfl, hb⟩; replace HO256 := kb_ HO256 hb; replace HB := Aside0.mk (below_step (bl_ HB).out hb); (try clear hb); (try clear hi)))
          go_ret
          exact ⟨ew_, (bl_ HB).out⟩
        · replace c8 := Bool.eq_false_iff.mpr c8
          subst c8
          have H1 : ((class_Class_String.f t252).bind fun t260 => (some (t260.toList == ([91, 97, 45, 99, 120, 93] : List UInt8)))) = some r := by rw [if_neg (show ¬ (false = true) by decide)] at H; exact H
          clear H
          have H := H1
          clear H1
          replace H := Option.bind_eq_some_iff.mp H
          obtain ⟨t260, A140, H⟩ := H
          replace H : (some (t260.toList == ([91, 97, 45, 99, 120, 93] : List UInt8))) = some r := H
          have A14 := Aside0.mk A140
          clear A140
          obtain rfl := Option.some.inj H
          go_enter Tryz.func9, Tryz.ntmps9
          go_wp2_with (first | ((with_reducible refine gate_callee (f := 19) rfl ?_); refine gl_ (some 5) Tryz.func19 #[.string (⟨#[91, 97, 45, 99, 32, 120, 93]⟩ : ByteArray)] ?_; (with_reducible refine (class_Parse.calls k (⟨#[91, 97, 45, 99, 32, 120, 93]⟩ : ByteArray) t252 t253 t254 _ A1.out).mono ?_); rintro e w15 ⟨v255, rfl, ho0, hb⟩; refine ⟨_, rfl, ?_⟩; have HO256 := Aside0.mk (Kd.R_lower ho0 (below_size (bl_ HB).out)); replace HB := Aside0.mk (below_step (bl_ HB).out hb); (try clear hb); (try clear ho0); obtain ⟨Ao16, co16, eo16⟩ := Kd.R_slice HO256.out; subst eo16) | (go_at_call 13; (with_reducible refine (class_Class_Has.calls _ _ t252 97 true _ ?side1 ?side2 A3.out).mono ?_); (case side1 => exact kc_ HO256); (case side2 => exact kl_ HO256); rintro e w17 ⟨rfl, hb⟩; replace HO256 := kb_ HO256 hb; replace HB := Aside0.mk (below_step (bl_ HB).out hb); (try clear hb); (try clear hi)) | (go_at_call 13; (with_reducible refine (class_Class_Has.calls _ _ t252 120 true _ ?side1 ?side2 A5.out).mono ?_); (case side1 => exact kc_ HO256); (case side2 => exact kl_ HO256); rintro e w18 ⟨rfl, hb⟩; replace HO256 := kb_ HO256 hb; replace HB := Aside0.mk (below_step (bl_ HB).out hb); (try clear hb); (try clear hi)) | (go_at_call 13; (with_reducible refine (class_Class_Has.calls _ _ t252 100 false _ ?side1 ?side2 A7.out).mono ?_); (case side1 => exact kc_ HO256); (case side2 => exact kl_ HO256); rintro e w19 ⟨rfl, hb⟩; replace HO256 := kb_ HO256 hb; replace HB := Aside0.mk (below_step (bl_ HB).out hb); (try clear hb); (try clear hi)) | (go_at_call 21; (with_reducible refine (class_Class_String.calls _ _ t252 t260 _ ?side1 ?side2 A14.out).mono ?_); (case side1 => exact kc_ HO256); (case side2 => exact kl_ HO256); rintro e w20 ⟨rfl, hb⟩; replace HO256 := kb_ HO256 hb; replace HB := Aside0.mk (below_step (bl_ HB).out hb); (try clear hb); (try clear hi)))
          go_ret
          exact ⟨ew_, (bl_ HB).out⟩
      · replace c6 := Bool.eq_false_iff.mpr c6
        subst c6
        have H1 : (some false) = some r := by rw [if_neg (show ¬ (false = true) by decide)] at H; exact H
        clear H
        have H := H1
        clear H1
        obtain rfl := Option.some.inj H
        go_enter Tryz.func9, Tryz.ntmps9
        go_wp2_with (first | ((with_reducible refine gate_callee (f := 19) rfl ?_); refine gl_ (some 5) Tryz.func19 #[.string (⟨#[91, 97, 45, 99, 32, 120, 93]⟩ : ByteArray)] ?_; (with_reducible refine (class_Parse.calls k (⟨#[91, 97, 45, 99, 32, 120, 93]⟩ : ByteArray) t252 t253 t254 _ A1.out).mono ?_); rintro e w21 ⟨v255, rfl, ho0, hb⟩; refine ⟨_, rfl, ?_⟩; have HO256 := Aside0.mk (Kd.R_lower ho0 (below_size (bl_ HB).out)); replace HB := Aside0.mk (below_step (bl_ HB).out hb); (try clear hb); (try clear ho0); obtain ⟨Ao22, co22, eo22⟩ := Kd.R_slice HO256.out; subst eo22) | (go_at_call 13; (with_reducible refine (class_Class_Has.calls _ _ t252 97 true _ ?side1 ?side2 A3.out).mono ?_); (case side1 => exact kc_ HO256); (case side2 => exact kl_ HO256); rintro e w23 ⟨rfl, hb⟩; replace HO256 := kb_ HO256 hb; replace HB := Aside0.mk (below_step (bl_ HB).out hb); (try clear hb); (try clear hi)) | (go_at_call 13; (with_reducible refine (class_Class_Has.calls _ _ t252 120 false _ ?side1 ?side2 A5.out).mono ?_); (case side1 => exact kc_ HO256); (case side2 => exact kl_ HO256); rintro e w24 ⟨rfl, hb⟩; replace HO256 := kb_ HO256 hb; replace HB := Aside0.mk (below_step (bl_ HB).out hb); (try clear hb); (try clear hi)))
        go_ret
        exact ⟨ew_, (bl_ HB).out⟩
    · replace c4 := Bool.eq_false_iff.mpr c4
      subst c4
      have H1 : (some false) = some r := by rw [if_neg (show ¬ (false = true) by decide)] at H; exact H
      clear H
      have H := H1
      clear H1
      obtain rfl := Option.some.inj H
      go_enter Tryz.func9, Tryz.ntmps9
      go_wp2_with (first | ((with_reducible refine gate_callee (f := 19) rfl ?_); refine gl_ (some 5) Tryz.func19 #[.string (⟨#[91, 97, 45, 99, 32, 120, 93]⟩ : ByteArray)] ?_; (with_reducible refine (class_Parse.calls k (⟨#[91, 97, 45, 99, 32, 120, 93]⟩ : ByteArray) t252 t253 t254 _ A1.out).mono ?_); rintro e w25 ⟨v255, rfl, ho0, hb⟩; refine ⟨_, rfl, ?_⟩; have HO256 := Aside0.mk (Kd.R_lower ho0 (below_size (bl_ HB).out)); replace HB := Aside0.mk (below_step (bl_ HB).out hb); (try clear hb); (try clear ho0); obtain ⟨Ao26, co26, eo26⟩ := Kd.R_slice HO256.out; subst eo26) | (go_at_call 13; (with_reducible refine (class_Class_Has.calls _ _ t252 97 false _ ?side1 ?side2 A3.out).mono ?_); (case side1 => exact kc_ HO256); (case side2 => exact kl_ HO256); rintro e w27 ⟨rfl, hb⟩; replace HO256 := kb_ HO256 hb; replace HB := Aside0.mk (below_step (bl_ HB).out hb); (try clear hb); (try clear hi)))
      go_ret
      exact ⟨ew_, (bl_ HB).out⟩
  · rw [if_neg c2] at H
    have c2b0 : (t253 == 0) = false := beq_eq_false_iff_ne.mpr c2
    have c2b1 : (t253 != 0) = true := bne_iff_ne.mpr c2
    obtain rfl := Option.some.inj H
    go_enter Tryz.func9, Tryz.ntmps9
    go_wp2_with (first | ((with_reducible refine gate_callee (f := 19) rfl ?_); refine gl_ (some 5) Tryz.func19 #[.string (⟨#[91, 97, 45, 99, 32, 120, 93]⟩ : ByteArray)] ?_; (with_reducible refine (class_Parse.calls k (⟨#[91, 97, 45, 99, 32, 120, 93]⟩ : ByteArray) t252 t253 t254 _ A1.out).mono ?_); rintro e w28 ⟨v255, rfl, ho0, hb⟩; refine ⟨_, rfl, ?_⟩; have HO256 := Aside0.mk (Kd.R_lower ho0 (below_size (bl_ HB).out)); replace HB := Aside0.mk (below_step (bl_ HB).out hb); (try clear hb); (try clear ho0)))
    go_ret
    exact ⟨ew_, (bl_ HB).out⟩

end Go.Proofs.YtnpohgoacbpcjaaGreatDoor.P
