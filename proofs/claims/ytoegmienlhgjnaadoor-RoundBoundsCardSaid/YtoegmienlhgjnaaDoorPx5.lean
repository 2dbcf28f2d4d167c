-- written by a program of this session (wip/p2)
import Derived.Test.YtoegmienlhgjnaaDoorPx0
import Derived.Test.YtoegmienlhgjnaaDoorPx2
import Derived.Test.YtoegmienlhgjnaaDoorPx4
namespace Go.Proofs.YtoegmienlhgjnaaDoor.P
open Go.RowKit Go.Proofs.YtoegmienlhgjnaaDoorW.PrintWords Go.Proofs.YtoegmienlhgjnaaDoorW.PrintLast Go.Proofs.YtoegmienlhgjnaaDoorW.PrintMore
attribute [local go_sem] max2_int min2_int max_two min_two max_three min_three max_four min_four   -- for this text's walks alone
set_option linter.unusedVariables false
set_option linter.unusedSimpArgs false

/-! ### florinlaw03_head: function 10 -/
def florinlaw03_head.l0 : Nat → List ByteArray → List ByteArray → Int → Bool → ByteArray → Int → Bool → ByteArray → Int → Option (Bool)
  | 0, _, _, _, _, _, _, _, _, _ => none
  | k + 1, x3, x4, x5, x176000, x176001, x176002, x180000, x180001, x180002 => if x5 ≤ 6 then ((round_At.f k x176000 x176001 x176002 0 x5).bind fun bt186 => ((dec_Dec_Plain.f k bt186.1 bt186.2.1 bt186.2.2).bind fun t189 => (if 0 ≤ x5 then (if x5 < (x3.length : Int) then (if t189.toList = (rdOf ByteArray.empty x3 x5).toList then ((round_At.f k x180000 x180001 x180002 0 x5).bind fun bt191 => ((dec_Dec_Plain.f k bt191.1 bt191.2.1 bt191.2.2).bind fun t194 => (if x5 < (x4.length : Int) then (if t194.toList = (rdOf ByteArray.empty x4 x5).toList then (florinlaw03_head.l0 k x3 x4 (wrap64 (x5 + 1)) x176000 x176001 x176002 x180000 x180001 x180002) else (some false)) else (none)))) else (some false)) else (none)) else (none)))) else (some true)
def florinlaw03_head.f (k : Nat)  : Option (Bool) := (dec_Made.f k false (⟨#[50, 53]⟩ : ByteArray) (-1)).bind fun bt172 => ((dec_Dec_Minus.f k bt172.1 bt172.2.1 bt172.2.2).bind fun bt176 => (florinlaw03_head.l0 k (([(⟨#[50]⟩ : ByteArray), (⟨#[51]⟩ : ByteArray), (⟨#[50]⟩ : ByteArray), (⟨#[51]⟩ : ByteArray), (⟨#[50]⟩ : ByteArray), (⟨#[51]⟩ : ByteArray), (⟨#[50]⟩ : ByteArray)] : List ByteArray)) (([(⟨#[45, 50]⟩ : ByteArray), (⟨#[45, 51]⟩ : ByteArray), (⟨#[45, 50]⟩ : ByteArray), (⟨#[45, 51]⟩ : ByteArray), (⟨#[45, 50]⟩ : ByteArray), (⟨#[45, 50]⟩ : ByteArray), (⟨#[45, 51]⟩ : ByteArray)] : List ByteArray)) 0 bt172.1 bt172.2.1 bt172.2.2 bt176.1 bt176.2.1 bt176.2.2))
theorem florinlaw03_head.mono_l : ∀ k, (∀ y0 y1 y2 y3 y4 y5 y6 y7 y8, LeO (florinlaw03_head.l0 k y0 y1 y2 y3 y4 y5 y6 y7 y8) (florinlaw03_head.l0 (k + 1) y0 y1 y2 y3 y4 y5 y6 y7 y8))
  | 0 => fun _ _ _ _ _ _ _ _ _ r h => by simp [florinlaw03_head.l0] at h
  | k + 1 => by
    have ih0 := florinlaw03_head.mono_l k
    · intro y0 y1 y2 y3 y4 y5 y6 y7 y8
      unfold florinlaw03_head.l0
      repeat' first
      | (with_reducible exact ih0 _ _ _ _ _ _ _ _ _)
      | (with_reducible exact dec_Dec_Minus.mono _ _ _ _)
      | (with_reducible exact dec_Dec_Plain.mono _ _ _ _)
      | (with_reducible exact dec_Made.mono _ _ _ _)
      | (with_reducible exact round_At.mono _ _ _ _ _ _)
      | (with_reducible exact LeO.refl _)
      | (with_reducible exact LeO.none _)
      | (with_reducible refine LeO.ite ?_ ?_)
      | (with_reducible refine LeO.bind ?_ (fun _ => ?_))
      | exact ih0 _ _ _ _ _ _ _ _ _
      | exact dec_Dec_Minus.mono _ _ _ _
      | exact dec_Dec_Plain.mono _ _ _ _
      | exact dec_Made.mono _ _ _ _
      | exact round_At.mono _ _ _ _ _ _
      | exact LeO.none _
      | refine LeO.ite ?_ ?_
      | refine LeO.bind ?_ (fun _ => ?_)
theorem florinlaw03_head.mono : ∀ k, LeO (florinlaw03_head.f k ) (florinlaw03_head.f (k + 1) ) := by
  intro  k
  have ih0 := florinlaw03_head.mono_l k
  unfold florinlaw03_head.f
  repeat' first
      | (with_reducible exact ih0 _ _ _ _ _ _ _ _ _)
      | (with_reducible exact dec_Dec_Minus.mono _ _ _ _)
      | (with_reducible exact dec_Dec_Plain.mono _ _ _ _)
      | (with_reducible exact dec_Made.mono _ _ _ _)
      | (with_reducible exact round_At.mono _ _ _ _ _ _)
      | (with_reducible exact LeO.refl _)
      | (with_reducible exact LeO.none _)
      | (with_reducible refine LeO.ite ?_ ?_)
      | (with_reducible refine LeO.bind ?_ (fun _ => ?_))
      | exact ih0 _ _ _ _ _ _ _ _ _
      | exact dec_Dec_Minus.mono _ _ _ _
      | exact dec_Dec_Plain.mono _ _ _ _
      | exact dec_Made.mono _ _ _ _
      | exact round_At.mono _ _ _ _ _ _
      | exact LeO.none _
      | refine LeO.ite ?_ ?_
      | refine LeO.bind ?_ (fun _ => ?_)
def florinlaw03_head.T8 : Bool × List (List Nat × List Nat) := (true, [([], []), ([], []), ([0, 1], [0, 1]), ([2, 2], [2]), ([], []), ([], []), ([4, 5], [4, 5]), ([6], [6]), ([3, 7], [3, 7]), ([8, 3], [8]), ([9], [9]), ([9], [9]), ([10, 11, 9, 9], [9, 10, 11]), ([12, 12, 9], [9, 12]), ([9], [9]), ([9], [9]), ([14, 15, 9], [9, 14, 15]), ([16, 9], [9, 16]), ([13, 17, 9], [9, 13, 17]), ([9, 18], [9, 18])])
def florinlaw03_head.B8 : List Nat := [0, 0, 3, 7, 0, 0, 48, 112, 255, 511, 1023, 1023, 4095, 8191, 1023, 1023, 50175, 115711, 262143, 524287]
theorem florinlaw03_head.tab8 : rtab .any (opsOf Tryd.f10 8) = florinlaw03_head.T8 := by kernel_rfl
theorem florinlaw03_head.bits8 : waitsOk florinlaw03_head.T8.2 florinlaw03_head.B8 = true := by kernel_rfl
set_option maxHeartbeats 8000000 in
set_option maxRecDepth 100000 in
theorem florinlaw03_head.calls (k : Nat)  (r : Bool) (w : World) (h : florinlaw03_head.f k  = some r) :
    Calls Tryd.prog 10 #[] w fun e w' => e = .returned (.bool r) ∧ Below w.heap.size w w' := by
  have hu30 := Tryd.underlying30
  have HB := Aside0.mk (Below.refl w.heap.size w)
  have H : ((dec_Made.f k false (⟨#[50, 53]⟩ : ByteArray) (-1)).bind fun bt172 => ((dec_Dec_Minus.f k bt172.1 bt172.2.1 bt172.2.2).bind fun bt176 => (florinlaw03_head.l0 k (([(⟨#[50]⟩ : ByteArray), (⟨#[51]⟩ : ByteArray), (⟨#[50]⟩ : ByteArray), (⟨#[51]⟩ : ByteArray), (⟨#[50]⟩ : ByteArray), (⟨#[51]⟩ : ByteArray), (⟨#[50]⟩ : ByteArray)] : List ByteArray)) (([(⟨#[45, 50]⟩ : ByteArray), (⟨#[45, 51]⟩ : ByteArray), (⟨#[45, 50]⟩ : ByteArray), (⟨#[45, 51]⟩ : ByteArray), (⟨#[45, 50]⟩ : ByteArray), (⟨#[45, 50]⟩ : ByteArray), (⟨#[45, 51]⟩ : ByteArray)] : List ByteArray)) 0 bt172.1 bt172.2.1 bt172.2.2 bt176.1 bt176.2.1 bt176.2.2))) = some r := h
  clear h
  replace H := Option.bind_eq_some_iff.mp H
  obtain ⟨⟨t172, t173, t174⟩, A10, H⟩ := H
  replace H : ((dec_Dec_Minus.f k t172 t173 t174).bind fun bt176 => (florinlaw03_head.l0 k (([(⟨#[50]⟩ : ByteArray), (⟨#[51]⟩ : ByteArray), (⟨#[50]⟩ : ByteArray), (⟨#[51]⟩ : ByteArray), (⟨#[50]⟩ : ByteArray), (⟨#[51]⟩ : ByteArray), (⟨#[50]⟩ : ByteArray)] : List ByteArray)) (([(⟨#[45, 50]⟩ : ByteArray), (⟨#[45, 51]⟩ : ByteArray), (⟨#[45, 50]⟩ : ByteArray), (⟨#[45, 51]⟩ : ByteArray), (⟨#[45, 50]⟩ : ByteArray), (⟨#[45, 50]⟩ : ByteArray), (⟨#[45, 51]⟩ : ByteArray)] : List ByteArray)) 0 t172 t173 t174 bt176.1 bt176.2.1 bt176.2.2)) = some r := H
  have A1 := Aside0.mk A10
  clear A10
  replace H := Option.bind_eq_some_iff.mp H
  obtain ⟨⟨t176, t177, t178⟩, A20, H⟩ := H
  replace H : (florinlaw03_head.l0 k (([(⟨#[50]⟩ : ByteArray), (⟨#[51]⟩ : ByteArray), (⟨#[50]⟩ : ByteArray), (⟨#[51]⟩ : ByteArray), (⟨#[50]⟩ : ByteArray), (⟨#[51]⟩ : ByteArray), (⟨#[50]⟩ : ByteArray)] : List ByteArray)) (([(⟨#[45, 50]⟩ : ByteArray), (⟨#[45, 51]⟩ : ByteArray), (⟨#[45, 50]⟩ : ByteArray), (⟨#[45, 51]⟩ : ByteArray), (⟨#[45, 50]⟩ : ByteArray), (⟨#[45, 50]⟩ : ByteArray), (⟨#[45, 51]⟩ : ByteArray)] : List ByteArray)) 0 t172 t173 t174 t176 t177 t178) = some r := H
  have A2 := Aside0.mk A20
  clear A20
  obtain ⟨y180, hy180⟩ : ∃ y_ : List ByteArray, y_ = (([(⟨#[50]⟩ : ByteArray), (⟨#[51]⟩ : ByteArray), (⟨#[50]⟩ : ByteArray), (⟨#[51]⟩ : ByteArray), (⟨#[50]⟩ : ByteArray), (⟨#[51]⟩ : ByteArray), (⟨#[50]⟩ : ByteArray)] : List ByteArray)) := ⟨_, rfl⟩
  replace H : (florinlaw03_head.l0 k y180 (([(⟨#[45, 50]⟩ : ByteArray), (⟨#[45, 51]⟩ : ByteArray), (⟨#[45, 50]⟩ : ByteArray), (⟨#[45, 51]⟩ : ByteArray), (⟨#[45, 50]⟩ : ByteArray), (⟨#[45, 50]⟩ : ByteArray), (⟨#[45, 51]⟩ : ByteArray)] : List ByteArray)) 0 t172 t173 t174 t176 t177 t178) = some r := by first | (rw [hy180]; with_reducible exact H) | (have H2_ := (Option.bind_some _ _).symm.trans H; rw [hy180]; with_reducible exact H2_) | (have H2_ := (Option.bind_some _ _).symm.trans H; with_reducible exact H2_) | with_reducible exact H | (rw [hy180]; exact H) | exact H
  have Ny180 := Aside0.mk hy180
  clear hy180
  obtain ⟨y183, hy183⟩ : ∃ y_ : List ByteArray, y_ = (([(⟨#[45, 50]⟩ : ByteArray), (⟨#[45, 51]⟩ : ByteArray), (⟨#[45, 50]⟩ : ByteArray), (⟨#[45, 51]⟩ : ByteArray), (⟨#[45, 50]⟩ : ByteArray), (⟨#[45, 50]⟩ : ByteArray), (⟨#[45, 51]⟩ : ByteArray)] : List ByteArray)) := ⟨_, rfl⟩
  replace H : (florinlaw03_head.l0 k y180 y183 0 t172 t173 t174 t176 t177 t178) = some r := by first | (rw [hy183]; with_reducible exact H) | (have H2_ := (Option.bind_some _ _).symm.trans H; rw [hy183]; with_reducible exact H2_) | (have H2_ := (Option.bind_some _ _).symm.trans H; with_reducible exact H2_) | with_reducible exact H | (rw [hy183]; exact H) | exact H
  have Ny183 := Aside0.mk hy183
  clear hy183
  have H' := Aside0.mk H
  clear H
  go_enter Tryd.func10, Tryd.ntmps10
  go_wp2_with (first | ((with_reducible refine gate_callee (f := 23) rfl ?_); refine goesL_ (some 6) rfl rfl Tryd.func23 (by kernel_rfl) rfl #[.bool false, .string (⟨#[50, 53]⟩ : ByteArray), .int .i64 (-1)] rfl (by (try simp only [List.map_toArray, List.map_cons, List.map_nil]); first | done | rfl | (simp only [List.length_drop, List.length_take]; rfl) | (have z_ : ∀ s_ : ByteArray, s_.size ≤ 9223372036854775807 → -(s_.size : Int) = wrap64 (-(s_.size : Int)) := (fun s_ h_ => by unfold wrap64; omega); rw [← z_ _ (by omega)]; rfl) | (simp only [ByteArray.size_append]; rfl)) ?_; (with_reducible refine (dec_Made.calls k false (⟨#[50, 53]⟩ : ByteArray) (-1) t172 t173 t174 _ A1.out).mono ?_); rintro e w3 ⟨rfl, hb⟩; refine ⟨_, rfl, ?_⟩; have n0_ := Aside0.mk (below_step (bl_ HB).out hb); clear HB; have HB := n0_; clear n0_; (try clear hb); (try clear hb2); (try clear hk); (try clear hi)) | ((with_reducible refine gate_dst (N := 1) rfl ?_); refine box_event ?hg (N := 1) ?hd (cs := #[.bool false, .string (⟨#[]⟩ : ByteArray), .int .i64 0]) (t := 30) ?hr ?_; (case hd => rfl); (case hg => rfl); (case hr => first | (go_simp; done) | (go_simp; rfl)); intro gb175 hg w4 hbox hb; have n0_ := Aside0.mk (below_step (bl_ HB).out hb); have n1_ := Aside0.mk (hbox); have n2_ := Aside0.mk ((by rw [hg]; exact (below_size (bl_ HB).out) : w.heap.size ≤ gb175)); have n3_ := Aside0.mk ((by rw [hg]; exact (below_size (bl_ HB).out) : w.heap.size ≤ gb175)); clear HB; have HB := n0_; have BK175 := n1_; have GW175 := n2_; have GE175 := n3_; clear n0_ n1_ n2_ n3_; clear hb hbox hg; have hcz5_0 : w4.cell? ⟨gb175, 0, none⟩ = some (.bool false) := bc_ BK175 0; have hcz5_1 : w4.cell? ⟨gb175, 1, none⟩ = some (.string (⟨#[]⟩ : ByteArray)) := bc_ BK175 1; have hcz5_2 : w4.cell? ⟨gb175, 2, none⟩ = some (.int .i64 0) := bc_ BK175 2; have hfz5_0 := blk_frozen BK175.out 0; have hfz5_1 := blk_frozen BK175.out 1; have hfz5_2 := blk_frozen BK175.out 2) | ((with_reducible refine gate_callee (f := 20) rfl ?_); refine goesL_ (some 8) rfl rfl Tryd.func20 (by kernel_rfl) rfl #[.agg #[.bool t172, .string t173, .int .i64 t174]] rfl (by (try simp only [List.map_toArray, List.map_cons, List.map_nil]); first | done | rfl | (simp only [List.length_drop, List.length_take]; rfl) | (have z_ : ∀ s_ : ByteArray, s_.size ≤ 9223372036854775807 → -(s_.size : Int) = wrap64 (-(s_.size : Int)) := (fun s_ h_ => by unfold wrap64; omega); rw [← z_ _ (by omega)]; rfl) | (simp only [ByteArray.size_append]; rfl)) ?_; (with_reducible refine (dec_Dec_Minus.calls k t172 t173 t174 t176 t177 t178 _ A2.out).mono ?_); rintro e w6 ⟨rfl, hb⟩; refine ⟨_, rfl, ?_⟩; have n0_ := Aside0.mk (blk_below (g := gb175) (o := .cells #[.bool t172, .string t173, .int .i64 t174] 30 (0, 0)) (by (with_reducible repeat (first | refine blk_drewN ?_ _ | refine blk_drew ?_ | refine blk_alloc ?_ _)); refine blk_put (cs := #[.bool t172, .string t173, .int .i64 0]) ?_ 2 _ rfl; (with_reducible repeat (first | refine blk_drewN ?_ _ | refine blk_drew ?_ | refine blk_alloc ?_ _)); refine blk_put (cs := #[.bool t172, .string (⟨#[]⟩ : ByteArray), .int .i64 0]) ?_ 1 _ rfl; (with_reducible repeat (first | refine blk_drewN ?_ _ | refine blk_drew ?_ | refine blk_alloc ?_ _)); refine blk_put (cs := #[.bool false, .string (⟨#[]⟩ : ByteArray), .int .i64 0]) ?_ 0 _ rfl; (with_reducible repeat (first | refine blk_drewN ?_ _ | refine blk_drew ?_ | refine blk_alloc ?_ _)); exact BK175.out) hb); have n1_ := Aside0.mk (below_step (bl_ HB).out hb); clear BK175; clear HB; have BK175 := n0_; have HB := n1_; clear n0_ n1_; (try clear hb); (try clear hb2); (try clear hk); (try clear hi)) | ((with_reducible refine gate_dst (N := 2) rfl ?_); refine box_event ?hg (N := 2) ?hd (cs := #[.bool false, .string (⟨#[]⟩ : ByteArray), .int .i64 0]) (t := 30) ?hr ?_; (case hd => rfl); (case hg => rfl); (case hr => first | (go_simp; done) | (go_simp; rfl)); intro gb179 hg w7 hbox hb; have n0_ := bb_ BK175 hb; have n1_ := Aside0.mk (below_step (bl_ HB).out hb); have n2_ := Aside0.mk (hbox); have n3_ := Aside0.mk ((by rw [hg]; exact (below_size (bl_ HB).out) : w.heap.size ≤ gb179)); have n4_ := Aside0.mk ((by rw [hg]; exact (below_size (bl_ HB).out) : w.heap.size ≤ gb179)); have n5_ := Aside0.mk ((by rw [hg]; exact Nat.ne_of_lt (blk_lt (g := gb175) (o := .cells #[.bool t172, .string t173, .int .i64 t174] 30 (0, 0)) (by (with_reducible repeat (first | refine blk_drewN ?_ _ | refine blk_drew ?_ | refine blk_alloc ?_ _)); exact BK175.out)) : gb175 ≠ gb179)); have n6_ := Aside0.mk ((by rw [hg]; exact Nat.ne_of_gt (blk_lt (g := gb175) (o := .cells #[.bool t172, .string t173, .int .i64 t174] 30 (0, 0)) (by (with_reducible repeat (first | refine blk_drewN ?_ _ | refine blk_drew ?_ | refine blk_alloc ?_ _)); exact BK175.out)) : gb179 ≠ gb175)); clear BK175; clear HB; have BK175 := n0_; have HB := n1_; have BK179 := n2_; have GW179 := n3_; have GE179 := n4_; have NB175_179 := n5_; have NB179_175 := n6_; clear n0_ n1_ n2_ n3_ n4_ n5_ n6_; clear hb hbox hg; have hnb8 := NB179_175.out; have hnc8 := NB175_179.out; have hcz9_0 : w7.cell? ⟨gb179, 0, none⟩ = some (.bool false) := bc_ BK179 0; have hcz9_1 : w7.cell? ⟨gb179, 1, none⟩ = some (.string (⟨#[]⟩ : ByteArray)) := bc_ BK179 1; have hcz9_2 : w7.cell? ⟨gb179, 2, none⟩ = some (.int .i64 0) := bc_ BK179 2; have hfz9_0 := blk_frozen BK179.out 0; have hfz9_1 := blk_frozen BK179.out 1; have hfz9_2 := blk_frozen BK179.out 2) | ((with_reducible refine gate_dst (N := 9) rfl ?_); refine Kd.R_lit Kd.string _ 9 ?hg (N := 9) ?hd (xs := ([(⟨#[50]⟩ : ByteArray), (⟨#[51]⟩ : ByteArray), (⟨#[50]⟩ : ByteArray), (⟨#[51]⟩ : ByteArray), (⟨#[50]⟩ : ByteArray), (⟨#[51]⟩ : ByteArray), (⟨#[50]⟩ : ByteArray)] : List ByteArray)) (inner := [.string (⟨#[50]⟩ : ByteArray), .string (⟨#[51]⟩ : ByteArray), .string (⟨#[50]⟩ : ByteArray), .string (⟨#[51]⟩ : ByteArray), .string (⟨#[50]⟩ : ByteArray), .string (⟨#[51]⟩ : ByteArray), .string (⟨#[50]⟩ : ByteArray)]) (ok := fun _ => True) (okp := fun _ => True) ?hr ?hp (fun _ hk => hk) trivial (Below.refl _ _) (Nat.le_refl _) (by simp) ?_; (case hd => rfl); (case hg => rfl); (case hr => first | (go_simp; done) | (go_simp; rfl)); (case hp => exact (Reps.one (show Kd.M Kd.string _ _ _ (⟨#[50]⟩ : ByteArray) [.string (⟨#[50]⟩ : ByteArray)] from rfl) (Reps.one (show Kd.M Kd.string _ _ _ (⟨#[51]⟩ : ByteArray) [.string (⟨#[51]⟩ : ByteArray)] from rfl) (Reps.one (show Kd.M Kd.string _ _ _ (⟨#[50]⟩ : ByteArray) [.string (⟨#[50]⟩ : ByteArray)] from rfl) (Reps.one (show Kd.M Kd.string _ _ _ (⟨#[51]⟩ : ByteArray) [.string (⟨#[51]⟩ : ByteArray)] from rfl) (Reps.one (show Kd.M Kd.string _ _ _ (⟨#[50]⟩ : ByteArray) [.string (⟨#[50]⟩ : ByteArray)] from rfl) (Reps.one (show Kd.M Kd.string _ _ _ (⟨#[51]⟩ : ByteArray) [.string (⟨#[51]⟩ : ByteArray)] from rfl) (Reps.one (show Kd.M Kd.string _ _ _ (⟨#[50]⟩ : ByteArray) [.string (⟨#[50]⟩ : ByteArray)] from rfl) (Reps.none _ _))))))))); intro v181 w10 ho11 hb hg_ hnew_; clear hg_ hnew_; (first | rw [← Ny180.out] at ho11 | (simp only [Int.reduceToNat] at ho11; rw [← Ny180.out] at ho11)); have n0_ := Aside0.mk (Kd.R_lower ho11 (below_size (bl_ HB).out)); have n1_ := Aside0.mk (blk_below (g := gb175) (o := .cells #[.bool t172, .string t173, .int .i64 t174] 30 (0, 0)) (by (with_reducible repeat (first | refine blk_drewN ?_ _ | refine blk_drew ?_ | refine blk_alloc ?_ _)); refine blk_far ?_ NB175_179.out _; (with_reducible repeat (first | refine blk_drewN ?_ _ | refine blk_drew ?_ | refine blk_alloc ?_ _)); refine blk_far ?_ NB175_179.out _; (with_reducible repeat (first | refine blk_drewN ?_ _ | refine blk_drew ?_ | refine blk_alloc ?_ _)); refine blk_far ?_ NB175_179.out _; (with_reducible repeat (first | refine blk_drewN ?_ _ | refine blk_drew ?_ | refine blk_alloc ?_ _)); exact BK175.out) hb); have n2_ := Aside0.mk (blk_below (g := gb179) (o := .cells #[.bool t176, .string t177, .int .i64 t178] 30 (0, 0)) (by (with_reducible repeat (first | refine blk_drewN ?_ _ | refine blk_drew ?_ | refine blk_alloc ?_ _)); refine blk_put (cs := #[.bool t176, .string t177, .int .i64 0]) ?_ 2 _ rfl; (with_reducible repeat (first | refine blk_drewN ?_ _ | refine blk_drew ?_ | refine blk_alloc ?_ _)); refine blk_put (cs := #[.bool t176, .string (⟨#[]⟩ : ByteArray), .int .i64 0]) ?_ 1 _ rfl; (with_reducible repeat (first | refine blk_drewN ?_ _ | refine blk_drew ?_ | refine blk_alloc ?_ _)); refine blk_put (cs := #[.bool false, .string (⟨#[]⟩ : ByteArray), .int .i64 0]) ?_ 0 _ rfl; (with_reducible repeat (first | refine blk_drewN ?_ _ | refine blk_drew ?_ | refine blk_alloc ?_ _)); exact BK179.out) hb); have n3_ := Aside0.mk (below_step (bl_ HB).out hb); clear BK175; clear BK179; clear HB; have HO182 := n0_; have BK175 := n1_; have BK179 := n2_; have HB := n3_; clear n0_ n1_ n2_ n3_; clear hb ho11) | ((with_reducible refine gate_dst (N := 10) rfl ?_); refine Kd.R_lit Kd.string _ 9 ?hg (N := 10) ?hd (xs := ([(⟨#[45, 50]⟩ : ByteArray), (⟨#[45, 51]⟩ : ByteArray), (⟨#[45, 50]⟩ : ByteArray), (⟨#[45, 51]⟩ : ByteArray), (⟨#[45, 50]⟩ : ByteArray), (⟨#[45, 50]⟩ : ByteArray), (⟨#[45, 51]⟩ : ByteArray)] : List ByteArray)) (inner := [.string (⟨#[45, 50]⟩ : ByteArray), .string (⟨#[45, 51]⟩ : ByteArray), .string (⟨#[45, 50]⟩ : ByteArray), .string (⟨#[45, 51]⟩ : ByteArray), .string (⟨#[45, 50]⟩ : ByteArray), .string (⟨#[45, 50]⟩ : ByteArray), .string (⟨#[45, 51]⟩ : ByteArray)]) (ok := fun _ => True) (okp := fun _ => True) ?hr ?hp (fun _ hk => hk) trivial (Below.refl _ _) (Nat.le_refl _) (by simp) ?_; (case hd => rfl); (case hg => rfl); (case hr => first | (go_simp; done) | (go_simp; rfl)); (case hp => exact (Reps.one (show Kd.M Kd.string _ _ _ (⟨#[45, 50]⟩ : ByteArray) [.string (⟨#[45, 50]⟩ : ByteArray)] from rfl) (Reps.one (show Kd.M Kd.string _ _ _ (⟨#[45, 51]⟩ : ByteArray) [.string (⟨#[45, 51]⟩ : ByteArray)] from rfl) (Reps.one (show Kd.M Kd.string _ _ _ (⟨#[45, 50]⟩ : ByteArray) [.string (⟨#[45, 50]⟩ : ByteArray)] from rfl) (Reps.one (show Kd.M Kd.string _ _ _ (⟨#[45, 51]⟩ : ByteArray) [.string (⟨#[45, 51]⟩ : ByteArray)] from rfl) (Reps.one (show Kd.M Kd.string _ _ _ (⟨#[45, 50]⟩ : ByteArray) [.string (⟨#[45, 50]⟩ : ByteArray)] from rfl) (Reps.one (show Kd.M Kd.string _ _ _ (⟨#[45, 50]⟩ : ByteArray) [.string (⟨#[45, 50]⟩ : ByteArray)] from rfl) (Reps.one (show Kd.M Kd.string _ _ _ (⟨#[45, 51]⟩ : ByteArray) [.string (⟨#[45, 51]⟩ : ByteArray)] from rfl) (Reps.none _ _))))))))); intro v184 w12 ho13 hb hg_ hnew_; clear hg_ hnew_; (first | rw [← Ny183.out] at ho13 | (simp only [Int.reduceToNat] at ho13; rw [← Ny183.out] at ho13)); have n0_ := Aside0.mk (Kd.R_elder' (by (with_reducible repeat (first | apply Kd.R_alloc | apply Kd.R_drewN | apply Kd.R_drew)); exact HO182.out) (Kd.R_base ho13) hb); have n1_ := Aside0.mk (Kd.R_lower (Kd.R_new' ho13 (Kd.R_lt (by (with_reducible repeat (first | apply Kd.R_alloc | apply Kd.R_drewN | apply Kd.R_drew)); exact HO182.out))) (below_size (bl_ HB).out)); have n2_ := bb_ BK175 hb; have n3_ := bb_ BK179 hb; have n4_ := Aside0.mk (below_step (bl_ HB).out hb); clear HO182; clear BK175; clear BK179; clear HB; have HO182 := n0_; have HO185 := n1_; have BK175 := n2_; have BK179 := n3_; have HB := n4_; clear n0_ n1_ n2_ n3_ n4_; clear hb ho13))
  go_loopg [5] k (fun kq v5 w' => ∃ (x5_1 : Int), v5 = .int .i64 x5_1 ∧ Aside0 (florinlaw03_head.l0 kq y180 y183 x5_1 t172 t173 t174 t176 t177 t178 = some r) ∧ Aside0 (kq ≤ k) ∧ Aside0 (Kd.R Kd.string 9 w' w.heap.size (fun k_ => some k_ ≠ (v184 : Value).ownBlock) v181 y180) ∧ Aside0 (Kd.R Kd.string 9 w' w.heap.size (fun k_ => some k_ ≠ (v181 : Value).ownBlock) v184 y183) ∧ Aside0 (w'.heap[gb175]? = some (.cells #[.bool t172, .string t173, .int .i64 t174] 30 (0, 0))) ∧ Aside0 (w'.heap[gb179]? = some (.cells #[.bool t176, .string t177, .int .i64 t178] 30 (0, 0))) ∧ Aside0 (Below w.heap.size w w'))
  case atStart => exact ⟨(0), eq_, H', ⟨Nat.le_refl _⟩, ⟨by (with_reducible repeat (first | apply Kd.R_alloc | apply Kd.R_drewN | apply Kd.R_drew)); exact Kd.R_mono HO182.out (fun _ hk => hk.2)⟩, ⟨by (with_reducible repeat (first | apply Kd.R_alloc | apply Kd.R_drewN | apply Kd.R_drew)); exact Kd.R_mono HO185.out (fun _ hk => hk.2)⟩, (bk_ BK175), (bk_ BK179), (bl_ HB)⟩
  case round =>
    clear H'
    try clear c1
    try clear c2
    try clear p2
    try clear p6
    try clear c8
    try clear c10
    try clear hcz5_0
    try clear hcz5_1
    try clear hcz5_2
    try clear hcz9_0
    try clear hcz9_1
    try clear hcz9_2
    try clear hfz5_0
    try clear hfz5_1
    try clear hfz5_2
    try clear hfz9_0
    try clear hfz9_1
    try clear hfz9_2
    obtain ⟨x5_1, rfl, HA, HK1, HO_3, HO_4, BK175, BK179, HB⟩ := hrel
    cases gk with
    | zero => exact absurd HA.out (by simp [florinlaw03_head.l0])
    | succ k1 =>
      have H := HA.out
      clear HA
      simp only [florinlaw03_head.l0] at H
      by_cases c14 : x5_1 ≤ 6
      · rw [if_pos c14] at H
        have c14b0 : decide (x5_1 ≤ 6) = true := decide_eq_true c14
        clear c14
        replace H := Option.bind_eq_some_iff.mp H
        obtain ⟨⟨t186, t187, t188⟩, A150, H⟩ := H
        replace H : ((dec_Dec_Plain.f k1 t186 t187 t188).bind fun t189 => (if 0 ≤ x5_1 then (if x5_1 < (y180.length : Int) then (if t189.toList = (rdOf ByteArray.empty y180 x5_1).toList then ((round_At.f k1 t176 t177 t178 0 x5_1).bind fun bt191 => ((dec_Dec_Plain.f k1 bt191.1 bt191.2.1 bt191.2.2).bind fun t194 => (if x5_1 < (y183.length : Int) then (if t194.toList = (rdOf ByteArray.empty y183 x5_1).toList then (florinlaw03_head.l0 k1 y180 y183 (wrap64 (x5_1 + 1)) t172 t173 t174 t176 t177 t178) else (some false)) else (none)))) else (some false)) else (none)) else (none))) = some r := H
        have A15 := Aside0.mk A150
        clear A150
        replace H := Option.bind_eq_some_iff.mp H
        obtain ⟨t189, A160, H⟩ := H
        replace H : (if 0 ≤ x5_1 then (if x5_1 < (y180.length : Int) then (if t189.toList = (rdOf ByteArray.empty y180 x5_1).toList then ((round_At.f k1 t176 t177 t178 0 x5_1).bind fun bt191 => ((dec_Dec_Plain.f k1 bt191.1 bt191.2.1 bt191.2.2).bind fun t194 => (if x5_1 < (y183.length : Int) then (if t194.toList = (rdOf ByteArray.empty y183 x5_1).toList then (florinlaw03_head.l0 k1 y180 y183 (wrap64 (x5_1 + 1)) t172 t173 t174 t176 t177 t178) else (some false)) else (none)))) else (some false)) else (none)) else (none)) = some r := H
        have A16 := Aside0.mk A160
        clear A160
        by_cases c17 : 0 ≤ x5_1
        · rw [if_pos c17] at H
          have c17b0 : decide (0 ≤ x5_1) = true := decide_eq_true c17
          clear c17
          by_cases c18 : x5_1 < (y180.length : Int)
          · rw [if_pos c18] at H
            have c18b0 : decide (x5_1 < (y180.length : Int)) = true := decide_eq_true c18
            clear c18
            by_cases c19 : t189.toList = (rdOf ByteArray.empty y180 x5_1).toList
            · rw [if_pos c19] at H
              have c19b0 : (t189.toList == (rdOf ByteArray.empty y180 x5_1).toList) = true := beq_iff_eq.mpr c19
              have c19b1 : (t189.toList != (rdOf ByteArray.empty y180 x5_1).toList) = false := bne_eq_false_iff_eq.mpr c19
              clear c19
              replace H := Option.bind_eq_some_iff.mp H
              obtain ⟨⟨t191, t192, t193⟩, A200, H⟩ := H
              replace H : ((dec_Dec_Plain.f k1 t191 t192 t193).bind fun t194 => (if x5_1 < (y183.length : Int) then (if t194.toList = (rdOf ByteArray.empty y183 x5_1).toList then (florinlaw03_head.l0 k1 y180 y183 (wrap64 (x5_1 + 1)) t172 t173 t174 t176 t177 t178) else (some false)) else (none))) = some r := H
              have A20 := Aside0.mk A200
              clear A200
              replace H := Option.bind_eq_some_iff.mp H
              obtain ⟨t194, A210, H⟩ := H
              replace H : (if x5_1 < (y183.length : Int) then (if t194.toList = (rdOf ByteArray.empty y183 x5_1).toList then (florinlaw03_head.l0 k1 y180 y183 (wrap64 (x5_1 + 1)) t172 t173 t174 t176 t177 t178) else (some false)) else (none)) = some r := H
              have A21 := Aside0.mk A210
              clear A210
              by_cases c22 : x5_1 < (y183.length : Int)
              · rw [if_pos c22] at H
                have c22b0 : decide (x5_1 < (y183.length : Int)) = true := decide_eq_true c22
                clear c22
                by_cases c23 : t194.toList = (rdOf ByteArray.empty y183 x5_1).toList
                · rw [if_pos c23] at H
                  have c23b0 : (t194.toList == (rdOf ByteArray.empty y183 x5_1).toList) = true := beq_iff_eq.mpr c23
                  have c23b1 : (t194.toList != (rdOf ByteArray.empty y183 x5_1).toList) = false := bne_eq_false_iff_eq.mpr c23
                  clear c23
                  have H' := Aside0.mk H
                  clear H
                  try go_wp2
                  replace HO_3 := Aside0.mk (Kd.R_drew HO_3.out)
                  replace HO_4 := Aside0.mk (Kd.R_drew HO_4.out)
                  replace BK175 := Aside0.mk (blk_drew BK175.out)
                  replace BK179 := Aside0.mk (blk_drew BK179.out)
                  replace HB := Aside0.mk (below_drew1 HB.out)
                  obtain ⟨Ao25, co25, eo25⟩ := Kd.R_slice HO_3.out
                  (first | subst eo25 | (injection eo25 with f1_ f2_ f3_; have f4_ := f1_.symm; have f5_ := f3_.symm; clear f1_ f2_ f3_; subst f4_; subst f5_))
                  have p190 : 0 ≤ (x5_1 : Int) := of_decide_eq_true (by first | (with_reducible assumption) | assumption)
                  have q190 : x5_1 < (y180.length : Int) := of_decide_eq_true (by first | (with_reducible assumption) | assumption)
                  obtain ⟨ad190, e190, hx190_0⟩ := Kd.at_string (Kd.R_reads' HO_3.out).2.2 x5_1 p190 q190
                  cases e190
                  replace p190 := eq_true p190
                  replace q190 := eq_true q190
                  have p195 : 0 ≤ (x5_1 : Int) := of_decide_eq_true (by first | (with_reducible assumption) | assumption)
                  have q195 : x5_1 < (y183.length : Int) := of_decide_eq_true (by first | (with_reducible assumption) | assumption)
                  obtain ⟨Aoz4_1, coz4_1, eoz4_1⟩ := Kd.R_slice HO_4.out
                  (first | subst eoz4_1 | (injection eoz4_1 with f1_ f2_ f3_; have f4_ := f1_.symm; have f5_ := f3_.symm; clear f1_ f2_ f3_; subst f4_; subst f5_))
                  obtain ⟨ad195, e195, hx195_0⟩ := Kd.at_string (Kd.R_reads' HO_4.out).2.2 x5_1 p195 q195
                  cases e195
                  replace p195 := eq_true p195
                  replace q195 := eq_true q195
                  refine start_ (n := 20) (S := fun w' => w'.cell? ⟨gb175, 0, none⟩ = some (.bool t172) ∧ w'.cell? ⟨gb175, 1, none⟩ = some (.string t173) ∧ w'.cell? ⟨gb175, 2, none⟩ = some (.int .i64 t174) ∧ w'.cell? ⟨gb179, 0, none⟩ = some (.bool t176) ∧ w'.cell? ⟨gb179, 1, none⟩ = some (.string t177) ∧ w'.cell? ⟨gb179, 2, none⟩ = some (.int .i64 t178) ∧ w'.cell? (ad190.add (x5_1).toNat) = some (.string (rdOf ByteArray.empty y180 x5_1)) ∧ w'.cell? (ad195.add (x5_1).toNat) = some (.string (rdOf ByteArray.empty y183 x5_1))) (ds := []) #[false, false, false, false, false, false, false, false, false, false, false, false, false, false, false, false, false, false, false, false] (by kernel_rfl) rfl rfl ⟨bc_ BK175 0, bc_ BK175 1, bc_ BK175 2, bc_ BK179 0, bc_ BK179 1, bc_ BK179 2, hx190_0, hx195_0⟩ (fun hHeld => ?_); refine with_tabW florinlaw03_head.tab8 florinlaw03_head.bits8 (fun HT_ HW_ => ?_)
                  generalize wr.drew = w24 at HO_3 HO_4 BK175 BK179 HB hx190_0 hx195_0 hHeld ⊢
                  refine pu_ 1 16 (bm_ 20 2) HT_ ?_
                  refine pu_ 4 19 (bm_ 20 18) HT_ ?_
                  refine pu_ 5 20 (bm_ 20 50) HT_ ?_
                  refine pu_ 6 21 (bm_ 20 114) HT_ ?_
                  refine tk_ 0 15 (bm_ 20 115) HT_ HW_ hHeld rfl (by rintro w' ⟨s0, s1, s2, s3, s4, s5, s6, s7⟩; go_simp; with_reducible rfl) ?_
                  refine tk_ 7 22 (bm_ 20 243) HT_ HW_ hHeld rfl (by rintro w' ⟨s0, s1, s2, s3, s4, s5, s6, s7⟩; go_simp; with_reducible rfl) ?_
                  refine one_ (i := 2) (N := some 17) (bm_ 20 247) rfl rfl (one_of HT_.out (by kernel_rfl)) (by decide) (fun K hK => ?_)
                  refine gs_ Tryd.func13 #[.agg #[.bool t172, .string t173, .int .i64 t174], .int .i64 0, .int .i64 x5_1] ?_
                  with_reducible refine (round_At.calls k1 t172 t173 t174 0 x5_1 t186 t187 t188 _ A15.out).mono ?_
                  rintro e w26 ⟨rfl, hb⟩
                  have HS6_ := (hb.cell (World.block_lt_of_cell? _ _ (hHeld.2.2.2.2.2.2.1))).trans (hHeld.2.2.2.2.2.2.1)
                  have HS7_ := (hb.cell (World.block_lt_of_cell? _ _ (hHeld.2.2.2.2.2.2.2))).trans (hHeld.2.2.2.2.2.2.2)
                  refine ⟨_, rfl, ?_⟩
                  replace HO_3 := Aside0.mk (Kd.R_below (by (with_reducible repeat (first | apply Kd.R_alloc | apply Kd.R_drewN | apply Kd.R_drew)); exact HO_3.out) hb)
                  replace HO_4 := Aside0.mk (Kd.R_below (by (with_reducible repeat (first | apply Kd.R_alloc | apply Kd.R_drewN | apply Kd.R_drew)); exact HO_4.out) hb)
                  replace BK175 := bb_ BK175 hb
                  replace BK179 := bb_ BK179 hb
                  replace HB := Aside0.mk (below_step (bl_ HB).out hb)
                  (try clear hb)
                  (try clear hb2)
                  (try clear hk)
                  (try clear hi)
                  refine hK.out _ _ ⟨bc_ BK175 0, bc_ BK175 1, bc_ BK175 2, bc_ BK179 0, bc_ BK179 1, bc_ BK179 2, HS6_, HS7_⟩ (fun hHeld => ?_)
                  clear hK K
                  refine nm_ 17 ?_
                  refine one_ (i := 3) (N := some 18) (bm_ 20 255) rfl rfl (one_of HT_.out (by kernel_rfl)) (by decide) (fun K hK => ?_)
                  refine gs_ Tryd.func30 #[.agg #[.bool t186, .string t187, .int .i64 t188]] ?_
                  with_reducible refine (dec_Dec_Plain.calls k1 t186 t187 t188 t189 _ A16.out).mono ?_
                  rintro e w27 ⟨rfl, hb⟩
                  have HS6_ := (hb.cell (World.block_lt_of_cell? _ _ (hHeld.2.2.2.2.2.2.1))).trans (hHeld.2.2.2.2.2.2.1)
                  have HS7_ := (hb.cell (World.block_lt_of_cell? _ _ (hHeld.2.2.2.2.2.2.2))).trans (hHeld.2.2.2.2.2.2.2)
                  refine ⟨_, rfl, ?_⟩
                  replace HO_3 := Aside0.mk (Kd.R_below (by (with_reducible repeat (first | apply Kd.R_alloc | apply Kd.R_drewN | apply Kd.R_drew)); exact HO_3.out) hb)
                  replace HO_4 := Aside0.mk (Kd.R_below (by (with_reducible repeat (first | apply Kd.R_alloc | apply Kd.R_drewN | apply Kd.R_drew)); exact HO_4.out) hb)
                  replace BK175 := bb_ BK175 hb
                  replace BK179 := bb_ BK179 hb
                  replace HB := Aside0.mk (below_step (bl_ HB).out hb)
                  (try clear hb)
                  (try clear hb2)
                  (try clear hk)
                  (try clear hi)
                  refine hK.out _ _ ⟨bc_ BK175 0, bc_ BK175 1, bc_ BK175 2, bc_ BK179 0, bc_ BK179 1, bc_ BK179 2, HS6_, HS7_⟩ (fun hHeld => ?_)
                  clear hK K
                  refine nm_ 18 ?_
                  refine pu_ 8 23 (bm_ 20 511) HT_ ?_
                  refine pu_ 9 24 (bm_ 20 1023) HT_ ?_
                  refine pu_ 11 26 (bm_ 20 3071) HT_ ?_
                  refine pu_ 14 29 (bm_ 20 19455) HT_ ?_
                  refine pu_ 15 30 (bm_ 20 52223) HT_ ?_
                  refine pu_ 16 31 (bm_ 20 117759) HT_ ?_
                  refine tk_ 10 25 (bm_ 20 118783) HT_ HW_ hHeld rfl (by rintro w' ⟨s0, s1, s2, s3, s4, s5, s6, s7⟩; go_simp; with_reducible rfl) ?_
                  refine tk_ 17 32 (bm_ 20 249855) HT_ HW_ hHeld rfl (by rintro w' ⟨s0, s1, s2, s3, s4, s5, s6, s7⟩; go_simp; with_reducible rfl) ?_
                  refine one_ (i := 12) (N := some 27) (bm_ 20 253951) rfl rfl (one_of HT_.out (by kernel_rfl)) (by decide) (fun K hK => ?_)
                  refine gs_ Tryd.func13 #[.agg #[.bool t176, .string t177, .int .i64 t178], .int .i64 0, .int .i64 x5_1] ?_
                  with_reducible refine (round_At.calls k1 t176 t177 t178 0 x5_1 t191 t192 t193 _ A20.out).mono ?_
                  rintro e w28 ⟨rfl, hb⟩
                  have HS6_ := (hb.cell (World.block_lt_of_cell? _ _ (hHeld.2.2.2.2.2.2.1))).trans (hHeld.2.2.2.2.2.2.1)
                  have HS7_ := (hb.cell (World.block_lt_of_cell? _ _ (hHeld.2.2.2.2.2.2.2))).trans (hHeld.2.2.2.2.2.2.2)
                  refine ⟨_, rfl, ?_⟩
                  replace HO_3 := Aside0.mk (Kd.R_below (by (with_reducible repeat (first | apply Kd.R_alloc | apply Kd.R_drewN | apply Kd.R_drew)); exact HO_3.out) hb)
                  replace HO_4 := Aside0.mk (Kd.R_below (by (with_reducible repeat (first | apply Kd.R_alloc | apply Kd.R_drewN | apply Kd.R_drew)); exact HO_4.out) hb)
                  replace BK175 := bb_ BK175 hb
                  replace BK179 := bb_ BK179 hb
                  replace HB := Aside0.mk (below_step (bl_ HB).out hb)
                  (try clear hb)
                  (try clear hb2)
                  (try clear hk)
                  (try clear hi)
                  refine hK.out _ _ ⟨bc_ BK175 0, bc_ BK175 1, bc_ BK175 2, bc_ BK179 0, bc_ BK179 1, bc_ BK179 2, HS6_, HS7_⟩ (fun hHeld => ?_)
                  clear hK K
                  refine nm_ 27 ?_
                  refine one_ (i := 13) (N := some 28) (bm_ 20 262143) rfl rfl (one_of HT_.out (by kernel_rfl)) (by decide) (fun K hK => ?_)
                  refine gs_ Tryd.func30 #[.agg #[.bool t191, .string t192, .int .i64 t193]] ?_
                  with_reducible refine (dec_Dec_Plain.calls k1 t191 t192 t193 t194 _ A21.out).mono ?_
                  rintro e w29 ⟨rfl, hb⟩
                  have HS6_ := (hb.cell (World.block_lt_of_cell? _ _ (hHeld.2.2.2.2.2.2.1))).trans (hHeld.2.2.2.2.2.2.1)
                  have HS7_ := (hb.cell (World.block_lt_of_cell? _ _ (hHeld.2.2.2.2.2.2.2))).trans (hHeld.2.2.2.2.2.2.2)
                  refine ⟨_, rfl, ?_⟩
                  replace HO_3 := Aside0.mk (Kd.R_below (by (with_reducible repeat (first | apply Kd.R_alloc | apply Kd.R_drewN | apply Kd.R_drew)); exact HO_3.out) hb)
                  replace HO_4 := Aside0.mk (Kd.R_below (by (with_reducible repeat (first | apply Kd.R_alloc | apply Kd.R_drewN | apply Kd.R_drew)); exact HO_4.out) hb)
                  replace BK175 := bb_ BK175 hb
                  replace BK179 := bb_ BK179 hb
                  replace HB := Aside0.mk (below_step (bl_ HB).out hb)
                  (try clear hb)
                  (try clear hb2)
                  (try clear hk)
                  (try clear hi)
                  obtain ⟨Ao30, co30, eo30⟩ := Kd.R_slice HO_4.out
                  (first | subst eo30 | (injection eo30 with f1_ f2_ f3_; have f4_ := f1_.symm; have f5_ := f3_.symm; clear f1_ f2_ f3_; subst f4_; subst f5_))
                  refine hK.out _ _ ⟨bc_ BK175 0, bc_ BK175 1, bc_ BK175 2, bc_ BK179 0, bc_ BK179 1, bc_ BK179 2, HS6_, HS7_⟩ (fun hHeld => ?_)
                  clear hK K
                  refine nm_ 28 ?_
                  refine pu_ 18 33 (bm_ 20 524287) HT_ ?_
                  refine pu_ 19 34 (bm_ 20 1048575) HT_ ?_
                  refine done_ (done_of HT_.out (by kernel_rfl)) ?_
                  try go_wp2
                  go_roundg k1
                  case measure => have := HK1.out; omega
                  case rel => exact ⟨(wrap64 (x5_1 + 1)), eq_, H', ⟨by have := HK1.out; omega⟩, ⟨by (with_reducible repeat (first | apply Kd.R_alloc | apply Kd.R_drewN | apply Kd.R_drew)); exact HO_3.out⟩, ⟨by (with_reducible repeat (first | apply Kd.R_alloc | apply Kd.R_drewN | apply Kd.R_drew)); exact HO_4.out⟩, (bk_ BK175), (bk_ BK179), (bl_ HB)⟩
                · rw [if_neg c23] at H
                  have c23b0 : (t194.toList == (rdOf ByteArray.empty y183 x5_1).toList) = false := beq_eq_false_iff_ne.mpr c23
                  have c23b1 : (t194.toList != (rdOf ByteArray.empty y183 x5_1).toList) = true := bne_iff_ne.mpr c23
                  obtain rfl := Option.some.inj H
                  try go_wp2
                  replace HO_3 := Aside0.mk (Kd.R_drew HO_3.out)
                  replace HO_4 := Aside0.mk (Kd.R_drew HO_4.out)
                  replace BK175 := Aside0.mk (blk_drew BK175.out)
                  replace BK179 := Aside0.mk (blk_drew BK179.out)
                  replace HB := Aside0.mk (below_drew1 HB.out)
                  obtain ⟨Ao32, co32, eo32⟩ := Kd.R_slice HO_3.out
                  (first | subst eo32 | (injection eo32 with f1_ f2_ f3_; have f4_ := f1_.symm; have f5_ := f3_.symm; clear f1_ f2_ f3_; subst f4_; subst f5_))
                  have p190 : 0 ≤ (x5_1 : Int) := of_decide_eq_true (by first | (with_reducible assumption) | assumption)
                  have q190 : x5_1 < (y180.length : Int) := of_decide_eq_true (by first | (with_reducible assumption) | assumption)
                  obtain ⟨ad190, e190, hx190_0⟩ := Kd.at_string (Kd.R_reads' HO_3.out).2.2 x5_1 p190 q190
                  cases e190
                  replace p190 := eq_true p190
                  replace q190 := eq_true q190
                  have p195 : 0 ≤ (x5_1 : Int) := of_decide_eq_true (by first | (with_reducible assumption) | assumption)
                  have q195 : x5_1 < (y183.length : Int) := of_decide_eq_true (by first | (with_reducible assumption) | assumption)
                  obtain ⟨Aoz4_2, coz4_2, eoz4_2⟩ := Kd.R_slice HO_4.out
                  (first | subst eoz4_2 | (injection eoz4_2 with f1_ f2_ f3_; have f4_ := f1_.symm; have f5_ := f3_.symm; clear f1_ f2_ f3_; subst f4_; subst f5_))
                  obtain ⟨ad195, e195, hx195_0⟩ := Kd.at_string (Kd.R_reads' HO_4.out).2.2 x5_1 p195 q195
                  cases e195
                  replace p195 := eq_true p195
                  replace q195 := eq_true q195
                  refine start_ (n := 20) (S := fun w' => w'.cell? ⟨gb175, 0, none⟩ = some (.bool t172) ∧ w'.cell? ⟨gb175, 1, none⟩ = some (.string t173) ∧ w'.cell? ⟨gb175, 2, none⟩ = some (.int .i64 t174) ∧ w'.cell? ⟨gb179, 0, none⟩ = some (.bool t176) ∧ w'.cell? ⟨gb179, 1, none⟩ = some (.string t177) ∧ w'.cell? ⟨gb179, 2, none⟩ = some (.int .i64 t178) ∧ w'.cell? (ad190.add (x5_1).toNat) = some (.string (rdOf ByteArray.empty y180 x5_1)) ∧ w'.cell? (ad195.add (x5_1).toNat) = some (.string (rdOf ByteArray.empty y183 x5_1))) (ds := []) #[false, false, false, false, false, false, false, false, false, false, false, false, false, false, false, false, false, false, false, false] (by kernel_rfl) rfl rfl ⟨bc_ BK175 0, bc_ BK175 1, bc_ BK175 2, bc_ BK179 0, bc_ BK179 1, bc_ BK179 2, hx190_0, hx195_0⟩ (fun hHeld => ?_); refine with_tabW florinlaw03_head.tab8 florinlaw03_head.bits8 (fun HT_ HW_ => ?_)
                  generalize wr.drew = w31 at HO_3 HO_4 BK175 BK179 HB hx190_0 hx195_0 hHeld ⊢
                  refine pu_ 1 16 (bm_ 20 2) HT_ ?_
                  refine pu_ 4 19 (bm_ 20 18) HT_ ?_
                  refine pu_ 5 20 (bm_ 20 50) HT_ ?_
                  refine pu_ 6 21 (bm_ 20 114) HT_ ?_
                  refine tk_ 0 15 (bm_ 20 115) HT_ HW_ hHeld rfl (by rintro w' ⟨s0, s1, s2, s3, s4, s5, s6, s7⟩; go_simp; with_reducible rfl) ?_
                  refine tk_ 7 22 (bm_ 20 243) HT_ HW_ hHeld rfl (by rintro w' ⟨s0, s1, s2, s3, s4, s5, s6, s7⟩; go_simp; with_reducible rfl) ?_
                  refine one_ (i := 2) (N := some 17) (bm_ 20 247) rfl rfl (one_of HT_.out (by kernel_rfl)) (by decide) (fun K hK => ?_)
                  refine gs_ Tryd.func13 #[.agg #[.bool t172, .string t173, .int .i64 t174], .int .i64 0, .int .i64 x5_1] ?_
                  with_reducible refine (round_At.calls k1 t172 t173 t174 0 x5_1 t186 t187 t188 _ A15.out).mono ?_
                  rintro e w33 ⟨rfl, hb⟩
                  have HS6_ := (hb.cell (World.block_lt_of_cell? _ _ (hHeld.2.2.2.2.2.2.1))).trans (hHeld.2.2.2.2.2.2.1)
                  have HS7_ := (hb.cell (World.block_lt_of_cell? _ _ (hHeld.2.2.2.2.2.2.2))).trans (hHeld.2.2.2.2.2.2.2)
                  refine ⟨_, rfl, ?_⟩
                  replace HO_3 := Aside0.mk (Kd.R_below (by (with_reducible repeat (first | apply Kd.R_alloc | apply Kd.R_drewN | apply Kd.R_drew)); exact HO_3.out) hb)
                  replace HO_4 := Aside0.mk (Kd.R_below (by (with_reducible repeat (first | apply Kd.R_alloc | apply Kd.R_drewN | apply Kd.R_drew)); exact HO_4.out) hb)
                  replace BK175 := bb_ BK175 hb
                  replace BK179 := bb_ BK179 hb
                  replace HB := Aside0.mk (below_step (bl_ HB).out hb)
                  (try clear hb)
                  (try clear hb2)
                  (try clear hk)
                  (try clear hi)
                  refine hK.out _ _ ⟨bc_ BK175 0, bc_ BK175 1, bc_ BK175 2, bc_ BK179 0, bc_ BK179 1, bc_ BK179 2, HS6_, HS7_⟩ (fun hHeld => ?_)
                  clear hK K
                  refine nm_ 17 ?_
                  refine one_ (i := 3) (N := some 18) (bm_ 20 255) rfl rfl (one_of HT_.out (by kernel_rfl)) (by decide) (fun K hK => ?_)
                  refine gs_ Tryd.func30 #[.agg #[.bool t186, .string t187, .int .i64 t188]] ?_
                  with_reducible refine (dec_Dec_Plain.calls k1 t186 t187 t188 t189 _ A16.out).mono ?_
                  rintro e w34 ⟨rfl, hb⟩
                  have HS6_ := (hb.cell (World.block_lt_of_cell? _ _ (hHeld.2.2.2.2.2.2.1))).trans (hHeld.2.2.2.2.2.2.1)
                  have HS7_ := (hb.cell (World.block_lt_of_cell? _ _ (hHeld.2.2.2.2.2.2.2))).trans (hHeld.2.2.2.2.2.2.2)
                  refine ⟨_, rfl, ?_⟩
                  replace HO_3 := Aside0.mk (Kd.R_below (by (with_reducible repeat (first | apply Kd.R_alloc | apply Kd.R_drewN | apply Kd.R_drew)); exact HO_3.out) hb)
                  replace HO_4 := Aside0.mk (Kd.R_below (by (with_reducible repeat (first | apply Kd.R_alloc | apply Kd.R_drewN | apply Kd.R_drew)); exact HO_4.out) hb)
                  replace BK175 := bb_ BK175 hb
                  replace BK179 := bb_ BK179 hb
                  replace HB := Aside0.mk (below_step (bl_ HB).out hb)
                  (try clear hb)
                  (try clear hb2)
                  (try clear hk)
                  (try clear hi)
                  refine hK.out _ _ ⟨bc_ BK175 0, bc_ BK175 1, bc_ BK175 2, bc_ BK179 0, bc_ BK179 1, bc_ BK179 2, HS6_, HS7_⟩ (fun hHeld => ?_)
                  clear hK K
                  refine nm_ 18 ?_
                  refine pu_ 8 23 (bm_ 20 511) HT_ ?_
                  refine pu_ 9 24 (bm_ 20 1023) HT_ ?_
                  refine pu_ 11 26 (bm_ 20 3071) HT_ ?_
                  refine pu_ 14 29 (bm_ 20 19455) HT_ ?_
                  refine pu_ 15 30 (bm_ 20 52223) HT_ ?_
                  refine pu_ 16 31 (bm_ 20 117759) HT_ ?_
                  refine tk_ 10 25 (bm_ 20 118783) HT_ HW_ hHeld rfl (by rintro w' ⟨s0, s1, s2, s3, s4, s5, s6, s7⟩; go_simp; with_reducible rfl) ?_
                  refine tk_ 17 32 (bm_ 20 249855) HT_ HW_ hHeld rfl (by rintro w' ⟨s0, s1, s2, s3, s4, s5, s6, s7⟩; go_simp; with_reducible rfl) ?_
                  refine one_ (i := 12) (N := some 27) (bm_ 20 253951) rfl rfl (one_of HT_.out (by kernel_rfl)) (by decide) (fun K hK => ?_)
                  refine gs_ Tryd.func13 #[.agg #[.bool t176, .string t177, .int .i64 t178], .int .i64 0, .int .i64 x5_1] ?_
                  with_reducible refine (round_At.calls k1 t176 t177 t178 0 x5_1 t191 t192 t193 _ A20.out).mono ?_
                  rintro e w35 ⟨rfl, hb⟩
                  have HS6_ := (hb.cell (World.block_lt_of_cell? _ _ (hHeld.2.2.2.2.2.2.1))).trans (hHeld.2.2.2.2.2.2.1)
                  have HS7_ := (hb.cell (World.block_lt_of_cell? _ _ (hHeld.2.2.2.2.2.2.2))).trans (hHeld.2.2.2.2.2.2.2)
                  refine ⟨_, rfl, ?_⟩
                  replace HO_3 := Aside0.mk (Kd.R_below (by (with_reducible repeat (first | apply Kd.R_alloc | apply Kd.R_drewN | apply Kd.R_drew)); exact HO_3.out) hb)
                  replace HO_4 := Aside0.mk (Kd.R_below (by (with_reducible repeat (first | apply Kd.R_alloc | apply Kd.R_drewN | apply Kd.R_drew)); exact HO_4.out) hb)
                  replace BK175 := bb_ BK175 hb
                  replace BK179 := bb_ BK179 hb
                  replace HB := Aside0.mk (below_step (bl_ HB).out hb)
                  (try clear hb)
                  (try clear hb2)
                  (try clear hk)
                  (try clear hi)
                  refine hK.out _ _ ⟨bc_ BK175 0, bc_ BK175 1, bc_ BK175 2, bc_ BK179 0, bc_ BK179 1, bc_ BK179 2, HS6_, HS7_⟩ (fun hHeld => ?_)
                  clear hK K
                  refine nm_ 27 ?_
                  refine one_ (i := 13) (N := some 28) (bm_ 20 262143) rfl rfl (one_of HT_.out (by kernel_rfl)) (by decide) (fun K hK => ?_)
                  refine gs_ Tryd.func30 #[.agg #[.bool t191, .string t192, .int .i64 t193]] ?_
                  with_reducible refine (dec_Dec_Plain.calls k1 t191 t192 t193 t194 _ A21.out).mono ?_
                  rintro e w36 ⟨rfl, hb⟩
                  have HS6_ := (hb.cell (World.block_lt_of_cell? _ _ (hHeld.2.2.2.2.2.2.1))).trans (hHeld.2.2.2.2.2.2.1)
                  have HS7_ := (hb.cell (World.block_lt_of_cell? _ _ (hHeld.2.2.2.2.2.2.2))).trans (hHeld.2.2.2.2.2.2.2)
                  refine ⟨_, rfl, ?_⟩
                  replace HO_3 := Aside0.mk (Kd.R_below (by (with_reducible repeat (first | apply Kd.R_alloc | apply Kd.R_drewN | apply Kd.R_drew)); exact HO_3.out) hb)
                  replace HO_4 := Aside0.mk (Kd.R_below (by (with_reducible repeat (first | apply Kd.R_alloc | apply Kd.R_drewN | apply Kd.R_drew)); exact HO_4.out) hb)
                  replace BK175 := bb_ BK175 hb
                  replace BK179 := bb_ BK179 hb
                  replace HB := Aside0.mk (below_step (bl_ HB).out hb)
                  (try clear hb)
                  (try clear hb2)
                  (try clear hk)
                  (try clear hi)
                  obtain ⟨Ao37, co37, eo37⟩ := Kd.R_slice HO_4.out
                  (first | subst eo37 | (injection eo37 with f1_ f2_ f3_; have f4_ := f1_.symm; have f5_ := f3_.symm; clear f1_ f2_ f3_; subst f4_; subst f5_))
                  refine hK.out _ _ ⟨bc_ BK175 0, bc_ BK175 1, bc_ BK175 2, bc_ BK179 0, bc_ BK179 1, bc_ BK179 2, HS6_, HS7_⟩ (fun hHeld => ?_)
                  clear hK K
                  refine nm_ 28 ?_
                  refine pu_ 18 33 (bm_ 20 524287) HT_ ?_
                  refine pu_ 19 34 (bm_ 20 1048575) HT_ ?_
                  refine done_ (done_of HT_.out (by kernel_rfl)) ?_
                  try go_wp2
                  go_ret
                  exact ⟨by first | rfl | (simp [errW_none, errW_some] <;> rfl) | (simp [*, errW_none, errW_some] <;> first | rfl | exact given_isEmpty _ | exact (given_isEmpty _).symm), by repeat (first | (with_reducible first | exact HB.out | apply below_alloc | apply pw_below_drewN | apply below_drew1 | refine below_set ?_ GE175.out | refine below_set ?_ GE179.out) | exact HB.out)⟩
              · rw [if_neg c22] at H
                exact absurd H (by simp)
            · rw [if_neg c19] at H
              have c19b0 : (t189.toList == (rdOf ByteArray.empty y180 x5_1).toList) = false := beq_eq_false_iff_ne.mpr c19
              have c19b1 : (t189.toList != (rdOf ByteArray.empty y180 x5_1).toList) = true := bne_iff_ne.mpr c19
              obtain rfl := Option.some.inj H
              try go_wp2
              replace HO_3 := Aside0.mk (Kd.R_drew HO_3.out)
              replace HO_4 := Aside0.mk (Kd.R_drew HO_4.out)
              replace BK175 := Aside0.mk (blk_drew BK175.out)
              replace BK179 := Aside0.mk (blk_drew BK179.out)
              replace HB := Aside0.mk (below_drew1 HB.out)
              obtain ⟨Ao39, co39, eo39⟩ := Kd.R_slice HO_3.out
              (first | subst eo39 | (injection eo39 with f1_ f2_ f3_; have f4_ := f1_.symm; have f5_ := f3_.symm; clear f1_ f2_ f3_; subst f4_; subst f5_))
              have p190 : 0 ≤ (x5_1 : Int) := of_decide_eq_true (by first | (with_reducible assumption) | assumption)
              have q190 : x5_1 < (y180.length : Int) := of_decide_eq_true (by first | (with_reducible assumption) | assumption)
              obtain ⟨ad190, e190, hx190_0⟩ := Kd.at_string (Kd.R_reads' HO_3.out).2.2 x5_1 p190 q190
              cases e190
              replace p190 := eq_true p190
              replace q190 := eq_true q190
              refine start_ (n := 20) (S := fun w' => w'.cell? ⟨gb175, 0, none⟩ = some (.bool t172) ∧ w'.cell? ⟨gb175, 1, none⟩ = some (.string t173) ∧ w'.cell? ⟨gb175, 2, none⟩ = some (.int .i64 t174) ∧ w'.cell? (ad190.add (x5_1).toNat) = some (.string (rdOf ByteArray.empty y180 x5_1))) (ds := []) #[false, false, false, false, false, false, false, false, false, false, false, false, false, false, false, false, false, false, false, false] (by kernel_rfl) rfl rfl ⟨bc_ BK175 0, bc_ BK175 1, bc_ BK175 2, hx190_0⟩ (fun hHeld => ?_); refine with_tabW florinlaw03_head.tab8 florinlaw03_head.bits8 (fun HT_ HW_ => ?_)
              generalize wr.drew = w38 at HO_3 HO_4 BK175 BK179 HB hx190_0 hHeld ⊢
              refine pu_ 1 16 (bm_ 20 2) HT_ ?_
              refine pu_ 4 19 (bm_ 20 18) HT_ ?_
              refine pu_ 5 20 (bm_ 20 50) HT_ ?_
              refine pu_ 6 21 (bm_ 20 114) HT_ ?_
              refine tk_ 0 15 (bm_ 20 115) HT_ HW_ hHeld rfl (by rintro w' ⟨s0, s1, s2, s3⟩; go_simp; with_reducible rfl) ?_
              refine tk_ 7 22 (bm_ 20 243) HT_ HW_ hHeld rfl (by rintro w' ⟨s0, s1, s2, s3⟩; go_simp; with_reducible rfl) ?_
              refine one_ (i := 2) (N := some 17) (bm_ 20 247) rfl rfl (one_of HT_.out (by kernel_rfl)) (by decide) (fun K hK => ?_)
              refine gs_ Tryd.func13 #[.agg #[.bool t172, .string t173, .int .i64 t174], .int .i64 0, .int .i64 x5_1] ?_
              with_reducible refine (round_At.calls k1 t172 t173 t174 0 x5_1 t186 t187 t188 _ A15.out).mono ?_
              rintro e w40 ⟨rfl, hb⟩
              have HS3_ := (hb.cell (World.block_lt_of_cell? _ _ (hHeld.2.2.2))).trans (hHeld.2.2.2)
              refine ⟨_, rfl, ?_⟩
              replace HO_3 := Aside0.mk (Kd.R_below (by (with_reducible repeat (first | apply Kd.R_alloc | apply Kd.R_drewN | apply Kd.R_drew)); exact HO_3.out) hb)
              replace HO_4 := Aside0.mk (Kd.R_below (by (with_reducible repeat (first | apply Kd.R_alloc | apply Kd.R_drewN | apply Kd.R_drew)); exact HO_4.out) hb)
              replace BK175 := bb_ BK175 hb
              replace BK179 := bb_ BK179 hb
              replace HB := Aside0.mk (below_step (bl_ HB).out hb)
              (try clear hb)
              (try clear hb2)
              (try clear hk)
              (try clear hi)
              refine hK.out _ _ ⟨bc_ BK175 0, bc_ BK175 1, bc_ BK175 2, HS3_⟩ (fun hHeld => ?_)
              clear hK K
              refine nm_ 17 ?_
              refine one_ (i := 3) (N := some 18) (bm_ 20 255) rfl rfl (one_of HT_.out (by kernel_rfl)) (by decide) (fun K hK => ?_)
              refine gs_ Tryd.func30 #[.agg #[.bool t186, .string t187, .int .i64 t188]] ?_
              with_reducible refine (dec_Dec_Plain.calls k1 t186 t187 t188 t189 _ A16.out).mono ?_
              rintro e w41 ⟨rfl, hb⟩
              have HS3_ := (hb.cell (World.block_lt_of_cell? _ _ (hHeld.2.2.2))).trans (hHeld.2.2.2)
              refine ⟨_, rfl, ?_⟩
              replace HO_3 := Aside0.mk (Kd.R_below (by (with_reducible repeat (first | apply Kd.R_alloc | apply Kd.R_drewN | apply Kd.R_drew)); exact HO_3.out) hb)
              replace HO_4 := Aside0.mk (Kd.R_below (by (with_reducible repeat (first | apply Kd.R_alloc | apply Kd.R_drewN | apply Kd.R_drew)); exact HO_4.out) hb)
              replace BK175 := bb_ BK175 hb
              replace BK179 := bb_ BK179 hb
              replace HB := Aside0.mk (below_step (bl_ HB).out hb)
              (try clear hb)
              (try clear hb2)
              (try clear hk)
              (try clear hi)
              refine hK.out _ _ ⟨bc_ BK175 0, bc_ BK175 1, bc_ BK175 2, HS3_⟩ (fun hHeld => ?_)
              clear hK K
              refine nm_ 18 ?_
              refine pu_ 8 23 (bm_ 20 511) HT_ ?_
              refine pu_ 9 24 (bm_ 20 1023) HT_ ?_
              refine pn_ 10 25 (bm_ 20 2047) HT_ ?_
              refine pn_ 11 26 (bm_ 20 4095) HT_ ?_
              refine pn_ 12 27 (bm_ 20 8191) HT_ ?_
              refine pn_ 13 28 (bm_ 20 16383) HT_ ?_
              refine pn_ 14 29 (bm_ 20 32767) HT_ ?_
              refine pn_ 15 30 (bm_ 20 65535) HT_ ?_
              refine pn_ 16 31 (bm_ 20 131071) HT_ ?_
              refine pn_ 17 32 (bm_ 20 262143) HT_ ?_
              refine pn_ 18 33 (bm_ 20 524287) HT_ ?_
              refine pu_ 19 34 (bm_ 20 1048575) HT_ ?_
              refine done_ (done_of HT_.out (by kernel_rfl)) ?_
              try go_wp2
              go_ret
              exact ⟨by first | rfl | (simp [errW_none, errW_some] <;> rfl) | (simp [*, errW_none, errW_some] <;> first | rfl | exact given_isEmpty _ | exact (given_isEmpty _).symm), by repeat (first | (with_reducible first | exact HB.out | apply below_alloc | apply pw_below_drewN | apply below_drew1 | refine below_set ?_ GE175.out | refine below_set ?_ GE179.out) | exact HB.out)⟩
          · rw [if_neg c18] at H
            exact absurd H (by simp)
        · rw [if_neg c17] at H
          exact absurd H (by simp)
      · rw [if_neg c14] at H
        have c14b0 : decide (x5_1 ≤ 6) = false := decide_eq_false c14
        clear c14
        obtain rfl := Option.some.inj H
        go_wp2
        go_ret
        exact ⟨by first | rfl | (simp [errW_none, errW_some] <;> rfl) | (simp [*, errW_none, errW_some] <;> first | rfl | exact given_isEmpty _ | exact (given_isEmpty _).symm), by repeat (first | (with_reducible first | exact HB.out | apply below_alloc | apply pw_below_drewN | apply below_drew1 | refine below_set ?_ GE175.out | refine below_set ?_ GE179.out) | exact HB.out)⟩

/-! ### florinlaw02_Raw_Few: function 11 -/
def florinlaw02_Raw_Few.f (a0_0 : Bool) (l0_1 : List Int) (a0_2 : Int) (a1 : Int) : Option (Bool) := if (l0_1.length : Int) ≤ a1 then (if a0_2 ≥ (wrap64 (-a1)) then (some (decide (a0_2 ≤ a1))) else (some false)) else (some false)
set_option maxHeartbeats 8000000 in
set_option maxRecDepth 100000 in
theorem florinlaw02_Raw_Few.calls (a0_0 : Bool) (A0_1 : Option Addr) (c0_1 : Nat) (l0_1 : List Int) (a0_2 : Int) (a1 : Int) (r : Bool) (w : World) (hr0_1 : Kd.C (Kd.int .u8) w A0_1 l0_1.length l0_1) (hc0_1 : l0_1.length ≤ c0_1) (h : florinlaw02_Raw_Few.f a0_0 l0_1 a0_2 a1 = some r) :
    Calls Tryd.prog 11 #[.agg #[.bool a0_0, .slice A0_1 l0_1.length c0_1, .int .i64 a0_2], .int .i64 a1] w fun e w' => e = .returned (.bool r) ∧ Below w.heap.size w w' := by
  have hu24 := Tryd.underlying24
  have HR0_1 := Aside0.mk hr0_1
  have HC0_1 := Aside0.mk hc0_1
  clear hr0_1 hc0_1
  have HB := Aside0.mk (Below.refl w.heap.size w)
  have H : (if (l0_1.length : Int) ≤ a1 then (if a0_2 ≥ (wrap64 (-a1)) then (some (decide (a0_2 ≤ a1))) else (some false)) else (some false)) = some r := h
  clear h
  by_cases c3 : (l0_1.length : Int) ≤ a1
  · rw [if_pos c3] at H
    have c3b0 : decide ((l0_1.length : Int) ≤ a1) = true := decide_eq_true c3
    clear c3
    by_cases c4 : a0_2 ≥ (wrap64 (-a1))
    · rw [if_pos c4] at H
      have c4b0 : decide ((wrap64 (-a1)) ≤ a0_2) = true := decide_eq_true c4
      clear c4
      obtain rfl := Option.some.inj H
      go_enter Tryd.func11, Tryd.ntmps11
      go_wp2_with (first | ((with_reducible refine gate_dst (N := 2) rfl ?_); refine box_event ?hg (N := 2) ?hd (cs := #[.bool a0_0, .slice A0_1 l0_1.length c0_1, .int .i64 a0_2]) (t := 24) ?hr ?_; (case hd => rfl); (case hg => rfl); (case hr => first | (go_simp; done) | (go_simp; rfl)); intro gb196 hg w5 hbox hb; have n0_ := Aside0.mk (below_step (bl_ HB).out hb); have n1_ := Aside0.mk (hbox); have n2_ := Aside0.mk ((by rw [hg]; exact (below_size (bl_ HB).out) : w.heap.size ≤ gb196)); have n3_ := Aside0.mk ((by rw [hg]; exact (below_size (bl_ HB).out) : w.heap.size ≤ gb196)); clear HB; have HB := n0_; have BK196 := n1_; have GW196 := n2_; have GE196 := n3_; clear n0_ n1_ n2_ n3_; clear hb hbox hg; have hcz6_0 : w5.cell? ⟨gb196, 0, none⟩ = some (.bool a0_0) := bc_ BK196 0; have hcz6_1 : w5.cell? ⟨gb196, 1, none⟩ = some (.slice A0_1 l0_1.length c0_1) := bc_ BK196 1; have hcz6_2 : w5.cell? ⟨gb196, 2, none⟩ = some (.int .i64 a0_2) := bc_ BK196 2; have hfz6_0 := blk_frozen BK196.out 0; have hfz6_1 := blk_frozen BK196.out 1; have hfz6_2 := blk_frozen BK196.out 2))
      go_ret
      exact ⟨by first | rfl | (simp [errW_none, errW_some] <;> rfl) | (simp [*, errW_none, errW_some] <;> first | rfl | exact given_isEmpty _ | exact (given_isEmpty _).symm), by repeat (first | (with_reducible first | exact HB.out | apply below_alloc | apply pw_below_drewN | apply below_drew1 | refine below_set ?_ GE196.out) | exact HB.out)⟩
    · rw [if_neg c4] at H
      have c4b0 : decide ((wrap64 (-a1)) ≤ a0_2) = false := decide_eq_false c4
      clear c4
      obtain rfl := Option.some.inj H
      go_enter Tryd.func11, Tryd.ntmps11
      go_wp2_with (first | ((with_reducible refine gate_dst (N := 2) rfl ?_); refine box_event ?hg (N := 2) ?hd (cs := #[.bool a0_0, .slice A0_1 l0_1.length c0_1, .int .i64 a0_2]) (t := 24) ?hr ?_; (case hd => rfl); (case hg => rfl); (case hr => first | (go_simp; done) | (go_simp; rfl)); intro gb196 hg w7 hbox hb; have n0_ := Aside0.mk (below_step (bl_ HB).out hb); have n1_ := Aside0.mk (hbox); have n2_ := Aside0.mk ((by rw [hg]; exact (below_size (bl_ HB).out) : w.heap.size ≤ gb196)); have n3_ := Aside0.mk ((by rw [hg]; exact (below_size (bl_ HB).out) : w.heap.size ≤ gb196)); clear HB; have HB := n0_; have BK196 := n1_; have GW196 := n2_; have GE196 := n3_; clear n0_ n1_ n2_ n3_; clear hb hbox hg; have hcz8_0 : w7.cell? ⟨gb196, 0, none⟩ = some (.bool a0_0) := bc_ BK196 0; have hcz8_1 : w7.cell? ⟨gb196, 1, none⟩ = some (.slice A0_1 l0_1.length c0_1) := bc_ BK196 1; have hcz8_2 : w7.cell? ⟨gb196, 2, none⟩ = some (.int .i64 a0_2) := bc_ BK196 2; have hfz8_0 := blk_frozen BK196.out 0; have hfz8_1 := blk_frozen BK196.out 1; have hfz8_2 := blk_frozen BK196.out 2))
      go_ret
      exact ⟨by first | rfl | (simp [errW_none, errW_some] <;> rfl) | (simp [*, errW_none, errW_some] <;> first | rfl | exact given_isEmpty _ | exact (given_isEmpty _).symm), by repeat (first | (with_reducible first | exact HB.out | apply below_alloc | apply pw_below_drewN | apply below_drew1 | refine below_set ?_ GE196.out) | exact HB.out)⟩
  · rw [if_neg c3] at H
    have c3b0 : decide ((l0_1.length : Int) ≤ a1) = false := decide_eq_false c3
    clear c3
    obtain rfl := Option.some.inj H
    go_enter Tryd.func11, Tryd.ntmps11
    go_wp2_with (first | ((with_reducible refine gate_dst (N := 2) rfl ?_); refine box_event ?hg (N := 2) ?hd (cs := #[.bool a0_0, .slice A0_1 l0_1.length c0_1, .int .i64 a0_2]) (t := 24) ?hr ?_; (case hd => rfl); (case hg => rfl); (case hr => first | (go_simp; done) | (go_simp; rfl)); intro gb196 hg w9 hbox hb; have n0_ := Aside0.mk (below_step (bl_ HB).out hb); have n1_ := Aside0.mk (hbox); have n2_ := Aside0.mk ((by rw [hg]; exact (below_size (bl_ HB).out) : w.heap.size ≤ gb196)); have n3_ := Aside0.mk ((by rw [hg]; exact (below_size (bl_ HB).out) : w.heap.size ≤ gb196)); clear HB; have HB := n0_; have BK196 := n1_; have GW196 := n2_; have GE196 := n3_; clear n0_ n1_ n2_ n3_; clear hb hbox hg; have hcz10_0 : w9.cell? ⟨gb196, 0, none⟩ = some (.bool a0_0) := bc_ BK196 0; have hcz10_1 : w9.cell? ⟨gb196, 1, none⟩ = some (.slice A0_1 l0_1.length c0_1) := bc_ BK196 1; have hcz10_2 : w9.cell? ⟨gb196, 2, none⟩ = some (.int .i64 a0_2) := bc_ BK196 2; have hfz10_0 := blk_frozen BK196.out 0; have hfz10_1 := blk_frozen BK196.out 1; have hfz10_2 := blk_frozen BK196.out 2))
    go_ret
    exact ⟨by first | rfl | (simp [errW_none, errW_some] <;> rfl) | (simp [*, errW_none, errW_some] <;> first | rfl | exact given_isEmpty _ | exact (given_isEmpty _).symm), by repeat (first | (with_reducible first | exact HB.out | apply below_alloc | apply pw_below_drewN | apply below_drew1 | refine below_set ?_ GE196.out) | exact HB.out)⟩

end Go.Proofs.YtoegmienlhgjnaaDoor.P
