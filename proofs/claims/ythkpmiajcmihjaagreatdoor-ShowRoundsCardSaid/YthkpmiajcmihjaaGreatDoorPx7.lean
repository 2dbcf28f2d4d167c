-- written by a program of this session (wip/p2)
import Derived.Test.YthkpmiajcmihjaaGreatDoorPx0
import Derived.Test.YthkpmiajcmihjaaGreatDoorPx2
import Derived.Test.YthkpmiajcmihjaaGreatDoorPx6
namespace Go.Proofs.YthkpmiajcmihjaaGreatDoor.P
open Go.RowKit Go.Proofs.YthkpmiajcmihjaaGreatDoorW.PrintWords Go.Proofs.YthkpmiajcmihjaaGreatDoorW.PrintLast Go.Proofs.YthkpmiajcmihjaaGreatDoorW.PrintMore
attribute [local go_sem] max2_int min2_int max_two min_two max_three min_three max_four min_four   -- for this text's walks alone
set_option linter.unusedVariables false
set_option linter.unusedSimpArgs false

/-! ### show_Vis_Text: function 17 -/
theorem show_Vis_Text.laysWS : Go.Proofs.Lays.n166 Tryz.prog Tryz.lays105_ren := by
  have L := Tryz.lays105
  exact { mixed := L.mixed, f166 := L.f166, f240 := L.f240, f276 := L.f276,
          t0 := L.t0, a0 := L.a0, z0 := L.z0, v0 := L.v0, t3 := L.t3, a3 := L.a3, z3 := L.z3, v3 := L.v3, t4 := L.t4, a4 := L.a4, z4 := L.z4, v4 := L.v4,
          t9 := L.t9, a9 := L.a9, z9 := L.z9, v9 := L.v9, t20 := L.t20, a20 := L.a20, z20 := L.z20, v20 := L.v20, t37 := L.t37, a37 := L.a37, z37 := L.z37, v37 := L.v37,
          t70 := L.t70, a70 := L.a70, z70 := L.z70, v70 := L.v70, t72 := L.t72, a72 := L.a72, z72 := L.z72, v72 := L.v72, t75 := L.t75, a75 := L.a75, z75 := L.z75, v75 := L.v75, t164 := L.t164, a164 := L.a164, z164 := L.z164, v164 := L.v164 }
def show_Vis_Text.renWB : Go.Shelf.Ren := ⟨fun | 167 => 40 | n => Tryz.lays105_ren.f n, Tryz.lays105_ren.t, Tryz.lays105_ren.g⟩
set_option maxRecDepth 100000 in
theorem show_Vis_Text.laysWB : Go.Proofs.Lays.n167 Tryz.prog show_Vis_Text.renWB := by
  have L := Tryz.lays105
  exact { mixed := L.mixed, f167 := Tryz.func40.trans (congrArg some (by kernel_rfl)), f240 := L.f240, f276 := L.f276,
          t0 := L.t0, a0 := L.a0, z0 := L.z0, v0 := L.v0, t4 := L.t4, a4 := L.a4, z4 := L.z4, v4 := L.v4, t5 := L.t5, a5 := L.a5, z5 := L.z5, v5 := L.v5,
          t9 := L.t9, a9 := L.a9, z9 := L.z9, v9 := L.v9, t20 := L.t20, a20 := L.a20, z20 := L.z20, v20 := L.v20, t37 := L.t37, a37 := L.a37, z37 := L.z37, v37 := L.v37,
          t70 := L.t70, a70 := L.a70, z70 := L.z70, v70 := L.v70, t72 := L.t72, a72 := L.a72, z72 := L.z72, v72 := L.v72, t75 := L.t75, a75 := L.a75, z75 := L.z75, v75 := L.v75, t164 := L.t164, a164 := L.a164, z164 := L.z164, v164 := L.v164 }
set_option maxRecDepth 100000 in
theorem show_Vis_Text.extraWB : Builder.Extra Tryz.prog show_Vis_Text.renWB := by
  have X := Tryz.Builder_Extra_105
  exact { sizeBuilder := X.sizeBuilder, liesBuilder := X.liesBuilder, t5 := X.t5, a5 := X.a5, z5 := X.z5, v5 := X.v5, infoByte := X.infoByte, cellsByte := X.cellsByte, sizeByte := X.sizeByte, neB5 := X.neB5 }
set_option maxRecDepth 100000 in
theorem show_Vis_Text.WriteByte (B b : Nat) (bs : List Value) (c : Int) (w : World) (h : Lib.IsBuilder 69 5 B b bs w) (hlen : bs.length + 1 ≤ 140737488355328) (hBw : B ≤ w.heap.size) :
    Calls Tryz.prog 40 #[.pointer (some ⟨b, 0, none⟩), .int .u8 c] w fun e w' => e = .returned .nilIface ∧ (Lib.BuilderAt 69 5 B b (.pointer (some ⟨b, 0, none⟩)) (bs ++ [.int .u8 c]) w' ∧ Below B w w') := Any.Builder_WriteByte show_Vis_Text.laysWB show_Vis_Text.extraWB B b bs c w h hlen hBw


theorem show_Vis_Text.WriteString (B b : Nat) (bs : List Value) (s : ByteArray) (w : World) (h : Lib.IsBuilder 69 5 B b bs w) (hlen : bs.length + s.size ≤ 140737488355328) (hBw : B ≤ w.heap.size) :
    Calls Tryz.prog 41 #[.pointer (some ⟨b, 0, none⟩), .string s] w fun e w' => e = .returned (.tuple #[.int .i64 s.size, .nilIface]) ∧ (Lib.BuilderAt 69 5 B b (.pointer (some ⟨b, 0, none⟩)) (bs ++ Lib.strCells s) w' ∧ Below B w w') := Any.Builder_WriteString show_Vis_Text.laysWS Tryz.Builder_Extra_105 B b bs s w h hlen hBw
def show_Vis_Text.L (neg : Bool) (i f : List UInt8) : List UInt8 := ((if neg = true then [45] else []) ++ i) ++ (if f = [] then [] else 46 :: f)
def show_Vis_Text.f (a0_0 : Bool) (a0_1 a0_2 : ByteArray) : Option ByteArray := if a0_1.size + a0_2.size + 2 ≤ 140737488355328 then some ⟨(show_Vis_Text.L a0_0 a0_1.data.toList a0_2.data.toList).toArray⟩ else none
theorem alloc_size_ (w : World) (o : Obj) : (w.alloc o).heap.size = w.heap.size + 1 := by
  show (w.heap.push o).size = _
  exact Array.size_push _
theorem alloc_new_ (w : World) (o : Obj) : (w.alloc o).heap[w.heap.size]? = some o := by
  show (w.heap.push o)[w.heap.size]? = _
  simp
theorem show_Vis_Text.kept {n : Nat} {W0 W1 : World} {o : Obj} (h : W0.heap[n]? = some o) (hb : Below (n + 1) W0 W1) : W1.heap[n]? = some o := (hb.block n (Nat.lt_succ_self n)).trans h
theorem show_Vis_Text.cells_app (a : List UInt8) (s : ByteArray) : Lib.byteCells a ++ Lib.strCells s = Lib.byteCells (a ++ s.data.toList) := by
  unfold Lib.byteCells Lib.strCells
  simp
theorem show_Vis_Text.list_ (s : ByteArray) : s.toList = s.data.toList := by
  rw [ByteArray.toList_eq]
set_option maxHeartbeats 1000000 in
theorem show_Vis_Text.calls (a0_0 : Bool) (a0_1 a0_2 : ByteArray) (r : ByteArray) (w : World) (h : show_Vis_Text.f a0_0 a0_1 a0_2 = some r) :
    Calls Tryz.prog 17 #[.agg #[.bool a0_0, .string a0_1, .string a0_2]] w fun e w' => e = .returned (.string r) ∧ Below w.heap.size w w' := by
  unfold show_Vis_Text.f at h
  split at h
  case isFalse => cases h
  rename_i hsz
  obtain rfl := Option.some.inj h
  have hs1 : (w.alloc (.cells #[.bool a0_0, .string a0_1, .string a0_2] 38)).heap.size = w.heap.size + 1 := alloc_size_ _ _
  have hb0 : Lib.IsBuilder 69 5 (w.heap.size + 1) (w.heap.size + 1) (Lib.byteCells []) ((w.alloc (.cells #[.bool a0_0, .string a0_1, .string a0_2] 38)).alloc (.cells #[.pointer none, .slice none 0 0] 69)) := by
    rw [← hs1]; exact Lib.fresh_isBuilder 69 5 (w.alloc _)
  have bk0 : ((w.alloc (.cells #[.bool a0_0, .string a0_1, .string a0_2] 38)).alloc (.cells #[.pointer none, .slice none 0 0] 69)).heap[w.heap.size]? = some (.cells #[.bool a0_0, .string a0_1, .string a0_2] 38 (0, 0)) := by
    exact blk_alloc (alloc_new_ w _) _
  have bel0 : Below w.heap.size w ((w.alloc (.cells #[.bool a0_0, .string a0_1, .string a0_2] 38)).alloc (.cells #[.pointer none, .slice none 0 0] 69)) :=
    ((Below.refl _ _).alloc (Nat.le_refl _) _).alloc (by rw [hs1]; exact Nat.le_succ _) _
  have hs2 : w.heap.size + 1 ≤ ((w.alloc (.cells #[.bool a0_0, .string a0_1, .string a0_2] 38)).alloc (.cells #[.pointer none, .slice none 0 0] 69)).heap.size := by rw [alloc_size_, alloc_size_]; omega
  have hb0' := Aside0.mk hb0
  have bk0' := Aside0.mk bk0
  have bel0' := Aside0.mk bel0
  have hs2' := Aside0.mk hs2
  have e0 := Aside0.mk (rfl : (w.alloc (.cells #[.bool a0_0, .string a0_1, .string a0_2] 38)).alloc (.cells #[.pointer none, .slice none 0 0] 69) = _)
  clear hb0 bk0 bel0 hs2 hs1 e0
  by_cases hf : a0_2.data.toList = []
  · have hd : a0_2.toList.isEmpty = true := by rw [show_Vis_Text.list_]; rw [hf]; rfl
    cases a0_0 with
    | true =>
      go_enter Tryz.func17, Tryz.ntmps17
      go_wp2_with fail
      refine (show_Vis_Text.WriteByte (w.heap.size + 1) (w.heap.size + 1) _ 45 _ hb0'.out (by show 0 + 1 ≤ 140737488355328; decide) hs2'.out).mono ?_
      rintro e W1 ⟨rfl, hb1, bel1⟩
      have bk1 := Aside0.mk (show_Vis_Text.kept bk0'.out bel1)
      have hb1' := Aside0.mk (show Lib.IsBuilder 69 5 (w.heap.size + 1) (w.heap.size + 1) (Lib.byteCells [45]) W1 from .inr hb1)
      have hs3 := Aside0.mk (Nat.le_trans hs2'.out bel1.size)
      have bel1' := Aside0.mk ((bel0'.out).trans (bel1.mono (Nat.le_succ _)))
      clear hb1 bel1 hb0' bk0' bel0' hs2'
      have c1 : W1.cell? ⟨w.heap.size, 1, none⟩ = some (.string a0_1) := bc_ bk1 1
      have c2 : W1.cell? ⟨w.heap.size, 2, none⟩ = some (.string a0_2) := bc_ bk1 2
      have f1 := blk_frozen bk1.out 1
      have f2 := blk_frozen bk1.out 2
      go_wp2_with fail
      refine (show_Vis_Text.WriteString (w.heap.size + 1) (w.heap.size + 1) _ a0_1 _ (hb1'.out) (by show 1 + a0_1.size ≤ 140737488355328; omega) hs3.out).mono ?_
      rintro e W2 ⟨rfl, hb2, bel2⟩
      have bk2 := Aside0.mk (show_Vis_Text.kept (bk1.out) bel2)
      rw [show_Vis_Text.cells_app] at hb2
      have hb2' := Aside0.mk hb2
      have hs4 := Aside0.mk (Nat.le_trans (hs3.out) bel2.size)
      have bel2' := Aside0.mk ((bel1'.out).trans (bel2.mono (Nat.le_succ _)))
      clear hb2 bel2 hb1' bk1 bel1' hs3 c1 c2 f1 f2
      have c2 : W2.cell? ⟨w.heap.size, 2, none⟩ = some (.string a0_2) := bc_ bk2 2
      have f2 := blk_frozen bk2.out 2
      go_wp2_with fail
      refine (Tryz.Builder_String_any (w.heap.size + 1) (w.heap.size + 1) _ _ (.inr hb2'.out) hs4.out).mono ?_
      rintro e W4 ⟨rfl, bel4⟩
      have bel4' := Aside0.mk ((bel2'.out).trans (bel4.mono (Nat.le_succ _)))
      clear bel4
      go_wp2
      go_ret
      refine ⟨?_, bel4'.out⟩
      simp [show_Vis_Text.L, hf]
    | false =>
      go_enter Tryz.func17, Tryz.ntmps17
      go_wp2_with fail
      refine (show_Vis_Text.WriteString (w.heap.size + 1) (w.heap.size + 1) _ a0_1 _ (hb0'.out) (by show 0 + a0_1.size ≤ 140737488355328; omega) hs2'.out).mono ?_
      rintro e W2 ⟨rfl, hb2, bel2⟩
      have bk2 := Aside0.mk (show_Vis_Text.kept (bk0'.out) bel2)
      rw [show_Vis_Text.cells_app] at hb2
      have hb2' := Aside0.mk hb2
      have hs4 := Aside0.mk (Nat.le_trans (hs2'.out) bel2.size)
      have bel2' := Aside0.mk ((bel0'.out).trans (bel2.mono (Nat.le_succ _)))
      clear hb2 bel2 hb0' bk0' bel0' hs2'
      have c2 : W2.cell? ⟨w.heap.size, 2, none⟩ = some (.string a0_2) := bc_ bk2 2
      have f2 := blk_frozen bk2.out 2
      go_wp2_with fail
      refine (Tryz.Builder_String_any (w.heap.size + 1) (w.heap.size + 1) _ _ (.inr hb2'.out) hs4.out).mono ?_
      rintro e W4 ⟨rfl, bel4⟩
      have bel4' := Aside0.mk ((bel2'.out).trans (bel4.mono (Nat.le_succ _)))
      clear bel4
      go_wp2
      go_ret
      refine ⟨?_, bel4'.out⟩
      simp [show_Vis_Text.L, hf]
  · have hd : a0_2.toList.isEmpty = false := by rw [show_Vis_Text.list_]; cases h : a0_2.data.toList with | nil => exact absurd h hf | cons _ _ => rfl
    cases a0_0 with
    | true =>
      go_enter Tryz.func17, Tryz.ntmps17
      go_wp2_with fail
      refine (show_Vis_Text.WriteByte (w.heap.size + 1) (w.heap.size + 1) _ 45 _ hb0'.out (by show 0 + 1 ≤ 140737488355328; decide) hs2'.out).mono ?_
      rintro e W1 ⟨rfl, hb1, bel1⟩
      have bk1 := Aside0.mk (show_Vis_Text.kept bk0'.out bel1)
      have hb1' := Aside0.mk (show Lib.IsBuilder 69 5 (w.heap.size + 1) (w.heap.size + 1) (Lib.byteCells [45]) W1 from .inr hb1)
      have hs3 := Aside0.mk (Nat.le_trans hs2'.out bel1.size)
      have bel1' := Aside0.mk ((bel0'.out).trans (bel1.mono (Nat.le_succ _)))
      clear hb1 bel1 hb0' bk0' bel0' hs2'
      have c1 : W1.cell? ⟨w.heap.size, 1, none⟩ = some (.string a0_1) := bc_ bk1 1
      have c2 : W1.cell? ⟨w.heap.size, 2, none⟩ = some (.string a0_2) := bc_ bk1 2
      have f1 := blk_frozen bk1.out 1
      have f2 := blk_frozen bk1.out 2
      go_wp2_with fail
      refine (show_Vis_Text.WriteString (w.heap.size + 1) (w.heap.size + 1) _ a0_1 _ (hb1'.out) (by show 1 + a0_1.size ≤ 140737488355328; omega) hs3.out).mono ?_
      rintro e W2 ⟨rfl, hb2, bel2⟩
      have bk2 := Aside0.mk (show_Vis_Text.kept (bk1.out) bel2)
      rw [show_Vis_Text.cells_app] at hb2
      have hb2' := Aside0.mk hb2
      have hs4 := Aside0.mk (Nat.le_trans (hs3.out) bel2.size)
      have bel2' := Aside0.mk ((bel1'.out).trans (bel2.mono (Nat.le_succ _)))
      clear hb2 bel2 hb1' bk1 bel1' hs3 c1 c2 f1 f2
      have c2 : W2.cell? ⟨w.heap.size, 2, none⟩ = some (.string a0_2) := bc_ bk2 2
      have f2 := blk_frozen bk2.out 2
      go_wp2_with fail
      refine (show_Vis_Text.WriteString (w.heap.size + 1) (w.heap.size + 1) _ _ _ (.inr hb2'.out) (by rw [Lib.byteCells_length, ByteArray.size_append, show (⟨#[46]⟩ : ByteArray).size = 1 from rfl]; simp; omega) hs4.out).mono ?_
      rintro e W3 ⟨rfl, hb3, bel3⟩
      rw [show_Vis_Text.cells_app] at hb3
      have hb3' := Aside0.mk hb3
      have hs5 := Aside0.mk (Nat.le_trans (hs4.out) bel3.size)
      have bel3' := Aside0.mk ((bel2'.out).trans (bel3.mono (Nat.le_succ _)))
      clear hb3 bel3 hb2' bk2 bel2' hs4 c2 f2
      go_wp2_with fail
      refine (Tryz.Builder_String_any (w.heap.size + 1) (w.heap.size + 1) _ _ (.inr hb3'.out) hs5.out).mono ?_
      rintro e W4 ⟨rfl, bel4⟩
      have bel4' := Aside0.mk ((bel3'.out).trans (bel4.mono (Nat.le_succ _)))
      clear bel4
      go_wp2
      go_ret
      refine ⟨?_, bel4'.out⟩
      simp [show_Vis_Text.L, hf]
    | false =>
      go_enter Tryz.func17, Tryz.ntmps17
      go_wp2_with fail
      refine (show_Vis_Text.WriteString (w.heap.size + 1) (w.heap.size + 1) _ a0_1 _ (hb0'.out) (by show 0 + a0_1.size ≤ 140737488355328; omega) hs2'.out).mono ?_
      rintro e W2 ⟨rfl, hb2, bel2⟩
      have bk2 := Aside0.mk (show_Vis_Text.kept (bk0'.out) bel2)
      rw [show_Vis_Text.cells_app] at hb2
      have hb2' := Aside0.mk hb2
      have hs4 := Aside0.mk (Nat.le_trans (hs2'.out) bel2.size)
      have bel2' := Aside0.mk ((bel0'.out).trans (bel2.mono (Nat.le_succ _)))
      clear hb2 bel2 hb0' bk0' bel0' hs2'
      have c2 : W2.cell? ⟨w.heap.size, 2, none⟩ = some (.string a0_2) := bc_ bk2 2
      have f2 := blk_frozen bk2.out 2
      go_wp2_with fail
      refine (show_Vis_Text.WriteString (w.heap.size + 1) (w.heap.size + 1) _ _ _ (.inr hb2'.out) (by rw [Lib.byteCells_length, ByteArray.size_append, show (⟨#[46]⟩ : ByteArray).size = 1 from rfl]; simp; omega) hs4.out).mono ?_
      rintro e W3 ⟨rfl, hb3, bel3⟩
      rw [show_Vis_Text.cells_app] at hb3
      have hb3' := Aside0.mk hb3
      have hs5 := Aside0.mk (Nat.le_trans (hs4.out) bel3.size)
      have bel3' := Aside0.mk ((bel2'.out).trans (bel3.mono (Nat.le_succ _)))
      clear hb3 bel3 hb2' bk2 bel2' hs4 c2 f2
      go_wp2_with fail
      refine (Tryz.Builder_String_any (w.heap.size + 1) (w.heap.size + 1) _ _ (.inr hb3'.out) hs5.out).mono ?_
      rintro e W4 ⟨rfl, bel4⟩
      have bel4' := Aside0.mk ((bel3'.out).trans (bel4.mono (Nat.le_succ _)))
      clear bel4
      go_wp2
      go_ret
      refine ⟨?_, bel4'.out⟩
      simp [show_Vis_Text.L, hf]

/-! ### florinlaw04_head: function 4 -/
def florinlaw04_head.f (k : Nat)  : Option (Bool) := (dec_Made.f k false (⟨#[49, 50, 51, 52, 53]⟩ : ByteArray) (-1)).bind fun bt258 => ((show_Prec_Apply.f k 0 2 2 false (⟨#[]⟩ : ByteArray) 0 0 0 bt258.1 bt258.2.1 bt258.2.2).bind fun bt262 => ((show_Prec_Apply.f k 1 1 2 false (⟨#[]⟩ : ByteArray) 0 0 0 bt258.1 bt258.2.1 bt258.2.2).bind fun bt267 => (if bt262.2.2.2 = 0 then (if bt267.2.2.2 = 0 then ((show_Vis_Text.f bt262.1 bt262.2.1 bt262.2.2.1).bind fun t272 => (if t272.toList = ([49, 50, 51, 52, 46, 53, 48] : List UInt8) then ((show_Vis_Text.f bt267.1 bt267.2.1 bt267.2.2.1).bind fun t273 => (some (t273.toList == ([49, 50, 48, 48] : List UInt8)))) else (some false))) else (some false)) else (some false))))
theorem florinlaw04_head.mono : ∀ k, LeO (florinlaw04_head.f k ) (florinlaw04_head.f (k + 1) ) := by
  intro  k
  unfold florinlaw04_head.f
  repeat' first
      | (with_reducible exact dec_Made.mono _ _ _ _)
      | (with_reducible exact show_Prec_Apply.mono _ _ _ _ _ _ _ _ _ _ _ _)
      | (with_reducible exact LeO.refl _)
      | (with_reducible exact LeO.none _)
      | (with_reducible refine LeO.ite ?_ ?_)
      | (with_reducible refine LeO.bind ?_ (fun _ => ?_))
      | exact dec_Made.mono _ _ _ _
      | exact show_Prec_Apply.mono _ _ _ _ _ _ _ _ _ _ _ _
      | exact LeO.none _
      | refine LeO.ite ?_ ?_
      | refine LeO.bind ?_ (fun _ => ?_)
set_option maxHeartbeats 8000000 in
set_option maxRecDepth 100000 in
theorem florinlaw04_head.calls (k : Nat)  (r : Bool) (w : World) (h : florinlaw04_head.f k  = some r) :
    Calls Tryz.prog 4 #[] w fun e w' => e = .returned (.bool r) ∧ Below w.heap.size w w' := by
  have hu31 := Tryz.underlying31
  have hu34 := Tryz.underlying34
  have hu38 := Tryz.underlying38
  have HB := Aside0.mk (Below.refl w.heap.size w)
  have H : ((dec_Made.f k false (⟨#[49, 50, 51, 52, 53]⟩ : ByteArray) (-1)).bind fun bt258 => ((show_Prec_Apply.f k 0 2 2 false (⟨#[]⟩ : ByteArray) 0 0 0 bt258.1 bt258.2.1 bt258.2.2).bind fun bt262 => ((show_Prec_Apply.f k 1 1 2 false (⟨#[]⟩ : ByteArray) 0 0 0 bt258.1 bt258.2.1 bt258.2.2).bind fun bt267 => (if bt262.2.2.2 = 0 then (if bt267.2.2.2 = 0 then ((show_Vis_Text.f bt262.1 bt262.2.1 bt262.2.2.1).bind fun t272 => (if t272.toList = ([49, 50, 51, 52, 46, 53, 48] : List UInt8) then ((show_Vis_Text.f bt267.1 bt267.2.1 bt267.2.2.1).bind fun t273 => (some (t273.toList == ([49, 50, 48, 48] : List UInt8)))) else (some false))) else (some false)) else (some false))))) = some r := h
  clear h
  replace H := Option.bind_eq_some_iff.mp H
  obtain ⟨⟨t258, t259, t260⟩, A10, H⟩ := H
  replace H : ((show_Prec_Apply.f k 0 2 2 false (⟨#[]⟩ : ByteArray) 0 0 0 t258 t259 t260).bind fun bt262 => ((show_Prec_Apply.f k 1 1 2 false (⟨#[]⟩ : ByteArray) 0 0 0 t258 t259 t260).bind fun bt267 => (if bt262.2.2.2 = 0 then (if bt267.2.2.2 = 0 then ((show_Vis_Text.f bt262.1 bt262.2.1 bt262.2.2.1).bind fun t272 => (if t272.toList = ([49, 50, 51, 52, 46, 53, 48] : List UInt8) then ((show_Vis_Text.f bt267.1 bt267.2.1 bt267.2.2.1).bind fun t273 => (some (t273.toList == ([49, 50, 48, 48] : List UInt8)))) else (some false))) else (some false)) else (some false)))) = some r := H
  have A1 := Aside0.mk A10
  clear A10
  replace H := Option.bind_eq_some_iff.mp H
  obtain ⟨⟨t262, t263, t264, t265⟩, A20, H⟩ := H
  replace H : ((show_Prec_Apply.f k 1 1 2 false (⟨#[]⟩ : ByteArray) 0 0 0 t258 t259 t260).bind fun bt267 => (if t265 = 0 then (if bt267.2.2.2 = 0 then ((show_Vis_Text.f t262 t263 t264).bind fun t272 => (if t272.toList = ([49, 50, 51, 52, 46, 53, 48] : List UInt8) then ((show_Vis_Text.f bt267.1 bt267.2.1 bt267.2.2.1).bind fun t273 => (some (t273.toList == ([49, 50, 48, 48] : List UInt8)))) else (some false))) else (some false)) else (some false))) = some r := H
  have A2 := Aside0.mk A20
  clear A20
  replace H := Option.bind_eq_some_iff.mp H
  obtain ⟨⟨t267, t268, t269, t270⟩, A30, H⟩ := H
  replace H : (if t265 = 0 then (if t270 = 0 then ((show_Vis_Text.f t262 t263 t264).bind fun t272 => (if t272.toList = ([49, 50, 51, 52, 46, 53, 48] : List UInt8) then ((show_Vis_Text.f t267 t268 t269).bind fun t273 => (some (t273.toList == ([49, 50, 48, 48] : List UInt8)))) else (some false))) else (some false)) else (some false)) = some r := H
  have A3 := Aside0.mk A30
  clear A30
  by_cases c4 : t265 = 0
  · rw [if_pos c4] at H
    have c4b0 : (t265 == 0) = true := beq_iff_eq.mpr c4
    have c4b1 : (t265 != 0) = false := bne_eq_false_iff_eq.mpr c4
    clear c4
    by_cases c5 : t270 = 0
    · rw [if_pos c5] at H
      have c5b0 : (t270 == 0) = true := beq_iff_eq.mpr c5
      have c5b1 : (t270 != 0) = false := bne_eq_false_iff_eq.mpr c5
      clear c5
      replace H := Option.bind_eq_some_iff.mp H
      obtain ⟨t272, A60, H⟩ := H
      replace H : (if t272.toList = ([49, 50, 51, 52, 46, 53, 48] : List UInt8) then ((show_Vis_Text.f t267 t268 t269).bind fun t273 => (some (t273.toList == ([49, 50, 48, 48] : List UInt8)))) else (some false)) = some r := H
      have A6 := Aside0.mk A60
      clear A60
      by_cases c7 : t272.toList = ([49, 50, 51, 52, 46, 53, 48] : List UInt8)
      · rw [if_pos c7] at H
        have c7b0 : (t272.toList == ([49, 50, 51, 52, 46, 53, 48] : List UInt8)) = true := beq_iff_eq.mpr c7
        have c7b1 : (t272.toList != ([49, 50, 51, 52, 46, 53, 48] : List UInt8)) = false := bne_eq_false_iff_eq.mpr c7
        clear c7
        replace H := Option.bind_eq_some_iff.mp H
        obtain ⟨t273, A80, H⟩ := H
        replace H : (some (t273.toList == ([49, 50, 48, 48] : List UInt8))) = some r := H
        have A8 := Aside0.mk A80
        clear A80
        obtain rfl := Option.some.inj H
        go_enter Tryz.func4, Tryz.ntmps4
        go_wp2_with (first | ((with_reducible refine gate_callee (f := 16) rfl ?_); refine gl_ (some 6) Tryz.func16 #[.bool false, .string (⟨#[49, 50, 51, 52, 53]⟩ : ByteArray), .int .i64 (-1)] ?_; (with_reducible refine (dec_Made.calls k false (⟨#[49, 50, 51, 52, 53]⟩ : ByteArray) (-1) t258 t259 t260 _ A1.out).mono ?_); rintro e w9 ⟨rfl, hb⟩; refine ⟨_, rfl, ?_⟩; replace HB := Aside0.mk (below_step (bl_ HB).out hb); (try clear hb); (try clear hb2); (try clear hk); (try clear hi)) | ((with_reducible refine gate_dst (N := 1) rfl ?_); refine be_ 1 #[.bool false, .string (⟨#[]⟩ : ByteArray), .int .i64 0] 31 ?_; intro gb261 hg w10 hbox hb; have BK261 := Aside0.mk (hbox); have GW261 := sz_ HB hg; have GE261 := sz_ HB hg; replace HB := Aside0.mk (below_step (bl_ HB).out hb); clear hb hbox hg; obtain ⟨hcz11_0, hcz11_1, hcz11_2, hfz11_0, hfz11_1, hfz11_2⟩ := bo3_ BK261) | ((with_reducible refine gate_callee (f := 9) rfl ?_); refine gl_ (some 10) Tryz.func9 #[.agg #[.int .i64 0, .int .i64 2, .int .i64 2, .bool false, .string (⟨#[]⟩ : ByteArray), .int .i64 0, .int .i64 0, .int .i64 0], .agg #[.bool t258, .string t259, .int .i64 t260]] ?_; (with_reducible refine (show_Prec_Apply.calls k 0 2 2 false (⟨#[]⟩ : ByteArray) 0 0 0 t258 t259 t260 t262 t263 t264 t265 _ A2.out).mono ?_); rintro e w12 ⟨rfl, hb⟩; refine ⟨_, rfl, ?_⟩; have n0_ := Aside0.mk (blk_below (g := gb261) (o := .cells #[.bool t258, .string t259, .int .i64 t260] 31 (0, 0)) (by (with_reducible repeat (first | refine blk_drewN ?_ _ | refine blk_drew ?_ | refine blk_alloc ?_ _)); refine blk_put (cs := #[.bool t258, .string t259, .int .i64 0]) ?_ 2 _ rfl; (with_reducible repeat (first | refine blk_drewN ?_ _ | refine blk_drew ?_ | refine blk_alloc ?_ _)); refine blk_put (cs := #[.bool t258, .string (⟨#[]⟩ : ByteArray), .int .i64 0]) ?_ 1 _ rfl; (with_reducible repeat (first | refine blk_drewN ?_ _ | refine blk_drew ?_ | refine blk_alloc ?_ _)); refine blk_put (cs := #[.bool false, .string (⟨#[]⟩ : ByteArray), .int .i64 0]) ?_ 0 _ rfl; (with_reducible repeat (first | refine blk_drewN ?_ _ | refine blk_drew ?_ | refine blk_alloc ?_ _)); exact BK261.out) hb); have n1_ := Aside0.mk (below_step (bl_ HB).out hb); clear BK261; clear HB; have BK261 := n0_; have HB := n1_; clear n0_ n1_; (try clear hb); (try clear hb2); (try clear hk); (try clear hi)) | ((with_reducible refine gate_dst (N := 2) rfl ?_); refine be_ 2 #[.bool false, .string (⟨#[]⟩ : ByteArray), .string (⟨#[]⟩ : ByteArray)] 38 ?_; intro gb266 hg w13 hbox hb; have BK266 := Aside0.mk (hbox); have GW266 := sz_ HB hg; have GE266 := sz_ HB hg; have NB261_266 := na_ BK261 hg; have NB266_261 := nb_ BK261 hg; replace BK261 := bb_ BK261 hb; replace HB := Aside0.mk (below_step (bl_ HB).out hb); clear hb hbox hg; have hnb14 := NB266_261.out; have hnc14 := NB261_266.out; obtain ⟨hcz15_0, hcz15_1, hcz15_2, hfz15_0, hfz15_1, hfz15_2⟩ := bo3_ BK266; obtain ⟨hcz16_0, hcz16_1, hcz16_2, hfz16_0, hfz16_1, hfz16_2⟩ := bo3_ BK261) | ((with_reducible refine gate_callee (f := 9) rfl ?_); refine gl_ (some 16) Tryz.func9 #[.agg #[.int .i64 1, .int .i64 1, .int .i64 2, .bool false, .string (⟨#[]⟩ : ByteArray), .int .i64 0, .int .i64 0, .int .i64 0], .agg #[.bool t258, .string t259, .int .i64 t260]] ?_; (with_reducible refine (show_Prec_Apply.calls k 1 1 2 false (⟨#[]⟩ : ByteArray) 0 0 0 t258 t259 t260 t267 t268 t269 t270 _ A3.out).mono ?_); rintro e w17 ⟨rfl, hb⟩; refine ⟨_, rfl, ?_⟩; have n0_ := Aside0.mk (blk_below (g := gb261) (o := .cells #[.bool t258, .string t259, .int .i64 t260] 31 (0, 0)) (by (with_reducible repeat (first | refine blk_drewN ?_ _ | refine blk_drew ?_ | refine blk_alloc ?_ _)); refine blk_far ?_ NB261_266.out _; (with_reducible repeat (first | refine blk_drewN ?_ _ | refine blk_drew ?_ | refine blk_alloc ?_ _)); refine blk_far ?_ NB261_266.out _; (with_reducible repeat (first | refine blk_drewN ?_ _ | refine blk_drew ?_ | refine blk_alloc ?_ _)); refine blk_far ?_ NB261_266.out _; (with_reducible repeat (first | refine blk_drewN ?_ _ | refine blk_drew ?_ | refine blk_alloc ?_ _)); exact BK261.out) hb); have n1_ := Aside0.mk (blk_below (g := gb266) (o := .cells #[.bool t262, .string t263, .string t264] 38 (0, 0)) (by (with_reducible repeat (first | refine blk_drewN ?_ _ | refine blk_drew ?_ | refine blk_alloc ?_ _)); refine blk_put (cs := #[.bool t262, .string t263, .string (⟨#[]⟩ : ByteArray)]) ?_ 2 _ rfl; (with_reducible repeat (first | refine blk_drewN ?_ _ | refine blk_drew ?_ | refine blk_alloc ?_ _)); refine blk_put (cs := #[.bool t262, .string (⟨#[]⟩ : ByteArray), .string (⟨#[]⟩ : ByteArray)]) ?_ 1 _ rfl; (with_reducible repeat (first | refine blk_drewN ?_ _ | refine blk_drew ?_ | refine blk_alloc ?_ _)); refine blk_put (cs := #[.bool false, .string (⟨#[]⟩ : ByteArray), .string (⟨#[]⟩ : ByteArray)]) ?_ 0 _ rfl; (with_reducible repeat (first | refine blk_drewN ?_ _ | refine blk_drew ?_ | refine blk_alloc ?_ _)); exact BK266.out) hb); have n2_ := Aside0.mk (below_step (bl_ HB).out hb); clear BK261; clear BK266; clear HB; have BK261 := n0_; have BK266 := n1_; have HB := n2_; clear n0_ n1_ n2_; (try clear hb); (try clear hb2); (try clear hk); (try clear hi)) | ((with_reducible refine gate_dst (N := 4) rfl ?_); refine be_ 4 #[.bool false, .string (⟨#[]⟩ : ByteArray), .string (⟨#[]⟩ : ByteArray)] 38 ?_; intro gb271 hg w18 hbox hb; have BK271 := Aside0.mk (hbox); have GW271 := sz_ HB hg; have GE271 := sz_ HB hg; have NB261_271 := na_ BK261 hg; have NB271_261 := nb_ BK261 hg; have NB266_271 := na_ BK266 hg; have NB271_266 := nb_ BK266 hg; replace BK261 := bb_ BK261 hb; replace BK266 := bb_ BK266 hb; replace HB := Aside0.mk (below_step (bl_ HB).out hb); clear hb hbox hg; have hnb19 := NB271_261.out; have hnc19 := NB261_271.out; have hnb20 := NB271_266.out; have hnc20 := NB266_271.out; obtain ⟨hcz21_0, hcz21_1, hcz21_2, hfz21_0, hfz21_1, hfz21_2⟩ := bo3_ BK271; obtain ⟨hcz22_0, hcz22_1, hcz22_2, hfz22_0, hfz22_1, hfz22_2⟩ := bo3_ BK266) | (go_at_call 17; (with_reducible refine (show_Vis_Text.calls t262 t263 t264 t272 _ A6.out).mono ?_); rintro e w23 ⟨rfl, hb⟩; have n0_ := Aside0.mk (blk_below (g := gb261) (o := .cells #[.bool t258, .string t259, .int .i64 t260] 31 (0, 0)) (by (with_reducible repeat (first | refine blk_drewN ?_ _ | refine blk_drew ?_ | refine blk_alloc ?_ _)); refine blk_far ?_ NB261_271.out _; (with_reducible repeat (first | refine blk_drewN ?_ _ | refine blk_drew ?_ | refine blk_alloc ?_ _)); refine blk_far ?_ NB261_271.out _; (with_reducible repeat (first | refine blk_drewN ?_ _ | refine blk_drew ?_ | refine blk_alloc ?_ _)); refine blk_far ?_ NB261_271.out _; (with_reducible repeat (first | refine blk_drewN ?_ _ | refine blk_drew ?_ | refine blk_alloc ?_ _)); exact BK261.out) hb); have n1_ := Aside0.mk (blk_below (g := gb266) (o := .cells #[.bool t262, .string t263, .string t264] 38 (0, 0)) (by (with_reducible repeat (first | refine blk_drewN ?_ _ | refine blk_drew ?_ | refine blk_alloc ?_ _)); refine blk_far ?_ NB266_271.out _; (with_reducible repeat (first | refine blk_drewN ?_ _ | refine blk_drew ?_ | refine blk_alloc ?_ _)); refine blk_far ?_ NB266_271.out _; (with_reducible repeat (first | refine blk_drewN ?_ _ | refine blk_drew ?_ | refine blk_alloc ?_ _)); refine blk_far ?_ NB266_271.out _; (with_reducible repeat (first | refine blk_drewN ?_ _ | refine blk_drew ?_ | refine blk_alloc ?_ _)); exact BK266.out) hb); have n2_ := Aside0.mk (blk_below (g := gb271) (o := .cells #[.bool t267, .string t268, .string t269] 38 (0, 0)) (by (with_reducible repeat (first | refine blk_drewN ?_ _ | refine blk_drew ?_ | refine blk_alloc ?_ _)); refine blk_put (cs := #[.bool t267, .string t268, .string (⟨#[]⟩ : ByteArray)]) ?_ 2 _ rfl; (with_reducible repeat (first | refine blk_drewN ?_ _ | refine blk_drew ?_ | refine blk_alloc ?_ _)); refine blk_put (cs := #[.bool t267, .string (⟨#[]⟩ : ByteArray), .string (⟨#[]⟩ : ByteArray)]) ?_ 1 _ rfl; (with_reducible repeat (first | refine blk_drewN ?_ _ | refine blk_drew ?_ | refine blk_alloc ?_ _)); refine blk_put (cs := #[.bool false, .string (⟨#[]⟩ : ByteArray), .string (⟨#[]⟩ : ByteArray)]) ?_ 0 _ rfl; (with_reducible repeat (first | refine blk_drewN ?_ _ | refine blk_drew ?_ | refine blk_alloc ?_ _)); exact BK271.out) hb); have n3_ := Aside0.mk (below_step (bl_ HB).out hb); clear BK261; clear BK266; clear BK271; clear HB; have BK261 := n0_; have BK266 := n1_; have BK271 := n2_; have HB := n3_; clear n0_ n1_ n2_ n3_; (try clear hb); (try clear hb2); (try clear hk); (try clear hi); obtain ⟨hcz24_0, hcz24_1, hcz24_2, hfz24_0, hfz24_1, hfz24_2⟩ := bo3_ BK271) | (go_at_call 17; (with_reducible refine (show_Vis_Text.calls t267 t268 t269 t273 _ A8.out).mono ?_); rintro e w25 ⟨rfl, hb⟩; replace BK261 := bb_ BK261 hb; replace BK266 := bb_ BK266 hb; replace BK271 := bb_ BK271 hb; replace HB := Aside0.mk (below_step (bl_ HB).out hb); (try clear hb); (try clear hb2); (try clear hk); (try clear hi)))
        go_ret
        exact ⟨ew_, (bl_ HB).out⟩
      · rw [if_neg c7] at H
        have c7b0 : (t272.toList == ([49, 50, 51, 52, 46, 53, 48] : List UInt8)) = false := beq_eq_false_iff_ne.mpr c7
        have c7b1 : (t272.toList != ([49, 50, 51, 52, 46, 53, 48] : List UInt8)) = true := bne_iff_ne.mpr c7
        obtain rfl := Option.some.inj H
        go_enter Tryz.func4, Tryz.ntmps4
        go_wp2_with (first | ((with_reducible refine gate_callee (f := 16) rfl ?_); refine gl_ (some 6) Tryz.func16 #[.bool false, .string (⟨#[49, 50, 51, 52, 53]⟩ : ByteArray), .int .i64 (-1)] ?_; (with_reducible refine (dec_Made.calls k false (⟨#[49, 50, 51, 52, 53]⟩ : ByteArray) (-1) t258 t259 t260 _ A1.out).mono ?_); rintro e w26 ⟨rfl, hb⟩; refine ⟨_, rfl, ?_⟩; replace HB := Aside0.mk (below_step (bl_ HB).out hb); (try clear hb); (try clear hb2); (try clear hk); (try clear hi)) | ((with_reducible refine gate_dst (N := 1) rfl ?_); refine be_ 1 #[.bool false, .string (⟨#[]⟩ : ByteArray), .int .i64 0] 31 ?_; intro gb261 hg w27 hbox hb; have BK261 := Aside0.mk (hbox); have GW261 := sz_ HB hg; have GE261 := sz_ HB hg; replace HB := Aside0.mk (below_step (bl_ HB).out hb); clear hb hbox hg; obtain ⟨hcz28_0, hcz28_1, hcz28_2, hfz28_0, hfz28_1, hfz28_2⟩ := bo3_ BK261) | ((with_reducible refine gate_callee (f := 9) rfl ?_); refine gl_ (some 10) Tryz.func9 #[.agg #[.int .i64 0, .int .i64 2, .int .i64 2, .bool false, .string (⟨#[]⟩ : ByteArray), .int .i64 0, .int .i64 0, .int .i64 0], .agg #[.bool t258, .string t259, .int .i64 t260]] ?_; (with_reducible refine (show_Prec_Apply.calls k 0 2 2 false (⟨#[]⟩ : ByteArray) 0 0 0 t258 t259 t260 t262 t263 t264 t265 _ A2.out).mono ?_); rintro e w29 ⟨rfl, hb⟩; refine ⟨_, rfl, ?_⟩; have n0_ := Aside0.mk (blk_below (g := gb261) (o := .cells #[.bool t258, .string t259, .int .i64 t260] 31 (0, 0)) (by (with_reducible repeat (first | refine blk_drewN ?_ _ | refine blk_drew ?_ | refine blk_alloc ?_ _)); refine blk_put (cs := #[.bool t258, .string t259, .int .i64 0]) ?_ 2 _ rfl; (with_reducible repeat (first | refine blk_drewN ?_ _ | refine blk_drew ?_ | refine blk_alloc ?_ _)); refine blk_put (cs := #[.bool t258, .string (⟨#[]⟩ : ByteArray), .int .i64 0]) ?_ 1 _ rfl; (with_reducible repeat (first | refine blk_drewN ?_ _ | refine blk_drew ?_ | refine blk_alloc ?_ _)); refine blk_put (cs := #[.bool false, .string (⟨#[]⟩ : ByteArray), .int .i64 0]) ?_ 0 _ rfl; (with_reducible repeat (first | refine blk_drewN ?_ _ | refine blk_drew ?_ | refine blk_alloc ?_ _)); exact BK261.out) hb); have n1_ := Aside0.mk (below_step (bl_ HB).out hb); clear BK261; clear HB; have BK261 := n0_; have HB := n1_; clear n0_ n1_; (try clear hb); (try clear hb2); (try clear hk); (try clear hi)) | ((with_reducible refine gate_dst (N := 2) rfl ?_); refine be_ 2 #[.bool false, .string (⟨#[]⟩ : ByteArray), .string (⟨#[]⟩ : ByteArray)] 38 ?_; intro gb266 hg w30 hbox hb; have BK266 := Aside0.mk (hbox); have GW266 := sz_ HB hg; have GE266 := sz_ HB hg; have NB261_266 := na_ BK261 hg; have NB266_261 := nb_ BK261 hg; replace BK261 := bb_ BK261 hb; replace HB := Aside0.mk (below_step (bl_ HB).out hb); clear hb hbox hg; have hnb31 := NB266_261.out; have hnc31 := NB261_266.out; obtain ⟨hcz32_0, hcz32_1, hcz32_2, hfz32_0, hfz32_1, hfz32_2⟩ := bo3_ BK266; obtain ⟨hcz33_0, hcz33_1, hcz33_2, hfz33_0, hfz33_1, hfz33_2⟩ := bo3_ BK261) | ((with_reducible refine gate_callee (f := 9) rfl ?_); refine gl_ (some 16) Tryz.func9 #[.agg #[.int .i64 1, .int .i64 1, .int .i64 2, .bool false, .string (⟨#[]⟩ : ByteArray), .int .i64 0, .int .i64 0, .int .i64 0], .agg #[.bool t258, .string t259, .int .i64 t260]] ?_; (with_reducible refine (show_Prec_Apply.calls k 1 1 2 false (⟨#[]⟩ : ByteArray) 0 0 0 t258 t259 t260 t267 t268 t269 t270 _ A3.out).mono ?_); rintro e w34 ⟨rfl, hb⟩; refine ⟨_, rfl, ?_⟩; have n0_ := Aside0.mk (blk_below (g := gb261) (o := .cells #[.bool t258, .string t259, .int .i64 t260] 31 (0, 0)) (by (with_reducible repeat (first | refine blk_drewN ?_ _ | refine blk_drew ?_ | refine blk_alloc ?_ _)); refine blk_far ?_ NB261_266.out _; (with_reducible repeat (first | refine blk_drewN ?_ _ | refine blk_drew ?_ | refine blk_alloc ?_ _)); refine blk_far ?_ NB261_266.out _; (with_reducible repeat (first | refine blk_drewN ?_ _ | refine blk_drew ?_ | refine blk_alloc ?_ _)); refine blk_far ?_ NB261_266.out _; (with_reducible repeat (first | refine blk_drewN ?_ _ | refine blk_drew ?_ | refine blk_alloc ?_ _)); exact BK261.out) hb); have n1_ := Aside0.mk (blk_below (g := gb266) (o := .cells #[.bool t262, .string t263, .string t264] 38 (0, 0)) (by (with_reducible repeat (first | refine blk_drewN ?_ _ | refine blk_drew ?_ | refine blk_alloc ?_ _)); refine blk_put (cs := #[.bool t262, .string t263, .string (⟨#[]⟩ : ByteArray)]) ?_ 2 _ rfl; (with_reducible repeat (first | refine blk_drewN ?_ _ | refine blk_drew ?_ | refine blk_alloc ?_ _)); refine blk_put (cs := #[.bool t262, .string (⟨#[]⟩ : ByteArray), .string (⟨#[]⟩ : ByteArray)]) ?_ 1 _ rfl; (with_reducible repeat (first | refine blk_drewN ?_ _ | refine blk_drew ?_ | refine blk_alloc ?_ _)); refine blk_put (cs := #[.bool false, .string (⟨#[]⟩ : ByteArray), .string (⟨#[]⟩ : ByteArray)]) ?_ 0 _ rfl; (with_reducible repeat (first | refine blk_drewN ?_ _ | refine blk_drew ?_ | refine blk_alloc ?_ _)); exact BK266.out) hb); have n2_ := Aside0.mk (below_step (bl_ HB).out hb); clear BK261; clear BK266; clear HB; have BK261 := n0_; have BK266 := n1_; have HB := n2_; clear n0_ n1_ n2_; (try clear hb); (try clear hb2); (try clear hk); (try clear hi)) | ((with_reducible refine gate_dst (N := 4) rfl ?_); refine be_ 4 #[.bool false, .string (⟨#[]⟩ : ByteArray), .string (⟨#[]⟩ : ByteArray)] 38 ?_; intro gb271 hg w35 hbox hb; have BK271 := Aside0.mk (hbox); have GW271 := sz_ HB hg; have GE271 := sz_ HB hg; have NB261_271 := na_ BK261 hg; have NB271_261 := nb_ BK261 hg; have NB266_271 := na_ BK266 hg; have NB271_266 := nb_ BK266 hg; replace BK261 := bb_ BK261 hb; replace BK266 := bb_ BK266 hb; replace HB := Aside0.mk (below_step (bl_ HB).out hb); clear hb hbox hg; have hnb36 := NB271_261.out; have hnc36 := NB261_271.out; have hnb37 := NB271_266.out; have hnc37 := NB266_271.out; obtain ⟨hcz38_0, hcz38_1, hcz38_2, hfz38_0, hfz38_1, hfz38_2⟩ := bo3_ BK271; obtain ⟨hcz39_0, hcz39_1, hcz39_2, hfz39_0, hfz39_1, hfz39_2⟩ := bo3_ BK266) | (go_at_call 17; (with_reducible refine (show_Vis_Text.calls t262 t263 t264 t272 _ A6.out).mono ?_); rintro e w40 ⟨rfl, hb⟩; have n0_ := Aside0.mk (blk_below (g := gb261) (o := .cells #[.bool t258, .string t259, .int .i64 t260] 31 (0, 0)) (by (with_reducible repeat (first | refine blk_drewN ?_ _ | refine blk_drew ?_ | refine blk_alloc ?_ _)); refine blk_far ?_ NB261_271.out _; (with_reducible repeat (first | refine blk_drewN ?_ _ | refine blk_drew ?_ | refine blk_alloc ?_ _)); refine blk_far ?_ NB261_271.out _; (with_reducible repeat (first | refine blk_drewN ?_ _ | refine blk_drew ?_ | refine blk_alloc ?_ _)); refine blk_far ?_ NB261_271.out _; (with_reducible repeat (first | refine blk_drewN ?_ _ | refine blk_drew ?_ | refine blk_alloc ?_ _)); exact BK261.out) hb); have n1_ := Aside0.mk (blk_below (g := gb266) (o := .cells #[.bool t262, .string t263, .string t264] 38 (0, 0)) (by (with_reducible repeat (first | refine blk_drewN ?_ _ | refine blk_drew ?_ | refine blk_alloc ?_ _)); refine blk_far ?_ NB266_271.out _; (with_reducible repeat (first | refine blk_drewN ?_ _ | refine blk_drew ?_ | refine blk_alloc ?_ _)); refine blk_far ?_ NB266_271.out _; (with_reducible repeat (first | refine blk_drewN ?_ _ | refine blk_drew ?_ | refine blk_alloc ?_ _)); refine blk_far ?_ NB266_271.out _; (with_reducible repeat (first | refine blk_drewN ?_ _ | refine blk_drew ?_ | refine blk_alloc ?_ _)); exact BK266.out) hb); have n2_ := Aside0.mk (blk_below (g := gb271) (o := .cells #[.bool t267, .string t268, .string t269] 38 (0, 0)) (by (with_reducible repeat (first | refine blk_drewN ?_ _ | refine blk_drew ?_ | refine blk_alloc ?_ _)); refine blk_put (cs := #[.bool t267, .string t268, .string (⟨#[]⟩ : ByteArray)]) ?_ 2 _ rfl; (with_reducible repeat (first | refine blk_drewN ?_ _ | refine blk_drew ?_ | refine blk_alloc ?_ _)); refine blk_put (cs := #[.bool t267, .string (⟨#[]⟩ : ByteArray), .string (⟨#[]⟩ : ByteArray)]) ?_ 1 _ rfl; (with_reducible repeat (first | refine blk_drewN ?_ _ | refine blk_drew ?_ | refine blk_alloc ?_ _)); refine blk_put (cs := #[.bool false, .string (⟨#[]⟩ : ByteArray), .string (⟨#[]⟩ : ByteArray)]) ?_ 0 _ rfl; (with_reducible repeat (first | refine blk_drewN ?_ _ | refine blk_drew ?_ | refine blk_alloc ?_ _)); exact BK271.out) hb); have n3_ := Aside0.mk (below_step (bl_ HB).out hb); clear BK261; clear BK266; clear BK271; clear HB; have BK261 := n0_; have BK266 := n1_; have BK271 := n2_; have HB := n3_; clear n0_ n1_ n2_ n3_; (try clear hb); (try clear hb2); (try clear hk); (try clear hi)))
        go_ret
        exact ⟨ew_, (bl_ HB).out⟩
    · rw [if_neg c5] at H
      have c5b0 : (t270 == 0) = false := beq_eq_false_iff_ne.mpr c5
      have c5b1 : (t270 != 0) = true := bne_iff_ne.mpr c5
      obtain rfl := Option.some.inj H
      go_enter Tryz.func4, Tryz.ntmps4
      go_wp2_with (first | ((with_reducible refine gate_callee (f := 16) rfl ?_); refine gl_ (some 6) Tryz.func16 #[.bool false, .string (⟨#[49, 50, 51, 52, 53]⟩ : ByteArray), .int .i64 (-1)] ?_; (with_reducible refine (dec_Made.calls k false (⟨#[49, 50, 51, 52, 53]⟩ : ByteArray) (-1) t258 t259 t260 _ A1.out).mono ?_); rintro e w41 ⟨rfl, hb⟩; refine ⟨_, rfl, ?_⟩; replace HB := Aside0.mk (below_step (bl_ HB).out hb); (try clear hb); (try clear hb2); (try clear hk); (try clear hi)) | ((with_reducible refine gate_dst (N := 1) rfl ?_); refine be_ 1 #[.bool false, .string (⟨#[]⟩ : ByteArray), .int .i64 0] 31 ?_; intro gb261 hg w42 hbox hb; have BK261 := Aside0.mk (hbox); have GW261 := sz_ HB hg; have GE261 := sz_ HB hg; replace HB := Aside0.mk (below_step (bl_ HB).out hb); clear hb hbox hg; obtain ⟨hcz43_0, hcz43_1, hcz43_2, hfz43_0, hfz43_1, hfz43_2⟩ := bo3_ BK261) | ((with_reducible refine gate_callee (f := 9) rfl ?_); refine gl_ (some 10) Tryz.func9 #[.agg #[.int .i64 0, .int .i64 2, .int .i64 2, .bool false, .string (⟨#[]⟩ : ByteArray), .int .i64 0, .int .i64 0, .int .i64 0], .agg #[.bool t258, .string t259, .int .i64 t260]] ?_; (with_reducible refine (show_Prec_Apply.calls k 0 2 2 false (⟨#[]⟩ : ByteArray) 0 0 0 t258 t259 t260 t262 t263 t264 t265 _ A2.out).mono ?_); rintro e w44 ⟨rfl, hb⟩; refine ⟨_, rfl, ?_⟩; have n0_ := Aside0.mk (blk_below (g := gb261) (o := .cells #[.bool t258, .string t259, .int .i64 t260] 31 (0, 0)) (by (with_reducible repeat (first | refine blk_drewN ?_ _ | refine blk_drew ?_ | refine blk_alloc ?_ _)); refine blk_put (cs := #[.bool t258, .string t259, .int .i64 0]) ?_ 2 _ rfl; (with_reducible repeat (first | refine blk_drewN ?_ _ | refine blk_drew ?_ | refine blk_alloc ?_ _)); refine blk_put (cs := #[.bool t258, .string (⟨#[]⟩ : ByteArray), .int .i64 0]) ?_ 1 _ rfl; (with_reducible repeat (first | refine blk_drewN ?_ _ | refine blk_drew ?_ | refine blk_alloc ?_ _)); refine blk_put (cs := #[.bool false, .string (⟨#[]⟩ : ByteArray), .int .i64 0]) ?_ 0 _ rfl; (with_reducible repeat (first | refine blk_drewN ?_ _ | refine blk_drew ?_ | refine blk_alloc ?_ _)); exact BK261.out) hb); have n1_ := Aside0.mk (below_step (bl_ HB).out hb); clear BK261; clear HB; have BK261 := n0_; have HB := n1_; clear n0_ n1_; (try clear hb); (try clear hb2); (try clear hk); (try clear hi)) | ((with_reducible refine gate_dst (N := 2) rfl ?_); refine be_ 2 #[.bool false, .string (⟨#[]⟩ : ByteArray), .string (⟨#[]⟩ : ByteArray)] 38 ?_; intro gb266 hg w45 hbox hb; have BK266 := Aside0.mk (hbox); have GW266 := sz_ HB hg; have GE266 := sz_ HB hg; have NB261_266 := na_ BK261 hg; have NB266_261 := nb_ BK261 hg; replace BK261 := bb_ BK261 hb; replace HB := Aside0.mk (below_step (bl_ HB).out hb); clear hb hbox hg; have hnb46 := NB266_261.out; have hnc46 := NB261_266.out; obtain ⟨hcz47_0, hcz47_1, hcz47_2, hfz47_0, hfz47_1, hfz47_2⟩ := bo3_ BK266; obtain ⟨hcz48_0, hcz48_1, hcz48_2, hfz48_0, hfz48_1, hfz48_2⟩ := bo3_ BK261) | ((with_reducible refine gate_callee (f := 9) rfl ?_); refine gl_ (some 16) Tryz.func9 #[.agg #[.int .i64 1, .int .i64 1, .int .i64 2, .bool false, .string (⟨#[]⟩ : ByteArray), .int .i64 0, .int .i64 0, .int .i64 0], .agg #[.bool t258, .string t259, .int .i64 t260]] ?_; (with_reducible refine (show_Prec_Apply.calls k 1 1 2 false (⟨#[]⟩ : ByteArray) 0 0 0 t258 t259 t260 t267 t268 t269 t270 _ A3.out).mono ?_); rintro e w49 ⟨rfl, hb⟩; refine ⟨_, rfl, ?_⟩; have n0_ := Aside0.mk (blk_below (g := gb261) (o := .cells #[.bool t258, .string t259, .int .i64 t260] 31 (0, 0)) (by (with_reducible repeat (first | refine blk_drewN ?_ _ | refine blk_drew ?_ | refine blk_alloc ?_ _)); refine blk_far ?_ NB261_266.out _; (with_reducible repeat (first | refine blk_drewN ?_ _ | refine blk_drew ?_ | refine blk_alloc ?_ _)); refine blk_far ?_ NB261_266.out _; (with_reducible repeat (first | refine blk_drewN ?_ _ | refine blk_drew ?_ | refine blk_alloc ?_ _)); refine blk_far ?_ NB261_266.out _; (with_reducible repeat (first | refine blk_drewN ?_ _ | refine blk_drew ?_ | refine blk_alloc ?_ _)); exact BK261.out) hb); have n1_ := Aside0.mk (blk_below (g := gb266) (o := .cells #[.bool t262, .string t263, .string t264] 38 (0, 0)) (by (with_reducible repeat (first | refine blk_drewN ?_ _ | refine blk_drew ?_ | refine blk_alloc ?_ _)); refine blk_put (cs := #[.bool t262, .string t263, .string (⟨#[]⟩ : ByteArray)]) ?_ 2 _ rfl; (with_reducible repeat (first | refine blk_drewN ?_ _ | refine blk_drew ?_ | refine blk_alloc ?_ _)); refine blk_put (cs := #[.bool t262, .string (⟨#[]⟩ : ByteArray), .string (⟨#[]⟩ : ByteArray)]) ?_ 1 _ rfl; (with_reducible repeat (first | refine blk_drewN ?_ _ | refine blk_drew ?_ | refine blk_alloc ?_ _)); refine blk_put (cs := #[.bool false, .string (⟨#[]⟩ : ByteArray), .string (⟨#[]⟩ : ByteArray)]) ?_ 0 _ rfl; (with_reducible repeat (first | refine blk_drewN ?_ _ | refine blk_drew ?_ | refine blk_alloc ?_ _)); exact BK266.out) hb); have n2_ := Aside0.mk (below_step (bl_ HB).out hb); clear BK261; clear BK266; clear HB; have BK261 := n0_; have BK266 := n1_; have HB := n2_; clear n0_ n1_ n2_; (try clear hb); (try clear hb2); (try clear hk); (try clear hi)) | ((with_reducible refine gate_dst (N := 4) rfl ?_); refine be_ 4 #[.bool false, .string (⟨#[]⟩ : ByteArray), .string (⟨#[]⟩ : ByteArray)] 38 ?_; intro gb271 hg w50 hbox hb; have BK271 := Aside0.mk (hbox); have GW271 := sz_ HB hg; have GE271 := sz_ HB hg; have NB261_271 := na_ BK261 hg; have NB271_261 := nb_ BK261 hg; have NB266_271 := na_ BK266 hg; have NB271_266 := nb_ BK266 hg; replace BK261 := bb_ BK261 hb; replace BK266 := bb_ BK266 hb; replace HB := Aside0.mk (below_step (bl_ HB).out hb); clear hb hbox hg; have hnb51 := NB271_261.out; have hnc51 := NB261_271.out; have hnb52 := NB271_266.out; have hnc52 := NB266_271.out; obtain ⟨hcz53_0, hcz53_1, hcz53_2, hfz53_0, hfz53_1, hfz53_2⟩ := bo3_ BK271))
      go_ret
      exact ⟨ew_, (bl_ HB).out⟩
  · rw [if_neg c4] at H
    have c4b0 : (t265 == 0) = false := beq_eq_false_iff_ne.mpr c4
    have c4b1 : (t265 != 0) = true := bne_iff_ne.mpr c4
    obtain rfl := Option.some.inj H
    go_enter Tryz.func4, Tryz.ntmps4
    go_wp2_with (first | ((with_reducible refine gate_callee (f := 16) rfl ?_); refine gl_ (some 6) Tryz.func16 #[.bool false, .string (⟨#[49, 50, 51, 52, 53]⟩ : ByteArray), .int .i64 (-1)] ?_; (with_reducible refine (dec_Made.calls k false (⟨#[49, 50, 51, 52, 53]⟩ : ByteArray) (-1) t258 t259 t260 _ A1.out).mono ?_); rintro e w54 ⟨rfl, hb⟩; refine ⟨_, rfl, ?_⟩; replace HB := Aside0.mk (below_step (bl_ HB).out hb); (try clear hb); (try clear hb2); (try clear hk); (try clear hi)) | ((with_reducible refine gate_dst (N := 1) rfl ?_); refine be_ 1 #[.bool false, .string (⟨#[]⟩ : ByteArray), .int .i64 0] 31 ?_; intro gb261 hg w55 hbox hb; have BK261 := Aside0.mk (hbox); have GW261 := sz_ HB hg; have GE261 := sz_ HB hg; replace HB := Aside0.mk (below_step (bl_ HB).out hb); clear hb hbox hg; obtain ⟨hcz56_0, hcz56_1, hcz56_2, hfz56_0, hfz56_1, hfz56_2⟩ := bo3_ BK261) | ((with_reducible refine gate_callee (f := 9) rfl ?_); refine gl_ (some 10) Tryz.func9 #[.agg #[.int .i64 0, .int .i64 2, .int .i64 2, .bool false, .string (⟨#[]⟩ : ByteArray), .int .i64 0, .int .i64 0, .int .i64 0], .agg #[.bool t258, .string t259, .int .i64 t260]] ?_; (with_reducible refine (show_Prec_Apply.calls k 0 2 2 false (⟨#[]⟩ : ByteArray) 0 0 0 t258 t259 t260 t262 t263 t264 t265 _ A2.out).mono ?_); rintro e w57 ⟨rfl, hb⟩; refine ⟨_, rfl, ?_⟩; have n0_ := Aside0.mk (blk_below (g := gb261) (o := .cells #[.bool t258, .string t259, .int .i64 t260] 31 (0, 0)) (by (with_reducible repeat (first | refine blk_drewN ?_ _ | refine blk_drew ?_ | refine blk_alloc ?_ _)); refine blk_put (cs := #[.bool t258, .string t259, .int .i64 0]) ?_ 2 _ rfl; (with_reducible repeat (first | refine blk_drewN ?_ _ | refine blk_drew ?_ | refine blk_alloc ?_ _)); refine blk_put (cs := #[.bool t258, .string (⟨#[]⟩ : ByteArray), .int .i64 0]) ?_ 1 _ rfl; (with_reducible repeat (first | refine blk_drewN ?_ _ | refine blk_drew ?_ | refine blk_alloc ?_ _)); refine blk_put (cs := #[.bool false, .string (⟨#[]⟩ : ByteArray), .int .i64 0]) ?_ 0 _ rfl; (with_reducible repeat (first | refine blk_drewN ?_ _ | refine blk_drew ?_ | refine blk_alloc ?_ _)); exact BK261.out) hb); have n1_ := Aside0.mk (below_step (bl_ HB).out hb); clear BK261; clear HB; have BK261 := n0_; have HB := n1_; clear n0_ n1_; (try clear hb); (try clear hb2); (try clear hk); (try clear hi)) | ((with_reducible refine gate_dst (N := 2) rfl ?_); refine be_ 2 #[.bool false, .string (⟨#[]⟩ : ByteArray), .string (⟨#[]⟩ : ByteArray)] 38 ?_; intro gb266 hg w58 hbox hb; have BK266 := Aside0.mk (hbox); have GW266 := sz_ HB hg; have GE266 := sz_ HB hg; have NB261_266 := na_ BK261 hg; have NB266_261 := nb_ BK261 hg; replace BK261 := bb_ BK261 hb; replace HB := Aside0.mk (below_step (bl_ HB).out hb); clear hb hbox hg; have hnb59 := NB266_261.out; have hnc59 := NB261_266.out; obtain ⟨hcz60_0, hcz60_1, hcz60_2, hfz60_0, hfz60_1, hfz60_2⟩ := bo3_ BK266; obtain ⟨hcz61_0, hcz61_1, hcz61_2, hfz61_0, hfz61_1, hfz61_2⟩ := bo3_ BK261) | ((with_reducible refine gate_callee (f := 9) rfl ?_); refine gl_ (some 16) Tryz.func9 #[.agg #[.int .i64 1, .int .i64 1, .int .i64 2, .bool false, .string (⟨#[]⟩ : ByteArray), .int .i64 0, .int .i64 0, .int .i64 0], .agg #[.bool t258, .string t259, .int .i64 t260]] ?_; (with_reducible refine (show_Prec_Apply.calls k 1 1 2 false (⟨#[]⟩ : ByteArray) 0 0 0 t258 t259 t260 t267 t268 t269 t270 _ A3.out).mono ?_); rintro e w62 ⟨rfl, hb⟩; refine ⟨_, rfl, ?_⟩; have n0_ := Aside0.mk (blk_below (g := gb261) (o := .cells #[.bool t258, .string t259, .int .i64 t260] 31 (0, 0)) (by (with_reducible repeat (first | refine blk_drewN ?_ _ | refine blk_drew ?_ | refine blk_alloc ?_ _)); refine blk_far ?_ NB261_266.out _; (with_reducible repeat (first | refine blk_drewN ?_ _ | refine blk_drew ?_ | refine blk_alloc ?_ _)); refine blk_far ?_ NB261_266.out _; (with_reducible repeat (first | refine blk_drewN ?_ _ | refine blk_drew ?_ | refine blk_alloc ?_ _)); refine blk_far ?_ NB261_266.out _; (with_reducible repeat (first | refine blk_drewN ?_ _ | refine blk_drew ?_ | refine blk_alloc ?_ _)); exact BK261.out) hb); have n1_ := Aside0.mk (blk_below (g := gb266) (o := .cells #[.bool t262, .string t263, .string t264] 38 (0, 0)) (by (with_reducible repeat (first | refine blk_drewN ?_ _ | refine blk_drew ?_ | refine blk_alloc ?_ _)); refine blk_put (cs := #[.bool t262, .string t263, .string (⟨#[]⟩ : ByteArray)]) ?_ 2 _ rfl; (with_reducible repeat (first | refine blk_drewN ?_ _ | refine blk_drew ?_ | refine blk_alloc ?_ _)); refine blk_put (cs := #[.bool t262, .string (⟨#[]⟩ : ByteArray), .string (⟨#[]⟩ : ByteArray)]) ?_ 1 _ rfl; (with_reducible repeat (first | refine blk_drewN ?_ _ | refine blk_drew ?_ | refine blk_alloc ?_ _)); refine blk_put (cs := #[.bool false, .string (⟨#[]⟩ : ByteArray), .string (⟨#[]⟩ : ByteArray)]) ?_ 0 _ rfl; (with_reducible repeat (first | refine blk_drewN ?_ _ | refine blk_drew ?_ | refine blk_alloc ?_ _)); exact BK266.out) hb); have n2_ := Aside0.mk (below_step (bl_ HB).out hb); clear BK261; clear BK266; clear HB; have BK261 := n0_; have BK266 := n1_; have HB := n2_; clear n0_ n1_ n2_; (try clear hb); (try clear hb2); (try clear hk); (try clear hi)) | ((with_reducible refine gate_dst (N := 4) rfl ?_); refine be_ 4 #[.bool false, .string (⟨#[]⟩ : ByteArray), .string (⟨#[]⟩ : ByteArray)] 38 ?_; intro gb271 hg w63 hbox hb; have BK271 := Aside0.mk (hbox); have GW271 := sz_ HB hg; have GE271 := sz_ HB hg; have NB261_271 := na_ BK261 hg; have NB271_261 := nb_ BK261 hg; have NB266_271 := na_ BK266 hg; have NB271_266 := nb_ BK266 hg; replace BK261 := bb_ BK261 hb; replace BK266 := bb_ BK266 hb; replace HB := Aside0.mk (below_step (bl_ HB).out hb); clear hb hbox hg; have hnb64 := NB271_261.out; have hnc64 := NB261_271.out; have hnb65 := NB271_266.out; have hnc65 := NB266_271.out; obtain ⟨hcz66_0, hcz66_1, hcz66_2, hfz66_0, hfz66_1, hfz66_2⟩ := bo3_ BK271))
    go_ret
    exact ⟨ew_, (bl_ HB).out⟩

/-! ### florinlaw02_Raw_Few: function 5 -/
def florinlaw02_Raw_Few.f (a0_0 : Bool) (l0_1 : List Int) (a0_2 : Int) (a1 : Int) : Option (Bool) := if (l0_1.length : Int) ≤ a1 then (if a0_2 ≥ (wrap64 (-a1)) then (some (decide (a0_2 ≤ a1))) else (some false)) else (some false)
set_option maxHeartbeats 8000000 in
set_option maxRecDepth 100000 in
theorem florinlaw02_Raw_Few.calls (a0_0 : Bool) (A0_1 : Option Addr) (c0_1 : Nat) (l0_1 : List Int) (a0_2 : Int) (a1 : Int) (r : Bool) (w : World) (hr0_1 : Kd.C (Kd.int .u8) w A0_1 l0_1.length l0_1) (hc0_1 : l0_1.length ≤ c0_1) (h : florinlaw02_Raw_Few.f a0_0 l0_1 a0_2 a1 = some r) :
    Calls Tryz.prog 5 #[.agg #[.bool a0_0, .slice A0_1 l0_1.length c0_1, .int .i64 a0_2], .int .i64 a1] w fun e w' => e = .returned (.bool r) ∧ Below w.heap.size w w' := by
  have hu24 := Tryz.underlying24
  have HR0_1 := Aside0.mk hr0_1
  have HC0_1 := Aside0.mk hc0_1
  clear hr0_1 hc0_1
  have HB := Aside0.mk (Below.refl w.heap.size w)
  have H : (if (l0_1.length : Int) ≤ a1 then (if a0_2 ≥ (wrap64 (-a1)) then (some (decide (a0_2 ≤ a1))) else (some false)) else (some false)) = some r := h
  clear h
  by_cases c3 : (l0_1.length : Int) ≤ a1
  · rw [if_pos c3] at H
    have c3b0 : decide ((l0_1.length : Int) ≤ a1) = true := decide_eq_true c3
    clear c3
    by_cases c4 : a0_2 ≥ (wrap64 (-a1))
    · rw [if_pos c4] at H
      have c4b0 : decide ((wrap64 (-a1)) ≤ a0_2) = true := decide_eq_true c4
      clear c4
      obtain rfl := Option.some.inj H
      go_enter Tryz.func5, Tryz.ntmps5
      go_wp2_with (first | ((with_reducible refine gate_dst (N := 2) rfl ?_); refine be_ 2 #[.bool a0_0, .slice A0_1 l0_1.length c0_1, .int .i64 a0_2] 24 ?_; intro gb274 hg w5 hbox hb; have BK274 := Aside0.mk (hbox); have GW274 := sz_ HB hg; have GE274 := sz_ HB hg; replace HB := Aside0.mk (below_step (bl_ HB).out hb); clear hb hbox hg; obtain ⟨hcz6_0, hcz6_1, hcz6_2, hfz6_0, hfz6_1, hfz6_2⟩ := bo3_ BK274))
      go_ret
      exact ⟨ew_, (bl_ HB).out⟩
    · rw [if_neg c4] at H
      have c4b0 : decide ((wrap64 (-a1)) ≤ a0_2) = false := decide_eq_false c4
      clear c4
      obtain rfl := Option.some.inj H
      go_enter Tryz.func5, Tryz.ntmps5
      go_wp2_with (first | ((with_reducible refine gate_dst (N := 2) rfl ?_); refine be_ 2 #[.bool a0_0, .slice A0_1 l0_1.length c0_1, .int .i64 a0_2] 24 ?_; intro gb274 hg w7 hbox hb; have BK274 := Aside0.mk (hbox); have GW274 := sz_ HB hg; have GE274 := sz_ HB hg; replace HB := Aside0.mk (below_step (bl_ HB).out hb); clear hb hbox hg; obtain ⟨hcz8_0, hcz8_1, hcz8_2, hfz8_0, hfz8_1, hfz8_2⟩ := bo3_ BK274))
      go_ret
      exact ⟨ew_, (bl_ HB).out⟩
  · rw [if_neg c3] at H
    have c3b0 : decide ((l0_1.length : Int) ≤ a1) = false := decide_eq_false c3
    clear c3
    obtain rfl := Option.some.inj H
    go_enter Tryz.func5, Tryz.ntmps5
    go_wp2_with (first | ((with_reducible refine gate_dst (N := 2) rfl ?_); refine be_ 2 #[.bool a0_0, .slice A0_1 l0_1.length c0_1, .int .i64 a0_2] 24 ?_; intro gb274 hg w9 hbox hb; have BK274 := Aside0.mk (hbox); have GW274 := sz_ HB hg; have GE274 := sz_ HB hg; replace HB := Aside0.mk (below_step (bl_ HB).out hb); clear hb hbox hg; obtain ⟨hcz10_0, hcz10_1, hcz10_2, hfz10_0, hfz10_1, hfz10_2⟩ := bo3_ BK274))
    go_ret
    exact ⟨ew_, (bl_ HB).out⟩

end Go.Proofs.YthkpmiajcmihjaaGreatDoor.P
