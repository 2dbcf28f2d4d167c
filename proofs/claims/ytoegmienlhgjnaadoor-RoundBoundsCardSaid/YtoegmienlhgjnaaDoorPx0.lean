-- written by a program of this session (wip/p2)
import Derived.Test.YtoegmienlhgjnaaDoorProg
import Derived.Below
import Derived.Deep.Draws
import Derived.Deep.AppendLies
import Derived.Maps.AppendAt
import Derived.OwnWalk
import Derived.Laws.BytesArg
import Derived.Laws.MakeOwn
import Derived.Laws.OwnMore
import Derived.Deep.OwnRows
import Derived.Tactics
import Derived.Lib.ConvBytes
import Derived.Laws.Slices
import Derived.WalkKit
import Derived.KernelRfl
import Derived.RowKit3
import Derived.Deep.LoopGhost
import Derived.Deep.QuietTactic
import Derived.BigQuiet
import Derived.WideLaws
import Derived.Deep.DeepCutAuto
import Derived.Deep.CutBlock
import Derived.Deep.RegionHeld3
import Derived.Laws.Rows
import Derived.Lib.AppendStr
import Derived.ArgAppend
import Derived.Laws.IdiomCopy
import Derived.OrdersHeld
import Derived.Laws.BitsLemmas
import Derived.RowKit
import Derived.Test.YtoegmienlhgjnaaDoorWWords
import Derived.Test.YtoegmienlhgjnaaDoorWLast
import Derived.Test.YtoegmienlhgjnaaDoorWTab
import Derived.Test.YtoegmienlhgjnaaDoorWFour
import Derived.Test.YtoegmienlhgjnaaDoorWQPut
import Derived.Test.YtoegmienlhgjnaaDoorWApart
import Derived.Test.YtoegmienlhgjnaaDoorWArr
import Derived.Test.YtoegmienlhgjnaaDoorWZeros
import Derived.Test.YtoegmienlhgjnaaDoorWFoot
import Derived.Test.YtoegmienlhgjnaaDoorWKept
import Derived.Test.YtoegmienlhgjnaaDoorWShare
import Derived.Test.YtoegmienlhgjnaaDoorWN
import Derived.Test.YtoegmienlhgjnaaDoorWFootNe
import Derived.Test.YtoegmienlhgjnaaDoorWAt
import Derived.Test.YtoegmienlhgjnaaDoorWEqStruct
import Derived.Test.YtoegmienlhgjnaaDoorWRepsOne
import Derived.Test.YtoegmienlhgjnaaDoorWInv
import Derived.Test.YtoegmienlhgjnaaDoorWInvWords
import Derived.Test.YtoegmienlhgjnaaDoorWGuard
import Derived.Test.YtoegmienlhgjnaaDoorWNEv
import Derived.Test.YtoegmienlhgjnaaDoorWMore
import Derived.Test.YtoegmienlhgjnaaDoorShelf
import Derived.Lib.ConvBytes
import Derived.Lib.LaidTab
namespace Go.Proofs.YtoegmienlhgjnaaDoor.P
open Go.RowKit Go.Proofs.YtoegmienlhgjnaaDoorW.PrintWords Go.Proofs.YtoegmienlhgjnaaDoorW.PrintLast Go.Proofs.YtoegmienlhgjnaaDoorW.PrintMore
attribute [local go_sem] max2_int min2_int max_two min_two max_three min_three max_four min_four   -- for this text's walks alone
set_option linter.unusedVariables false
set_option linter.unusedSimpArgs false

theorem given_set4 (W : World) (b : Nat) (x0 x1 x2 y : Value) (h0 : (W.cell? ⟨b, 0, none⟩).isSome = true) (h1 : (W.cell? ⟨b, 1, none⟩).isSome = true) (h2 : (W.cell? ⟨b, 2, none⟩).isSome = true) :
    ((((W.setCell ⟨b, 0, none⟩ x0).setCell ⟨b, 1, none⟩ x1).setCell ⟨b, 2, none⟩ x2).setCell ⟨b, 1, none⟩ y).cell? ⟨b, 0, none⟩ = some x0 ∧ ((((W.setCell ⟨b, 0, none⟩ x0).setCell ⟨b, 1, none⟩ x1).setCell ⟨b, 2, none⟩ x2).setCell ⟨b, 1, none⟩ y).cell? ⟨b, 1, none⟩ = some y ∧ ((((W.setCell ⟨b, 0, none⟩ x0).setCell ⟨b, 1, none⟩ x1).setCell ⟨b, 2, none⟩ x2).setCell ⟨b, 1, none⟩ y).cell? ⟨b, 2, none⟩ = some x2 := by
  have n01 : (⟨b, 0, none⟩ : Addr) ≠ ⟨b, 1, none⟩ := by intro e; cases e
  have n02 : (⟨b, 0, none⟩ : Addr) ≠ ⟨b, 2, none⟩ := by intro e; cases e
  have n12 : (⟨b, 1, none⟩ : Addr) ≠ ⟨b, 2, none⟩ := by intro e; cases e
  have e2 := World.cell?_setCell_same' (W.setCell ⟨b, 0, none⟩ x0) ⟨b, 1, none⟩ x1 (by rw [World.cell?_setCell_other (h := n01)]; exact h1)
  have e1 : ((((W.setCell ⟨b, 0, none⟩ x0).setCell ⟨b, 1, none⟩ x1).setCell ⟨b, 2, none⟩ x2).cell? ⟨b, 1, none⟩).isSome = true := by
    rw [World.cell?_setCell_other (h := n12.symm), e2]; rfl
  have e3 := World.cell?_setCell_same' ((W.setCell ⟨b, 0, none⟩ x0).setCell ⟨b, 1, none⟩ x1) ⟨b, 2, none⟩ x2 (by rw [World.cell?_setCell_other (h := n12), World.cell?_setCell_other (h := n02)]; exact h2)
  refine ⟨?_, World.cell?_setCell_same' _ _ _ e1, ?_⟩
  · rw [World.cell?_setCell_other (h := n01.symm), World.cell?_setCell_other (h := n02.symm), World.cell?_setCell_other (h := n01.symm), World.cell?_setCell_same' _ _ _ h0]
  · rw [World.cell?_setCell_other (h := n12), e3]
theorem bb_ {W0 W W' : World} {g : Nat} {o : Obj} (h0 : Aside0 (W0.heap[g]? = some o)) (hb : Below W.heap.size W W') (hr : W0.heap[g]? = some o → W.heap[g]? = some o := by intro h_; (with_reducible repeat (first | refine blk_drewN ?_ _ | refine blk_drew ?_ | refine blk_alloc ?_ _)); exact h_) : Aside0 (W'.heap[g]? = some o) := Aside0.mk (blk_below (hr h0.out) hb)

def bm_ (n k : Nat) : Array Bool := ((List.range n).map k.testBit).toArray
theorem fld_ {P : Program} {t : TypeId} {fs : Array Field} {xs : Array Value} {i : Nat} {f : Field} {v : Value} {w : World} (hu : P.underlying t = some (.struct fs)) (hf : fs[i]? = some f) (he : P.plainKey f.type = true) (hx : xs[f.offset]? = some v) :
    ((Sem.run P (Instr.field t (.agg xs) i) w).andThen fun a w' => Result.ok (Next.value a) w') = Result.ok (Next.value v) w := by
  have h1 : Sem.run P (Instr.field t (.agg xs) i) w = .ok v w := by
    unfold Instr.field
    simp [run_underlying hu, asAgg, hf]
    exact run_part_plain w he hx
  rw [h1]; rfl
theorem pu_ {P : Program} {md : Region.Mode} {ops : Array Oper} {Q : Exit → Act → World → Prop} {S : World → Prop} {ds : List Nat} {fuel : Nat} {l : Array Bool} {a a' : Act} {w : World} {oi : Oper} {v : Value} {T : Bool × List (List Nat × List Nat)} (i : Nat) (N : Tmp) (l' : Array Bool)
    (hT : Aside0 (rtab md ops = T)) (h : wpAnyLast P md ops Q S ds fuel l' a' w)
    (hi : ops[i]? = some oi := by rfl) (hN : oi.dst = some N := by rfl) (hc : anyT T l.toList l'.toList i = true := by kernel_rfl) (hQ : ∀ c a w, Q (.panic c) (a.put oi.dst v) w → Q (.panic c) a w := by exact fun _ _ _ h => h)
    (hw : Region.wanted oi (yielded ops a.tmps) = true := by rfl) (hr : ∀ w, (execOp a.eval oi).run P w = .ok (.value v) w := by intro w'; go_simp; with_reducible rfl)
    (ha : a.put (some N) v = a' := by simp only [Act.put, List.setIfInBounds_toArray, List.set_cons_zero, List.set_cons_succ, i64_w, i32_w]; rfl) : wpAnyLast P md ops Q S ds (fuel + 1) l a w :=
  pure_ l' hi hN (any_of hT.out hc) hQ (Or.inl ⟨hw, hr⟩) ha h
theorem pn_ {P : Program} {md : Region.Mode} {ops : Array Oper} {Q : Exit → Act → World → Prop} {S : World → Prop} {ds : List Nat} {fuel : Nat} {l : Array Bool} {a a' : Act} {w : World} {oi : Oper} {T : Bool × List (List Nat × List Nat)} (i : Nat) (N : Tmp) (l' : Array Bool)
    (hT : Aside0 (rtab md ops = T)) (h : wpAnyLast P md ops Q S ds fuel l' a' w)
    (hi : ops[i]? = some oi := by rfl) (hN : oi.dst = some N := by rfl) (hc : anyT T l.toList l'.toList i = true := by kernel_rfl) (hQ : ∀ c a w, Q (.panic c) (a.put oi.dst undef) w → Q (.panic c) a w := by exact fun _ _ _ h => h)
    (hw : Region.wanted oi (yielded ops a.tmps) = false := by rfl)
    (ha : a.put (some N) undef = a' := by simp only [Act.put, List.setIfInBounds_toArray, List.set_cons_zero, List.set_cons_succ, i64_w, i32_w]; rfl) : wpAnyLast P md ops Q S ds (fuel + 1) l a w :=
  pure_ l' hi hN (any_of hT.out hc) hQ (Or.inr ⟨hw, rfl⟩) ha h
theorem tk_ {P : Program} {md : Region.Mode} {ops : Array Oper} {Q : Exit → Act → World → Prop} {S : World → Prop} {ds : List Nat} {fuel : Nat} {l : Array Bool} {a a' : Act} {w : World} {oi : Oper} {v : Value} {T : Bool × List (List Nat × List Nat)} {B : List Nat} (i : Nat) (N : Tmp) (l' : Array Bool)
    (hT : Aside0 (rtab md ops = T)) (hB : Aside0 (waitsOk T.2 B = true)) (hS : S w) (hi : ops[i]? = some oi) (hr : ∀ w, S w → (execOp a.eval oi).run P w = .ok (.value v) w) (h : wpAnyLast P md ops Q S ds fuel l' a' w)
    (hN : oi.dst = some N := by rfl) (hc : takeW T B ds l.toList l'.toList i = true := by kernel_rfl) (hQ : ∀ c a w, Q (.panic c) (a.put oi.dst v) w → Q (.panic c) a w := by exact fun _ _ _ h => h)
    (hw : Region.wanted oi (yielded ops a.tmps) = true := by rfl)
    (ha : a.put (some N) v = a' := by simp only [Act.put, List.setIfInBounds_toArray, List.set_cons_zero, List.set_cons_succ, i64_w, i32_w]; rfl) : wpAnyLast P md ops Q S ds (fuel + 1) l a w :=
  take_ l' hi hN (take_ofW hT.out hB.out hc) hQ (Or.inl ⟨hw, hr⟩) hS ha h
theorem eq_ {α : Sort _} {x y : α} (h : x = y := by first | rfl | (simp; done) | (simp [*]; done) | (simp; first | exact given_isEmpty _ | exact (given_isEmpty _).symm) | (unfold wrap64; omega) | (congr 1; unfold wrap64; omega)) : x = y := h
theorem bk_ {W0 W : World} {g : Nat} {o : Obj} (h0 : Aside0 (W0.heap[g]? = some o)) (hr : W0.heap[g]? = some o → W.heap[g]? = some o := by intro h_; (with_reducible repeat (first | refine blk_drewN ?_ _ | refine blk_drew ?_ | refine blk_alloc ?_ _)); exact h_) : Aside0 (W.heap[g]? = some o) := Aside0.mk (hr h0.out)
theorem bl_ {n : Nat} {W0 W W' : World} (h0 : Aside0 (Below n W W0)) (hr : Below n W W0 → Below n W W' := by intro h_; repeat (first | (with_reducible first | exact h_ | apply below_alloc | apply pw_below_drewN | apply below_drew1 | refine below_set ?_ (Aside0.out (by assumption))) | exact h_)) : Aside0 (Below n W W') := Aside0.mk (hr h0.out)
theorem bf_ {W0 W : World} {g : Nat} {o : Obj} (h0 : Aside0 (W0.heap[g]? = some o)) (hr : W0.heap[g]? = some o → W.heap[g]? = some o := by intro h_; repeat (first | exact h_ | (with_reducible first | refine blk_drewN ?_ _ | refine blk_drew ?_ | refine blk_alloc ?_ _) | refine blk_far ?_ (Aside0.out (by assumption)) _)) : Aside0 (W.heap[g]? = some o) := Aside0.mk (hr h0.out)
theorem tb_ {P : Program} {w w' : World} {name : String} {k : IntKind} {zs : List Int} (h : Lib.TabIs P w name k zs) (hb : Below w.heap.size w w') : Lib.TabIs P w' name k zs := by
  unfold Lib.TabIs World.var? at h ⊢
  obtain ⟨g, hg, h2⟩ := Option.bind_eq_some_iff.1 h
  have hlt : g < w.heap.size := by
    apply Decidable.byContradiction
    intro hn
    rw [Array.getElem?_eq_none (by omega)] at h2
    cases h2
  rw [hg, Option.bind_some, hb.block g hlt]
  exact h2
theorem pu0_ {P : Program} {md : Region.Mode} {ops : Array Oper} {Q : Exit → Act → World → Prop} {S : World → Prop} {ds : List Nat} {fuel : Nat} {l : Array Bool} {a a' : Act} {w : World} {oi : Oper} {v : Value} (i : Nat) (N : Tmp) (l' : Array Bool)
    (h : wpAnyLast P md ops Q S ds fuel l' a' w)
    (hi : ops[i]? = some oi := by rfl) (hN : oi.dst = some N := by rfl) (hc : anyB md ops l l' i = true := by kernel_rfl) (hQ : ∀ c a w, Q (.panic c) (a.put oi.dst v) w → Q (.panic c) a w := by exact fun _ _ _ h => h)
    (hw : Region.wanted oi (yielded ops a.tmps) = true := by rfl) (hr : ∀ w, (execOp a.eval oi).run P w = .ok (.value v) w := by intro w'; go_simp; with_reducible rfl)
    (ha : a.put (some N) v = a' := by simp only [Act.put, List.setIfInBounds_toArray, List.set_cons_zero, List.set_cons_succ, i64_w, i32_w]; rfl) : wpAnyLast P md ops Q S ds (fuel + 1) l a w :=
  pure_ l' hi hN hc hQ (Or.inl ⟨hw, hr⟩) ha h
theorem pn0_ {P : Program} {md : Region.Mode} {ops : Array Oper} {Q : Exit → Act → World → Prop} {S : World → Prop} {ds : List Nat} {fuel : Nat} {l : Array Bool} {a a' : Act} {w : World} {oi : Oper} (i : Nat) (N : Tmp) (l' : Array Bool)
    (h : wpAnyLast P md ops Q S ds fuel l' a' w)
    (hi : ops[i]? = some oi := by rfl) (hN : oi.dst = some N := by rfl) (hc : anyB md ops l l' i = true := by kernel_rfl) (hQ : ∀ c a w, Q (.panic c) (a.put oi.dst undef) w → Q (.panic c) a w := by exact fun _ _ _ h => h)
    (hw : Region.wanted oi (yielded ops a.tmps) = false := by rfl)
    (ha : a.put (some N) undef = a' := by simp only [Act.put, List.setIfInBounds_toArray, List.set_cons_zero, List.set_cons_succ, i64_w, i32_w]; rfl) : wpAnyLast P md ops Q S ds (fuel + 1) l a w :=
  pure_ l' hi hN hc hQ (Or.inr ⟨hw, rfl⟩) ha h
theorem tk0_ {P : Program} {md : Region.Mode} {ops : Array Oper} {Q : Exit → Act → World → Prop} {S : World → Prop} {ds : List Nat} {fuel : Nat} {l : Array Bool} {a a' : Act} {w : World} {oi : Oper} {v : Value} (i : Nat) (N : Tmp) (l' : Array Bool)
    (hS : S w) (hi : ops[i]? = some oi) (hr : ∀ w, S w → (execOp a.eval oi).run P w = .ok (.value v) w) (h : wpAnyLast P md ops Q S ds fuel l' a' w)
    (hN : oi.dst = some N := by rfl) (hc : takeB md ops ds l l' i = true := by kernel_rfl) (hQ : ∀ c a w, Q (.panic c) (a.put oi.dst v) w → Q (.panic c) a w := by exact fun _ _ _ h => h)
    (hw : Region.wanted oi (yielded ops a.tmps) = true := by rfl)
    (ha : a.put (some N) v = a' := by simp only [Act.put, List.setIfInBounds_toArray, List.set_cons_zero, List.set_cons_succ, i64_w, i32_w]; rfl) : wpAnyLast P md ops Q S ds (fuel + 1) l a w :=
  take_ l' hi hN hc hQ (Or.inl ⟨hw, hr⟩) hS ha h
theorem gs_ {P : Program} {ops : Array Oper} {Q : Exit → Act → World → Prop} {oi : Oper} {N : Option Tmp} {a : Act} {w : World} {K : Act → World → Prop} {f : FuncId} {fn : Func} {as_ : Array Operand} {ts : Array TypeId} (hf : P.funcs[f]? = some fn) (args : Array Value)
    (h : Calls P f args w fun e w' => ∃ v, e = .returned v ∧ K (a.put N v) w') (hname : (fn.name == "runtime.NumGoroutine") = false := by kernel_rfl) (hb : fn.body.isSome = true := by rfl)
    (hw : Region.wanted oi (yielded ops a.tmps) = true := by rfl) (hN : oi.dst = N := by rfl) (hop : oi.op = .call { callee := .value (.func f), args := as_, argTypes := ts } := by rfl)
    (hargs : as_.map a.eval = args := by (try simp only [List.map_toArray, List.map_cons, List.map_nil]); first | done | rfl | (simp only [List.length_drop, List.length_take]; rfl) | (have z_ : ∀ s_ : ByteArray, s_.size ≤ 9223372036854775807 → -(s_.size : Int) = wrap64 (-(s_.size : Int)) := (fun s_ h_ => by unfold wrap64; omega); rw [← z_ _ (by omega)]; rfl) | (simp only [ByteArray.size_append]; rfl)) :
    if Region.wanted oi (yielded ops a.tmps) = true then Oper.wp P oi a w K Q else K (a.put N undef) w := goes_ hf hname hb args hw hN hop hargs h
theorem nm_ {P : Program} {md : Region.Mode} {ops : Array Oper} {Q : Exit → Act → World → Prop} {S : World → Prop} {ds : List Nat} {fuel : Nat} {l : Array Bool} {x a' : Act} {v : Value} {w : World} (N : Tmp) (h : wpAnyLast P md ops Q S ds fuel l a' w)
    (ha : x.put (some N) v = a' := by simp only [Act.put, List.setIfInBounds_toArray, List.set_cons_zero, List.set_cons_succ, i64_w, i32_w]; rfl) : wpAnyLast P md ops Q S ds fuel l (x.put (some N) v) w := norm_ ha h
theorem bc_ {w : World} {g : Nat} {t : TypeId} {cs : Array Value} {v : Value} (h : Aside0 (w.heap[g]? = some (.cells cs t (0, 0)))) (i : Nat) (hv : cs[i]? = some v := by rfl) : w.cell? ⟨g, i, none⟩ = some v := (blk_cell h.out i).trans hv

theorem given_isEmpty (l : List UInt8) : l.isEmpty = !(l != []) := by cases l <;> rfl


def errW : Option Int → Value
  | none => .nilIface
  | some c => .iface 0 (.int .i64 c)
theorem errW_none : errW none = .nilIface := rfl
theorem errW_some (c : Int) : errW (some c) = .iface 0 (.int .i64 c) := rfl

theorem info5 : (Tryd.prog.info? 5).map (fun i => (i.zero, i.size, i.bytes)) = some (some (.int .u8 0), 1, 1) := by kernel_rfl
theorem info9 : (Tryd.prog.info? 9).map (fun i => (i.zero, i.size, i.bytes)) = some (some (.string ⟨#[]⟩), 1, 16) := by kernel_rfl
-- the values' own types

end Go.Proofs.YtoegmienlhgjnaaDoor.P
