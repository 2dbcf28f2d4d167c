-- written by a program of this session (wip/p2)
import Derived.Test.YtbhhfpjiacfofaaDoorProg
import Derived.Below
import Derived.Deep.Draws
import Derived.Deep.AppendLies
import Derived.Maps.AppendAt
import Derived.OwnWalk
import Derived.Laws.BytesArg
import Derived.Laws.MakeOwn
import Derived.Laws.OwnMore
import Derived.Deep.OwnRows
import Derived.Tactics
import Derived.Lib.ConvBytes
import Derived.Laws.Slices
import Derived.WalkKit
import Derived.KernelRfl
import Derived.RowKit3
import Derived.Deep.LoopGhost
import Derived.Deep.QuietTactic
import Derived.BigQuiet
import Derived.WideLaws
import Derived.Deep.DeepCutAuto
import Derived.Deep.CutBlock
import Derived.Deep.RegionHeld3
import Derived.Laws.Rows
import Derived.Lib.AppendStr
import Derived.ArgAppend
import Derived.Laws.IdiomCopy
import Derived.OrdersHeld
import Derived.Laws.BitsLemmas
import Derived.RowKit
import Derived.Test.YtbhhfpjiacfofaaDoorWWords
import Derived.Test.YtbhhfpjiacfofaaDoorWLast
import Derived.Test.YtbhhfpjiacfofaaDoorWTab
import Derived.Test.YtbhhfpjiacfofaaDoorWFour
import Derived.Test.YtbhhfpjiacfofaaDoorWQPut
import Derived.Test.YtbhhfpjiacfofaaDoorWApart
import Derived.Test.YtbhhfpjiacfofaaDoorWArr
import Derived.Test.YtbhhfpjiacfofaaDoorWZeros
import Derived.Test.YtbhhfpjiacfofaaDoorWFoot
import Derived.Test.YtbhhfpjiacfofaaDoorWKept
import Derived.Test.YtbhhfpjiacfofaaDoorWShare
import Derived.Test.YtbhhfpjiacfofaaDoorWN
import Derived.Test.YtbhhfpjiacfofaaDoorWFootNe
import Derived.Test.YtbhhfpjiacfofaaDoorWAt
import Derived.Test.YtbhhfpjiacfofaaDoorWEqStruct
import Derived.Test.YtbhhfpjiacfofaaDoorWRepsOne
import Derived.Test.YtbhhfpjiacfofaaDoorWInv
import Derived.Test.YtbhhfpjiacfofaaDoorWInvWords
import Derived.Test.YtbhhfpjiacfofaaDoorWGuard
import Derived.Test.YtbhhfpjiacfofaaDoorWNEv
import Derived.Test.YtbhhfpjiacfofaaDoorWMore
import Derived.Test.YtbhhfpjiacfofaaDoorShelf
import Derived.Lib.ConvBytes
import Derived.Lib.LaidTab
import Derived.Lib.AppendIntMem
import Derived.Lib.AtoiErrMem
import Derived.Lib.Join
import Derived.Recover
import Derived.Defers
import Derived.WalkSmall
import Derived.RangeFuncNested
import Derived.RangeFuncBound
import Derived.RangeFuncCalls
import Derived.RangeFuncLeaves
import Derived.RangeFuncBox
import Derived.OwnWalkIn
import Derived.TacticsInMore
import Derived.LoopNIn
import Derived.LoopIn
namespace Go.Proofs.YtbhhfpjiacfofaaDoor.P
open Go.RowKit Go.Proofs.YtbhhfpjiacfofaaDoorW.PrintWords Go.Proofs.YtbhhfpjiacfofaaDoorW.PrintLast Go.Proofs.YtbhhfpjiacfofaaDoorW.PrintMore
attribute [local go_sem] max2_int min2_int max_two min_two max_three min_three max_four min_four   -- for this text's walks alone
set_option linter.unusedVariables false
set_option linter.unusedSimpArgs false

theorem given_set4 (W:World) (b:Nat) (x0 x1 x2 y:Value) (h0:(W.cell? ⟨b,0,none⟩).isSome=true) (h1:(W.cell? ⟨b,1,none⟩).isSome=true) (h2:(W.cell? ⟨b,2,none⟩).isSome=true) :
    ((((W.setCell ⟨b,0,none⟩ x0).setCell ⟨b,1,none⟩ x1).setCell ⟨b,2,none⟩ x2).setCell ⟨b,1,none⟩ y).cell? ⟨b,0,none⟩=some x0∧((((W.setCell ⟨b,0,none⟩ x0).setCell ⟨b,1,none⟩ x1).setCell ⟨b,2,none⟩ x2).setCell ⟨b,1,none⟩ y).cell? ⟨b,1,none⟩=some y∧((((W.setCell ⟨b,0,none⟩ x0).setCell ⟨b,1,none⟩ x1).setCell ⟨b,2,none⟩ x2).setCell ⟨b,1,none⟩ y).cell? ⟨b,2,none⟩=some x2:=by
  have n01:(⟨b,0,none⟩:Addr)≠⟨b,1,none⟩:=by intro e;cases e
  have n02:(⟨b,0,none⟩:Addr)≠⟨b,2,none⟩:=by intro e;cases e
  have n12:(⟨b,1,none⟩:Addr)≠⟨b,2,none⟩:=by intro e;cases e
  have e2:=World.cell?_setCell_same' (W.setCell ⟨b,0,none⟩ x0) ⟨b,1,none⟩ x1 (by rw[World.cell?_setCell_other (h:=n01)];exact h1)
  have e1:((((W.setCell ⟨b,0,none⟩ x0).setCell ⟨b,1,none⟩ x1).setCell ⟨b,2,none⟩ x2).cell? ⟨b,1,none⟩).isSome=true:=by
    rw[World.cell?_setCell_other (h:=n12.symm),e2];rfl
  have e3:=World.cell?_setCell_same' ((W.setCell ⟨b,0,none⟩ x0).setCell ⟨b,1,none⟩ x1) ⟨b,2,none⟩ x2 (by rw[World.cell?_setCell_other (h:=n12),World.cell?_setCell_other (h:=n02)];exact h2)
  refine⟨?_,World.cell?_setCell_same' _ _ _ e1,?_⟩
  · rw[World.cell?_setCell_other (h:=n01.symm),World.cell?_setCell_other (h:=n02.symm),World.cell?_setCell_other (h:=n01.symm),World.cell?_setCell_same' _ _ _ h0]
  · rw[World.cell?_setCell_other (h:=n12),e3]
theorem bb_ {W0 W W':World} {g:Nat} {o:Obj} (h0:Aside0 (W0.heap[g]? = some o)) (hb:Below W.heap.size W W') (hr:W0.heap[g]? = some o→W.heap[g]? = some o:=by intro h_;(with_reducible repeat(first|refine blk_drewN ?_ _|refine blk_drew ?_|refine blk_alloc ?_ _));exact h_):Aside0 (W'.heap[g]? = some o):=Aside0.mk (blk_below (hr h0.out) hb)

def bm_ (n k:Nat):Array Bool:=((List.range n).map k.testBit).toArray
theorem fld_ {P:Program} {t:TypeId} {fs:Array Field} {xs:Array Value} {i:Nat} {f:Field} {v:Value} {w:World} (hu:P.underlying t=some (.struct fs)) (hf:fs[i]? = some f) (he:P.plainKey f.type=true) (hx:xs[f.offset]? = some v) :
    ((Sem.run P (Instr.field t (.agg xs) i) w).andThen fun a w'=>Result.ok (Next.value a) w')=Result.ok (Next.value v) w:=by
  have h1:Sem.run P (Instr.field t (.agg xs) i) w= .ok v w:=by
    unfold Instr.field
    simp[run_underlying hu,asAgg,hf]
    exact run_part_plain w he hx
  rw[h1];rfl
theorem pu_ {P:Program} {md:Region.Mode} {ops:Array Oper} {Q:Exit→Act→World→Prop} {S:World→Prop} {ds:List Nat} {fuel:Nat} {l:Array Bool} {a a':Act} {w:World} {oi:Oper} {v:Value} {T:Bool × List (List Nat × List Nat)} (i:Nat) (N:Tmp) (l':Array Bool)
    (hT:Aside0 (rtab md ops=T)) (h:wpAnyLast P md ops Q S ds fuel l' a' w)
    (hi:ops[i]? = some oi:=by rfl) (hN:oi.dst=some N:=by rfl) (hc:anyT T l.toList l'.toList i=true:=by kernel_rfl) (hQ:∀c a w,Q (.panic c) (a.put oi.dst v) w→Q (.panic c) a w:=by exact fun _ _ _ h=>h)
    (hw:Region.wanted oi (yielded ops a.tmps)=true:=by rfl) (hr:∀w,(execOp a.eval oi).run P w= .ok (.value v) w:=by intro w';go_simp;with_reducible rfl)
    (ha:a.put (some N) v=a':=by simp only[Act.put,List.setIfInBounds_toArray,List.set_cons_zero,List.set_cons_succ,i64_w,i32_w];rfl):wpAnyLast P md ops Q S ds (fuel+1) l a w :=
  pure_ l' hi hN (any_of hT.out hc) hQ (Or.inl ⟨hw,hr⟩) ha h
theorem pn_ {P:Program} {md:Region.Mode} {ops:Array Oper} {Q:Exit→Act→World→Prop} {S:World→Prop} {ds:List Nat} {fuel:Nat} {l:Array Bool} {a a':Act} {w:World} {oi:Oper} {T:Bool × List (List Nat × List Nat)} (i:Nat) (N:Tmp) (l':Array Bool)
    (hT:Aside0 (rtab md ops=T)) (h:wpAnyLast P md ops Q S ds fuel l' a' w)
    (hi:ops[i]? = some oi:=by rfl) (hN:oi.dst=some N:=by rfl) (hc:anyT T l.toList l'.toList i=true:=by kernel_rfl) (hQ:∀c a w,Q (.panic c) (a.put oi.dst undef) w→Q (.panic c) a w:=by exact fun _ _ _ h=>h)
    (hw:Region.wanted oi (yielded ops a.tmps)=false:=by rfl)
    (ha:a.put (some N) undef=a':=by simp only[Act.put,List.setIfInBounds_toArray,List.set_cons_zero,List.set_cons_succ,i64_w,i32_w];rfl):wpAnyLast P md ops Q S ds (fuel+1) l a w :=
  pure_ l' hi hN (any_of hT.out hc) hQ (Or.inr ⟨hw,rfl⟩) ha h
theorem tk_ {P:Program} {md:Region.Mode} {ops:Array Oper} {Q:Exit→Act→World→Prop} {S:World→Prop} {ds:List Nat} {fuel:Nat} {l:Array Bool} {a a':Act} {w:World} {oi:Oper} {v:Value} {T:Bool × List (List Nat × List Nat)} {B:List Nat} (i:Nat) (N:Tmp) (l':Array Bool)
    (hT:Aside0 (rtab md ops=T)) (hB:Aside0 (waitsOk T.2 B=true)) (hS:S w) (hi:ops[i]? = some oi) (hr:∀w,S w→(execOp a.eval oi).run P w= .ok (.value v) w) (h:wpAnyLast P md ops Q S ds fuel l' a' w)
    (hN:oi.dst=some N:=by rfl) (hc:takeW T B ds l.toList l'.toList i=true:=by kernel_rfl) (hQ:∀c a w,Q (.panic c) (a.put oi.dst v) w→Q (.panic c) a w:=by exact fun _ _ _ h=>h)
    (hw:Region.wanted oi (yielded ops a.tmps)=true:=by rfl)
    (ha:a.put (some N) v=a':=by simp only[Act.put,List.setIfInBounds_toArray,List.set_cons_zero,List.set_cons_succ,i64_w,i32_w];rfl):wpAnyLast P md ops Q S ds (fuel+1) l a w :=
  take_ l' hi hN (take_ofW hT.out hB.out hc) hQ (Or.inl ⟨hw,hr⟩) hS ha h
theorem eq_ {α:Sort _} {x y:α} (h:x=y:=by first|rfl|(simp;done)|(simp[*];done)|(simp;first|exact given_isEmpty _|exact(given_isEmpty _).symm)|(unfold wrap64;omega)|(congr 1;unfold wrap64;omega)):x=y:=h
theorem bk_ {W0 W:World} {g:Nat} {o:Obj} (h0:Aside0 (W0.heap[g]? = some o)) (hr:W0.heap[g]? = some o→W.heap[g]? = some o:=by intro h_;(with_reducible repeat(first|refine blk_drewN ?_ _|refine blk_drew ?_|refine blk_alloc ?_ _));exact h_):Aside0 (W.heap[g]? = some o):=Aside0.mk (hr h0.out)
theorem bl_ {n:Nat} {W0 W W':World} (h0:Aside0 (Below n W W0)) (hr:Below n W W0→Below n W W':=by intro h_;repeat(first|(with_reducible first|exact h_|apply below_alloc|apply pw_below_drewN|apply below_drew1|refine below_set ?_ (Aside0.out (by assumption)))|exact h_)):Aside0 (Below n W W'):=Aside0.mk (hr h0.out)
theorem bf_ {W0 W:World} {g:Nat} {o:Obj} (h0:Aside0 (W0.heap[g]? = some o)) (hr:W0.heap[g]? = some o→W.heap[g]? = some o:=by intro h_;repeat(first|(with_reducible exact h_)|(with_reducible first|refine blk_drewN ?_ _|refine blk_drew ?_|refine blk_alloc ?_ _)|refine blk_far ?_ (Aside0.out (by assumption)) _|exact h_)):Aside0 (W.heap[g]? = some o):=Aside0.mk (hr h0.out)
theorem bz_ {W0 W W':World} {g:Nat} {o:Obj} (h0:Aside0 (W0.heap[g]? = some o)) (hb:Below W.heap.size W W') (hr:W0.heap[g]? = some o→W.heap[g]? = some o:=by intro h_;repeat(first|(with_reducible exact h_)|(with_reducible first|refine blk_drewN ?_ _|refine blk_drew ?_|refine blk_alloc ?_ _)|refine blk_far ?_ (Aside0.out (by assumption)) _|exact h_)):Aside0 (W'.heap[g]? = some o):=Aside0.mk (blk_below (hr h0.out) hb)
theorem kfN_ {α:Type} {d:Kd α} {e:Nat} {W0 W:World} {base:Nat} {ok:Nat→Prop} {v:Value} {xs:List α} (g:Nat) (h0:Aside0 (Kd.N d e W0 base ok v xs)) (h1:∀k,ok k→ok k∧k≠g:=by exact fun _ hk=>⟨hk,hk.2⟩) (hr:Kd.N d e W0 base (fun k=>ok k∧k≠g) v xs→Kd.N d e W base (fun k=>ok k∧k≠g) v xs:=by intro h_;repeat(first|(with_reducible exact h_)|(with_reducible first|apply Kd.N_alloc|apply Kd.N_drewN|apply Kd.N_drew)|refine Kd.N_far ?_ (fun _ hk=>hk.2) _|exact h_)):Kd.N d e W base ok v xs:=Kd.N_mono (hr (Kd.N_mono h0.out h1)) (fun _ h_=>h_.1)
theorem kfV_ {α:Type} {d:Kd α} {e:Nat} {W0 W:World} {base:Nat} {ok:Nat→Prop} {v:Value} {xs:List α} (g:Nat) (h0:Aside0 (Kd.V d e W0 base ok v xs)) (h1:∀k,ok k→ok k∧k≠g:=by exact fun _ hk=>⟨hk,hk.2⟩) (hr:Kd.V d e W0 base (fun k=>ok k∧k≠g) v xs→Kd.V d e W base (fun k=>ok k∧k≠g) v xs:=by intro h_;repeat(first|(with_reducible exact h_)|(with_reducible first|apply Kd.V_alloc|apply Kd.V_drewN|apply Kd.V_drew)|refine Kd.V_far ?_ (fun _ hk=>hk.2) _|exact h_)):Kd.V d e W base ok v xs:=Kd.V_mono (hr (Kd.V_mono h0.out h1)) (fun _ h_=>h_.1)
theorem kfR_ {α:Type} {d:Kd α} {e:Nat} {W0 W:World} {base:Nat} {ok:Nat→Prop} {v:Value} {xs:List α} (g:Nat) (h0:Aside0 (d.R e W0 base ok v xs)) (h1:∀k,ok k→ok k∧k≠g:=by exact fun _ hk=>⟨hk,hk.2⟩) (hr:d.R e W0 base (fun k=>ok k∧k≠g) v xs→d.R e W base (fun k=>ok k∧k≠g) v xs:=by intro h_;repeat(first|(with_reducible exact h_)|(with_reducible first|apply Kd.R_alloc|apply Kd.R_drewN|apply Kd.R_drew)|refine Kd.R_far ?_ (fun _ hk=>hk.2) _|exact h_)):d.R e W base ok v xs:=Kd.R_mono (hr (Kd.R_mono h0.out h1)) (fun _ h_=>h_.1)
theorem bp1_ {w:World} {g i:Nat} {t:TypeId} {cs cs':Array Value} {u:Value} (h:w.heap[g]? = some (.cells cs t (0,0))) (e:cs.setIfInBounds i u=cs'):(w.setCell ⟨g,i,none⟩ u).heap[g]? = some (.cells cs' t (0,0)):=blk_put h i u e
theorem bq1_ {w:World} {g:Nat} {t:TypeId} {cs:Array Value} {p:Addr} {u:Value} (hn:Aside0 (g≠p.block)) (h:w.heap[g]? = some (.cells cs t (0,0))):(w.setCell p u).heap[g]? = some (.cells cs t (0,0)):=blk_far h hn.out u
theorem bp_ {W0 W:World} {g:Nat} {t:TypeId} {cs0 cs:Array Value} (h0:Aside0 (W0.heap[g]? = some (.cells cs0 t (0,0)))) (hr:W0.heap[g]? = some (.cells cs0 t (0,0))→W.heap[g]? = some (.cells cs t (0,0)):=by intro h_;(repeat(first|(with_reducible exact h_)|(with_reducible first|refine blk_drewN ?_ _|refine blk_drew ?_|refine blk_alloc ?_ _)|(apply bq1_;assumption)|apply bp1_|exact h_));all_goals rfl):Aside0 (W.heap[g]? = some (.cells cs t (0,0))):=Aside0.mk (hr h0.out)
theorem wh_ {W' W:World} {g:Nat} {o:Option Obj} (h:W'=W) (p:Aside0 (W.heap[g]? = o)):Aside0 (W'.heap[g]? = o):=h▸p
theorem wb_ {n:Nat} {W0 W' W:World} (h:W'=W) (p:Aside0 (Below n W0 W)):Aside0 (Below n W0 W'):=h▸p
theorem kdV_ {α:Type} {d:Kd α} {e:Nat} {W0 W:World} {base:Nat} {ok:Nat→Prop} {v:Value} {xs:List α} (h0:Kd.V d e W0 base ok v xs) (hr:Kd.V d e W0 base ok v xs→Kd.V d e W base ok v xs:=by intro h_;(with_reducible repeat(first|apply Kd.V_alloc|apply Kd.V_drewN|apply Kd.V_drew));exact h_):Kd.V d e W base ok v xs:=hr h0
theorem kdN_ {α:Type} {d:Kd α} {e:Nat} {W0 W:World} {base:Nat} {ok:Nat→Prop} {v:Value} {xs:List α} (h0:Kd.N d e W0 base ok v xs) (hr:Kd.N d e W0 base ok v xs→Kd.N d e W base ok v xs:=by intro h_;(with_reducible repeat(first|apply Kd.N_alloc|apply Kd.N_drewN|apply Kd.N_drew));exact h_):Kd.N d e W base ok v xs:=hr h0
theorem kdR_ {α:Type} {d:Kd α} {e:Nat} {W0 W:World} {base:Nat} {ok:Nat→Prop} {v:Value} {xs:List α} (h0:d.R e W0 base ok v xs) (hr:d.R e W0 base ok v xs→d.R e W base ok v xs:=by intro h_;(with_reducible repeat(first|apply Kd.R_alloc|apply Kd.R_drewN|apply Kd.R_drew));exact h_):d.R e W base ok v xs:=hr h0
theorem tb_ {P:Program} {w w':World} {name:String} {k:IntKind} {zs:List Int} (h:Lib.TabIs P w name k zs) (hb:Below w.heap.size w w'):Lib.TabIs P w' name k zs:=by
  unfold Lib.TabIs World.var? at h ⊢
  obtain⟨g,hg,h2⟩:=Option.bind_eq_some_iff.1 h
  have hlt:g<w.heap.size:=by
    apply Decidable.byContradiction
    intro hn
    rw[Array.getElem?_eq_none (by omega)] at h2
    cases h2
  rw[hg,Option.bind_some,hb.block g hlt]
  exact h2
theorem pu0_ {P:Program} {md:Region.Mode} {ops:Array Oper} {Q:Exit→Act→World→Prop} {S:World→Prop} {ds:List Nat} {fuel:Nat} {l:Array Bool} {a a':Act} {w:World} {oi:Oper} {v:Value} (i:Nat) (N:Tmp) (l':Array Bool)
    (h:wpAnyLast P md ops Q S ds fuel l' a' w)
    (hi:ops[i]? = some oi:=by rfl) (hN:oi.dst=some N:=by rfl) (hc:anyB md ops l l' i=true:=by kernel_rfl) (hQ:∀c a w,Q (.panic c) (a.put oi.dst v) w→Q (.panic c) a w:=by exact fun _ _ _ h=>h)
    (hw:Region.wanted oi (yielded ops a.tmps)=true:=by rfl) (hr:∀w,(execOp a.eval oi).run P w= .ok (.value v) w:=by intro w';go_simp;with_reducible rfl)
    (ha:a.put (some N) v=a':=by simp only[Act.put,List.setIfInBounds_toArray,List.set_cons_zero,List.set_cons_succ,i64_w,i32_w];rfl):wpAnyLast P md ops Q S ds (fuel+1) l a w :=
  pure_ l' hi hN hc hQ (Or.inl ⟨hw,hr⟩) ha h
theorem pn0_ {P:Program} {md:Region.Mode} {ops:Array Oper} {Q:Exit→Act→World→Prop} {S:World→Prop} {ds:List Nat} {fuel:Nat} {l:Array Bool} {a a':Act} {w:World} {oi:Oper} (i:Nat) (N:Tmp) (l':Array Bool)
    (h:wpAnyLast P md ops Q S ds fuel l' a' w)
    (hi:ops[i]? = some oi:=by rfl) (hN:oi.dst=some N:=by rfl) (hc:anyB md ops l l' i=true:=by kernel_rfl) (hQ:∀c a w,Q (.panic c) (a.put oi.dst undef) w→Q (.panic c) a w:=by exact fun _ _ _ h=>h)
    (hw:Region.wanted oi (yielded ops a.tmps)=false:=by rfl)
    (ha:a.put (some N) undef=a':=by simp only[Act.put,List.setIfInBounds_toArray,List.set_cons_zero,List.set_cons_succ,i64_w,i32_w];rfl):wpAnyLast P md ops Q S ds (fuel+1) l a w :=
  pure_ l' hi hN hc hQ (Or.inr ⟨hw,rfl⟩) ha h
theorem tk0_ {P:Program} {md:Region.Mode} {ops:Array Oper} {Q:Exit→Act→World→Prop} {S:World→Prop} {ds:List Nat} {fuel:Nat} {l:Array Bool} {a a':Act} {w:World} {oi:Oper} {v:Value} (i:Nat) (N:Tmp) (l':Array Bool)
    (hS:S w) (hi:ops[i]? = some oi) (hr:∀w,S w→(execOp a.eval oi).run P w= .ok (.value v) w) (h:wpAnyLast P md ops Q S ds fuel l' a' w)
    (hN:oi.dst=some N:=by rfl) (hc:takeB md ops ds l l' i=true:=by kernel_rfl) (hQ:∀c a w,Q (.panic c) (a.put oi.dst v) w→Q (.panic c) a w:=by exact fun _ _ _ h=>h)
    (hw:Region.wanted oi (yielded ops a.tmps)=true:=by rfl)
    (ha:a.put (some N) v=a':=by simp only[Act.put,List.setIfInBounds_toArray,List.set_cons_zero,List.set_cons_succ,i64_w,i32_w];rfl):wpAnyLast P md ops Q S ds (fuel+1) l a w :=
  take_ l' hi hN hc hQ (Or.inl ⟨hw,hr⟩) hS ha h
theorem gs_ {P:Program} {ops:Array Oper} {Q:Exit→Act→World→Prop} {oi:Oper} {N:Option Tmp} {a:Act} {w:World} {K:Act→World→Prop} {f:FuncId} {fn:Func} {as_:Array Operand} {ts:Array TypeId} (hf:P.funcs[f]? = some fn) (args:Array Value)
    (h:Calls P f args w fun e w'=>∃v,e= .returned v∧K (a.put N v) w') (hname:(fn.name == "runtime.NumGoroutine")=false:=by kernel_rfl) (hb:fn.body.isSome=true:=by rfl)
    (hw:Region.wanted oi (yielded ops a.tmps)=true:=by rfl) (hN:oi.dst=N:=by rfl) (hop:oi.op= .call { callee:= .value (.func f),args:=as_,argTypes:=ts}:=by rfl)
    (hargs:as_.map a.eval=args:=by (try simp only[List.map_toArray,List.map_cons,List.map_nil]);first|done|rfl|(simp only[List.length_drop,List.length_take];rfl)|(have z_:∀s_:ByteArray,s_.size≤9223372036854775807→ -(s_.size:Int)=wrap64 (-(s_.size:Int)):=(fun s_ h_=>by unfold wrap64;omega);rw[← z_ _ (by omega)];rfl)|(simp only[ByteArray.size_append];rfl)) :
    if Region.wanted oi (yielded ops a.tmps)=true then Oper.wp P oi a w K Q else K (a.put N undef) w:=goes_ hf hname hb args hw hN hop hargs h
theorem nm_ {P:Program} {md:Region.Mode} {ops:Array Oper} {Q:Exit→Act→World→Prop} {S:World→Prop} {ds:List Nat} {fuel:Nat} {l:Array Bool} {x a':Act} {v:Value} {w:World} (N:Tmp) (h:wpAnyLast P md ops Q S ds fuel l a' w)
    (ha:x.put (some N) v=a':=by simp only[Act.put,List.setIfInBounds_toArray,List.set_cons_zero,List.set_cons_succ,i64_w,i32_w];rfl):wpAnyLast P md ops Q S ds fuel l (x.put (some N) v) w:=norm_ ha h
theorem bc_ {w:World} {g:Nat} {t:TypeId} {cs:Array Value} {v:Value} (h:Aside0 (w.heap[g]? = some (.cells cs t (0,0)))) (i:Nat) (hv:cs[i]? = some v:=by rfl):w.cell? ⟨g,i,none⟩=some v:=(blk_cell h.out i).trans hv
theorem na_ {W0 W:World} {g g':Nat} {o:Obj} (h0:Aside0 (W0.heap[g]? = some o)) (hg:g'=W.heap.size) (hr:W0.heap[g]? = some o→W.heap[g]? = some o:=by intro h_;(with_reducible repeat(first|refine blk_drewN ?_ _|refine blk_drew ?_|refine blk_alloc ?_ _));exact h_):Aside0 (g≠g'):=Aside0.mk (by rw[hg];exact Nat.ne_of_lt (blk_lt (hr h0.out)))
theorem nb_ {W0 W:World} {g g':Nat} {o:Obj} (h0:Aside0 (W0.heap[g]? = some o)) (hg:g'=W.heap.size) (hr:W0.heap[g]? = some o→W.heap[g]? = some o:=by intro h_;(with_reducible repeat(first|refine blk_drewN ?_ _|refine blk_drew ?_|refine blk_alloc ?_ _));exact h_):Aside0 (g'≠g):=Aside0.mk (by rw[hg];exact Nat.ne_of_gt (blk_lt (hr h0.out)))
theorem sz_ {w W0 W:World} {g':Nat} (h0:Aside0 (Below w.heap.size w W0)) (hg:g'=W.heap.size) (hr:Below w.heap.size w W0→Below w.heap.size w W:=by intro h_;repeat(first|(with_reducible first|exact h_|apply below_alloc|apply pw_below_drewN|apply below_drew1|refine below_set ?_ (Aside0.out (by assumption)))|exact h_)):Aside0 (w.heap.size≤g'):=Aside0.mk (by rw[hg];exact below_size (hr h0.out))
theorem gl_ {P:Program} {ops:Array Oper} {Q:Exit→Act→World→Prop} {rest:List Oper} {oi:Oper} {a:Act} {w:World} {f:FuncId} {fn:Func} {as_:Array Operand} {ts:Array TypeId} (N:Option Tmp) (hf:P.funcs[f]? = some fn) (args:Array Value)
    (h:Calls P f args w fun e w'=>∃v,e= .returned v∧wpList P ops Q rest (a.put N v) w') (hd:oi.dst=N:=by rfl) (hg:oi.guard=none:=by rfl) (hname:(fn.name == "runtime.NumGoroutine")=false:=by kernel_rfl) (hb:fn.body.isSome=true:=by rfl)
    (hop:oi.op= .call { callee:= .value (.func f),args:=as_,argTypes:=ts}:=by rfl)
    (hargs:as_.map a.eval=args:=by (try simp only[List.map_toArray,List.map_cons,List.map_nil]);first|done|rfl|(simp only[List.length_drop,List.length_take];rfl)|(have z_:∀s_:ByteArray,s_.size≤9223372036854775807→ -(s_.size:Int)=wrap64 (-(s_.size:Int)):=(fun s_ h_=>by unfold wrap64;omega);rw[← z_ _ (by omega)];rfl)|(simp only[ByteArray.size_append];rfl)) :
    wpList P ops Q (oi::rest) a w:=goesL_ N hd hg hf hname hb args hop hargs h
theorem be_ {P:Program} {ops:Array Oper} {Q:Exit→Act→World→Prop} {rest:List Oper} {o:Oper} {a:Act} {W:World} (N:Tmp) (cs:Array Value) (t:TypeId)
    (h:∀g,g=W.heap.size→∀w1,w1.heap[g]? = some (.cells cs t (0,0))→Below W.heap.size W w1→wpList P ops Q rest (a.put o.dst (.pointer (some ⟨g,0,none⟩))) w1)
    (hgd:o.guard=none:=by rfl) (hd:o.dst=some N:=by rfl) (hrun:(execOp a.eval o).run P W= .ok (.value (.pointer (some ⟨W.heap.size,0,none⟩))) (W.alloc (.cells cs t (0,0))):=by first|(go_simp;done)|(go_simp;rfl)):wpList P ops Q (o::rest) a W :=
  box_event hgd hd hrun h
theorem bo1_ {w:World} {g:Nat} {t:TypeId} {v0:Value} (h:Aside0 (w.heap[g]? = some (.cells #[v0] t (0,0)))):w.cell? ⟨g,0,none⟩=some v0∧w.frozen? ⟨g,0,none⟩=false :=
  ⟨blk_cell h.out 0,blk_frozen h.out 0⟩
theorem bo2_ {w:World} {g:Nat} {t:TypeId} {v0 v1:Value} (h:Aside0 (w.heap[g]? = some (.cells #[v0,v1] t (0,0)))):w.cell? ⟨g,0,none⟩=some v0∧w.cell? ⟨g,1,none⟩=some v1∧w.frozen? ⟨g,0,none⟩=false∧w.frozen? ⟨g,1,none⟩=false :=
  ⟨blk_cell h.out 0,blk_cell h.out 1,blk_frozen h.out 0,blk_frozen h.out 1⟩
theorem bo3_ {w:World} {g:Nat} {t:TypeId} {v0 v1 v2:Value} (h:Aside0 (w.heap[g]? = some (.cells #[v0,v1,v2] t (0,0)))):w.cell? ⟨g,0,none⟩=some v0∧w.cell? ⟨g,1,none⟩=some v1∧w.cell? ⟨g,2,none⟩=some v2∧w.frozen? ⟨g,0,none⟩=false∧w.frozen? ⟨g,1,none⟩=false∧w.frozen? ⟨g,2,none⟩=false :=
  ⟨blk_cell h.out 0,blk_cell h.out 1,blk_cell h.out 2,blk_frozen h.out 0,blk_frozen h.out 1,blk_frozen h.out 2⟩
theorem bo4_ {w:World} {g:Nat} {t:TypeId} {v0 v1 v2 v3:Value} (h:Aside0 (w.heap[g]? = some (.cells #[v0,v1,v2,v3] t (0,0)))):w.cell? ⟨g,0,none⟩=some v0∧w.cell? ⟨g,1,none⟩=some v1∧w.cell? ⟨g,2,none⟩=some v2∧w.cell? ⟨g,3,none⟩=some v3∧w.frozen? ⟨g,0,none⟩=false∧w.frozen? ⟨g,1,none⟩=false∧w.frozen? ⟨g,2,none⟩=false∧w.frozen? ⟨g,3,none⟩=false :=
  ⟨blk_cell h.out 0,blk_cell h.out 1,blk_cell h.out 2,blk_cell h.out 3,blk_frozen h.out 0,blk_frozen h.out 1,blk_frozen h.out 2,blk_frozen h.out 3⟩
theorem bo5_ {w:World} {g:Nat} {t:TypeId} {v0 v1 v2 v3 v4:Value} (h:Aside0 (w.heap[g]? = some (.cells #[v0,v1,v2,v3,v4] t (0,0)))):w.cell? ⟨g,0,none⟩=some v0∧w.cell? ⟨g,1,none⟩=some v1∧w.cell? ⟨g,2,none⟩=some v2∧w.cell? ⟨g,3,none⟩=some v3∧w.cell? ⟨g,4,none⟩=some v4∧w.frozen? ⟨g,0,none⟩=false∧w.frozen? ⟨g,1,none⟩=false∧w.frozen? ⟨g,2,none⟩=false∧w.frozen? ⟨g,3,none⟩=false∧w.frozen? ⟨g,4,none⟩=false :=
  ⟨blk_cell h.out 0,blk_cell h.out 1,blk_cell h.out 2,blk_cell h.out 3,blk_cell h.out 4,blk_frozen h.out 0,blk_frozen h.out 1,blk_frozen h.out 2,blk_frozen h.out 3,blk_frozen h.out 4⟩
theorem bo6_ {w:World} {g:Nat} {t:TypeId} {v0 v1 v2 v3 v4 v5:Value} (h:Aside0 (w.heap[g]? = some (.cells #[v0,v1,v2,v3,v4,v5] t (0,0)))):w.cell? ⟨g,0,none⟩=some v0∧w.cell? ⟨g,1,none⟩=some v1∧w.cell? ⟨g,2,none⟩=some v2∧w.cell? ⟨g,3,none⟩=some v3∧w.cell? ⟨g,4,none⟩=some v4∧w.cell? ⟨g,5,none⟩=some v5∧w.frozen? ⟨g,0,none⟩=false∧w.frozen? ⟨g,1,none⟩=false∧w.frozen? ⟨g,2,none⟩=false∧w.frozen? ⟨g,3,none⟩=false∧w.frozen? ⟨g,4,none⟩=false∧w.frozen? ⟨g,5,none⟩=false :=
  ⟨blk_cell h.out 0,blk_cell h.out 1,blk_cell h.out 2,blk_cell h.out 3,blk_cell h.out 4,blk_cell h.out 5,blk_frozen h.out 0,blk_frozen h.out 1,blk_frozen h.out 2,blk_frozen h.out 3,blk_frozen h.out 4,blk_frozen h.out 5⟩
theorem bo7_ {w:World} {g:Nat} {t:TypeId} {v0 v1 v2 v3 v4 v5 v6:Value} (h:Aside0 (w.heap[g]? = some (.cells #[v0,v1,v2,v3,v4,v5,v6] t (0,0)))):w.cell? ⟨g,0,none⟩=some v0∧w.cell? ⟨g,1,none⟩=some v1∧w.cell? ⟨g,2,none⟩=some v2∧w.cell? ⟨g,3,none⟩=some v3∧w.cell? ⟨g,4,none⟩=some v4∧w.cell? ⟨g,5,none⟩=some v5∧w.cell? ⟨g,6,none⟩=some v6∧w.frozen? ⟨g,0,none⟩=false∧w.frozen? ⟨g,1,none⟩=false∧w.frozen? ⟨g,2,none⟩=false∧w.frozen? ⟨g,3,none⟩=false∧w.frozen? ⟨g,4,none⟩=false∧w.frozen? ⟨g,5,none⟩=false∧w.frozen? ⟨g,6,none⟩=false :=
  ⟨blk_cell h.out 0,blk_cell h.out 1,blk_cell h.out 2,blk_cell h.out 3,blk_cell h.out 4,blk_cell h.out 5,blk_cell h.out 6,blk_frozen h.out 0,blk_frozen h.out 1,blk_frozen h.out 2,blk_frozen h.out 3,blk_frozen h.out 4,blk_frozen h.out 5,blk_frozen h.out 6⟩
theorem bo8_ {w:World} {g:Nat} {t:TypeId} {v0 v1 v2 v3 v4 v5 v6 v7:Value} (h:Aside0 (w.heap[g]? = some (.cells #[v0,v1,v2,v3,v4,v5,v6,v7] t (0,0)))):w.cell? ⟨g,0,none⟩=some v0∧w.cell? ⟨g,1,none⟩=some v1∧w.cell? ⟨g,2,none⟩=some v2∧w.cell? ⟨g,3,none⟩=some v3∧w.cell? ⟨g,4,none⟩=some v4∧w.cell? ⟨g,5,none⟩=some v5∧w.cell? ⟨g,6,none⟩=some v6∧w.cell? ⟨g,7,none⟩=some v7∧w.frozen? ⟨g,0,none⟩=false∧w.frozen? ⟨g,1,none⟩=false∧w.frozen? ⟨g,2,none⟩=false∧w.frozen? ⟨g,3,none⟩=false∧w.frozen? ⟨g,4,none⟩=false∧w.frozen? ⟨g,5,none⟩=false∧w.frozen? ⟨g,6,none⟩=false∧w.frozen? ⟨g,7,none⟩=false :=
  ⟨blk_cell h.out 0,blk_cell h.out 1,blk_cell h.out 2,blk_cell h.out 3,blk_cell h.out 4,blk_cell h.out 5,blk_cell h.out 6,blk_cell h.out 7,blk_frozen h.out 0,blk_frozen h.out 1,blk_frozen h.out 2,blk_frozen h.out 3,blk_frozen h.out 4,blk_frozen h.out 5,blk_frozen h.out 6,blk_frozen h.out 7⟩
theorem bo9_ {w:World} {g:Nat} {t:TypeId} {v0 v1 v2 v3 v4 v5 v6 v7 v8:Value} (h:Aside0 (w.heap[g]? = some (.cells #[v0,v1,v2,v3,v4,v5,v6,v7,v8] t (0,0)))):w.cell? ⟨g,0,none⟩=some v0∧w.cell? ⟨g,1,none⟩=some v1∧w.cell? ⟨g,2,none⟩=some v2∧w.cell? ⟨g,3,none⟩=some v3∧w.cell? ⟨g,4,none⟩=some v4∧w.cell? ⟨g,5,none⟩=some v5∧w.cell? ⟨g,6,none⟩=some v6∧w.cell? ⟨g,7,none⟩=some v7∧w.cell? ⟨g,8,none⟩=some v8∧w.frozen? ⟨g,0,none⟩=false∧w.frozen? ⟨g,1,none⟩=false∧w.frozen? ⟨g,2,none⟩=false∧w.frozen? ⟨g,3,none⟩=false∧w.frozen? ⟨g,4,none⟩=false∧w.frozen? ⟨g,5,none⟩=false∧w.frozen? ⟨g,6,none⟩=false∧w.frozen? ⟨g,7,none⟩=false∧w.frozen? ⟨g,8,none⟩=false :=
  ⟨blk_cell h.out 0,blk_cell h.out 1,blk_cell h.out 2,blk_cell h.out 3,blk_cell h.out 4,blk_cell h.out 5,blk_cell h.out 6,blk_cell h.out 7,blk_cell h.out 8,blk_frozen h.out 0,blk_frozen h.out 1,blk_frozen h.out 2,blk_frozen h.out 3,blk_frozen h.out 4,blk_frozen h.out 5,blk_frozen h.out 6,blk_frozen h.out 7,blk_frozen h.out 8⟩
theorem ew_ {α:Sort _} {x y:α} (h:x=y:=by first|rfl|(simp[errW_none,errW_some] <;> rfl)|(simp[*,errW_none,errW_some] <;> first|rfl|exact given_isEmpty _|exact(given_isEmpty _).symm)):x=y:=h
theorem rs0_ {P:Program} {md:Region.Mode} {ops:Array Oper} {Q:Exit→Act→World→Prop} {S':World→Prop} {ds ds':List Nat}:∀(fuel:Nat) (l:Array Bool) (a:Act) (w:World),wpAnyLast P md ops Q S' ds' fuel l a w→wpAnyLast P md ops Q (fun _=>True) ds fuel l a w
  | 0,_,_,_,h=>h
  | fuel+1,_,_,_,h=>⟨h.1,fun i hi=>wpOp_mono (fun a' w' h'=>⟨fun _ _=>trivial,rs0_ fuel _ a' w' h'.2⟩) (h.2 i hi)⟩
def restB (ds:List Nat) (l:Array Bool):Bool:=(List.range l.size).all fun j=>l.getD j true||ds.contains j
theorem rs1_ {P:Program} {md:Region.Mode} {ops:Array Oper} {Q:Exit→Act→World→Prop} {S S':World→Prop} {ds ds':List Nat}:∀(fuel:Nat) (l:Array Bool) (a:Act) (w:World),(∀j,l.getD j true=false→j∈ds)→wpAnyLast P md ops Q S' ds' fuel l a w→wpAnyLast P md ops Q S ds fuel l a w
  | 0,_,_,_,_,h=>h
  | fuel+1,l,_,_,hl,h=>⟨h.1,fun i hi=>wpOp_mono (fun a' w' h'=>⟨fun hd=>absurd (hl i (mem_ready.1 hi).1) hd,rs1_ fuel _ a' w' (fun j hj=>by
      by_cases hij:i=j
      · subst hij;exact hl i (mem_ready.1 hi).1
      · rw[getD_set_ne true hij] at hj;exact hl j hj) h'.2⟩) (h.2 i hi)⟩
theorem restart0_ {P:Program} {md:Region.Mode} {ops:Array Oper} {Q:Exit→Act→World→Prop} {S':World→Prop} {ds:List Nat} {fuel:Nat} {l:Array Bool} {a:Act} {w:World} (ds':List Nat) (hS:S' w) (h:S' w→wpAnyLast P md ops Q S' ds' fuel l a w):wpAnyLast P md ops Q (fun _=>True) ds fuel l a w:=rs0_ fuel l a w (h hS)
theorem restart1_ {P:Program} {md:Region.Mode} {ops:Array Oper} {Q:Exit→Act→World→Prop} {S S':World→Prop} {ds:List Nat} {fuel:Nat} {l:Array Bool} {a:Act} {w:World} (ds':List Nat) (hc:restB ds l=true) (hS:S' w) (h:S' w→wpAnyLast P md ops Q S' ds' fuel l a w):wpAnyLast P md ops Q S ds fuel l a w :=
  rs1_ fuel l a w (fun j hj=>by
    unfold restB at hc
    rcases Nat.lt_or_ge j l.size with hlt|hge
    · have h1:=List.all_eq_true.1 hc j (List.mem_range.2 hlt)
      rw[hj,Bool.false_or] at h1
      simpa using h1
    · simp[Array.getElem?_eq_none hge] at hj) (h hS)
theorem kr_ {α:Type} {d:Kd α} {e:Nat} {W0 W:World} {base:Nat} {ok:Nat→Prop} {v:Value} {xs:List α} (h0:Aside0 (d.R e W0 base ok v xs)) (hr:d.R e W0 base ok v xs→d.R e W base ok v xs:=by intro h_;(with_reducible repeat(first|apply Kd.R_alloc|apply Kd.R_drewN|apply Kd.R_drew));exact h_):d.R e W base ok v xs:=hr h0.out
theorem kc_ {α:Type} {d:Kd α} {e:Nat} {W0 W:World} {base:Nat} {ok:Nat→Prop} {A:Option Addr} {n c:Nat} {xs:List α} (h0:Aside0 (d.R e W0 base ok (.slice A n c) xs)) (hr:d.C W0 A xs.length xs→d.C W A xs.length xs:=by intro h_;repeat(first|exact h_|(with_reducible refine Kd.C_alloc ?_ _)|(with_reducible refine Kd.C_drewN ?_ _)|(with_reducible refine Kd.C_drew ?_))):d.C W A xs.length xs:=hr (Kd.R_reads' h0.out).2.2
theorem kl_ {α:Type} {d:Kd α} {e:Nat} {W0:World} {base:Nat} {ok:Nat→Prop} {A:Option Addr} {n c:Nat} {xs:List α} (h0:Aside0 (d.R e W0 base ok (.slice A n c) xs)):n≤c:=(Kd.R_reads' h0.out).2.1
theorem krV_ {α:Type} {d:Kd α} {e:Nat} {W0 W:World} {base:Nat} {ok:Nat→Prop} {v:Value} {xs:List α} (h0:Aside0 (Kd.V d e W0 base ok v xs)) (hr:Kd.V d e W0 base ok v xs→Kd.V d e W base ok v xs:=by intro h_;(with_reducible repeat(first|apply Kd.V_alloc|apply Kd.V_drewN|apply Kd.V_drew));exact h_):Kd.V d e W base ok v xs:=hr h0.out
theorem krN_ {α:Type} {d:Kd α} {e:Nat} {W0 W:World} {base:Nat} {ok:Nat→Prop} {v:Value} {xs:List α} (h0:Aside0 (Kd.N d e W0 base ok v xs)) (hr:Kd.N d e W0 base ok v xs→Kd.N d e W base ok v xs:=by intro h_;(with_reducible repeat(first|apply Kd.N_alloc|apply Kd.N_drewN|apply Kd.N_drew));exact h_):Kd.N d e W base ok v xs:=hr h0.out
theorem krS_ {α:Type} {d:Kd α} {e:Nat} {W0 W:World} {base:Nat} {ok:Nat→Prop} {v:Value} {xs:List α} (h0:Aside0 (Kd.S d e W0 base ok v xs)) (hr:Kd.S d e W0 base ok v xs→Kd.S d e W base ok v xs:=by intro h_;(with_reducible repeat(first|apply Kd.S_alloc|apply Kd.S_drewN|apply Kd.S_drew));exact h_):Kd.S d e W base ok v xs:=hr h0.out
theorem krQ_ {α:Type} {d:Kd α} {e:Nat} {W0 W:World} {base:Nat} {ok:Nat→Prop} {v:Value} {xs:List α} (h0:Aside0 (Kd.Q d e W0 base ok v xs)) (hr:Kd.Q d e W0 base ok v xs→Kd.Q d e W base ok v xs:=by intro h_;(with_reducible repeat(first|apply Kd.Q_alloc|apply Kd.Q_drewN|apply Kd.Q_drew));exact h_):Kd.Q d e W base ok v xs:=hr h0.out
theorem ke_ {α β:Type} {d:Kd α} {d':Kd β} {e e':Nat} {W0 W w1:World} {base:Nat} {ok ok':Nat→Prop} {u v:Value} {xs:List α} {ys:List β} (h0:Aside0 (d.R e W0 base ok u xs)) (ho:d'.R e' w1 W.heap.size ok' v ys) (hb:Below W.heap.size W w1)
    (hr:d.R e W0 base ok u xs→d.R e W base ok u xs:=by intro h_;(with_reducible repeat(first|apply Kd.R_alloc|apply Kd.R_drewN|apply Kd.R_drew));exact h_):Aside0 (d.R e w1 base (fun k=>ok k∧some k≠v.ownBlock) u xs):=Aside0.mk (Kd.R_elder' (hr h0.out) (Kd.R_base ho) hb)
theorem kb_ {α:Type} {d:Kd α} {e:Nat} {W0 W w1:World} {base:Nat} {ok:Nat→Prop} {u:Value} {xs:List α} (h0:Aside0 (d.R e W0 base ok u xs)) (hb:Below W.heap.size W w1)
    (hr:d.R e W0 base ok u xs→d.R e W base ok u xs:=by intro h_;(with_reducible repeat(first|apply Kd.R_alloc|apply Kd.R_drewN|apply Kd.R_drew));exact h_):Aside0 (d.R e w1 base ok u xs):=Aside0.mk (Kd.R_below (hr h0.out) hb)
theorem kx_ {α:Type} {d:Kd α} {e:Nat} {W0 W:World} {base:Nat} {ok:Nat→Prop} {u:Value} {xs:List α} (h0:Aside0 (d.R e W0 base ok u xs))
    (hr:d.R e W0 base ok u xs→d.R e W base ok u xs:=by intro h_;(with_reducible repeat(first|apply Kd.R_alloc|apply Kd.R_drewN|apply Kd.R_drew));exact h_):∀k,u.ownBlock=some k→k<W.heap.size:=Kd.R_lt (hr h0.out)
theorem given_set22 (W:World) (b:Nat) (x0 x1 y0 y1:Value) (h0:(W.cell? ⟨b,0,none⟩).isSome=true) (h1:(W.cell? ⟨b,1,none⟩).isSome=true) :
    ((((W.setCell ⟨b,0,none⟩ x0).setCell ⟨b,1,none⟩ x1).setCell ⟨b,0,none⟩ y0).setCell ⟨b,1,none⟩ y1).cell? ⟨b,0,none⟩=some y0∧((((W.setCell ⟨b,0,none⟩ x0).setCell ⟨b,1,none⟩ x1).setCell ⟨b,0,none⟩ y0).setCell ⟨b,1,none⟩ y1).cell? ⟨b,1,none⟩=some y1:=by
  have n01:(⟨b,0,none⟩:Addr)≠⟨b,1,none⟩:=by intro e;cases e
  have a1:((W.setCell ⟨b,0,none⟩ x0).cell? ⟨b,0,none⟩)=some x0:=World.cell?_setCell_same' _ _ _ h0
  have a2:((W.setCell ⟨b,0,none⟩ x0).cell? ⟨b,1,none⟩).isSome=true:=by rw[World.cell?_setCell_other (h:=n01)];exact h1
  have a3:(((W.setCell ⟨b,0,none⟩ x0).setCell ⟨b,1,none⟩ x1).cell? ⟨b,0,none⟩)=some x0:=by rw[World.cell?_setCell_other (h:=n01.symm)];exact a1
  have a4:((((W.setCell ⟨b,0,none⟩ x0).setCell ⟨b,1,none⟩ x1).setCell ⟨b,0,none⟩ y0).cell? ⟨b,0,none⟩)=some y0:=World.cell?_setCell_same' _ _ _ (by rw[a3];rfl)
  have a5:((((W.setCell ⟨b,0,none⟩ x0).setCell ⟨b,1,none⟩ x1).setCell ⟨b,0,none⟩ y0).cell? ⟨b,1,none⟩).isSome=true:=by
    rw[World.cell?_setCell_other (h:=n01),World.cell?_setCell_same' _ _ _ a2];rfl
  exact⟨by rw[World.cell?_setCell_other (h:=n01.symm)];exact a4,World.cell?_setCell_same' _ _ _ a5⟩
theorem ax1_ (c:Int) (h0:0≤c) (h1:c<1):c=0:=by omega
theorem ax2_ (c:Int) (h0:0≤c) (h1:c<2):c=0∨c=1:=by omega
theorem ax3_ (c:Int) (h0:0≤c) (h1:c<3):c=0∨c=1∨c=2:=by omega
theorem ax4_ (c:Int) (h0:0≤c) (h1:c<4):c=0∨c=1∨c=2∨c=3:=by omega
theorem ax5_ (c:Int) (h0:0≤c) (h1:c<5):c=0∨c=1∨c=2∨c=3∨c=4:=by omega
theorem ax6_ (c:Int) (h0:0≤c) (h1:c<6):c=0∨c=1∨c=2∨c=3∨c=4∨c=5:=by omega
theorem ax7_ (c:Int) (h0:0≤c) (h1:c<7):c=0∨c=1∨c=2∨c=3∨c=4∨c=5∨c=6:=by omega
theorem ax8_ (c:Int) (h0:0≤c) (h1:c<8):c=0∨c=1∨c=2∨c=3∨c=4∨c=5∨c=6∨c=7:=by omega
theorem kp_ {w W0 W:World} {g:Nat} {row:Option Nat} (h:Aside0 (KeepBut w W0 g row)) (hr:KeepBut w W0 g row→KeepBut w W g row:=by intro h_;repeat(first|(with_reducible first|exact h_|apply KeepBut.set_|apply keep_drewN|apply keep_drew|apply keep_alloc|refine keep_far ?_ (Aside0.out (by assumption)) _)|exact h_)):KeepBut w W g row:=hr h.out
theorem od_ {p:Prop} [Decidable p] (h:decide p=true:=by first|(with_reducible assumption)|assumption):p:=of_decide_eq_true h
theorem hbc_ {w W:World} {p:Addr} {v:Value} (h:Aside0 (Below w.heap.size w W)) (hx:w.cell? p=some v):W.cell? p=some v:=(h.out.cell (World.block_lt_of_cell? _ _ hx)).trans hx
theorem ifn_ {α:Type} {c:Prop} [Decidable c] {a:Option α} {r:α} (h:(if c then a else none)=some r):c∧a=some r:=by split at h;(exact⟨by assumption,h⟩);(cases h)
theorem ifp_ {α:Type} {c:Prop} [Decidable c] {a:Option α} {r:α} (h:(if c then none else a)=some r):¬c∧a=some r:=by split at h;(cases h);(exact⟨by assumption,h⟩)
def orf_ {α:Type} (a b:Option α):Option α:=match a with|some x=>some x|none=>b
theorem orf_or {α:Type} {a b:Option α} {r:α} (h:orf_ a b=some r):a=some r∨b=some r:=by cases a with|none=>exact .inr h|some x=>exact .inl h
theorem gp_ {P:Program} {ops:Array Oper} {Q:Exit→Act→World→Prop} {oi:Oper} {N:Option Tmp} {a:Act} {w:World} {K:Act→World→Prop} {f:FuncId} {fn:Func} {as_:Array Operand} {ts:Array TypeId} (hf:P.funcs[f]? = some fn) (hname:(fn.name == "runtime.NumGoroutine")=false) (hb:fn.body.isSome=true) (args:Array Value)
    (hw:Region.wanted oi (yielded ops a.tmps)=true) (hN:oi.dst=N) (hop:oi.op= .call { callee:= .value (.func f),args:=as_,argTypes:=ts}) (hargs:as_.map a.eval=args)
    (h:Calls P f args w fun e w'=>∃ch,e= .panicked ch∧Q (.panic ch) a w'):if Region.wanted oi (yielded ops a.tmps)=true then Oper.wp P oi a w K Q else K (a.put N undef) w:=by
  rw[if_pos hw]
  have he:=enters_ hf hname hb args w
  have hrun:(execOp a.eval oi).run P w= .ok (.enter f args) w:=by
    unfold execOp
    simp[hop,resolve,Deferred.ofValue,invoke,Act.eval,hargs,he]
  unfold Oper.wp
  rw[hrun,Oper.upon_enter]
  refine h.mono fun e w'' hh=>?_
  obtain⟨ch,rfl,hq⟩:=hh
  exact hq

theorem given_isEmpty (l:List UInt8):l.isEmpty= !(l !=[]):=by cases l <;> rfl


def errW:Option Int→Value
  | none=> .nilIface
  | some c=> .iface 0 (.int .i64 c)
theorem errW_none:errW none= .nilIface:=rfl
theorem errW_some (c:Int):errW (some c)= .iface 0 (.int .i64 c):=rfl

theorem info5:(Tryd.prog.info? 5).map (fun i=>(i.zero,i.size,i.bytes))=some (some (.int .u8 0),1,1):=by kernel_rfl
theorem info9:(Tryd.prog.info? 9).map (fun i=>(i.zero,i.size,i.bytes))=some (some (.string ⟨#[]⟩),1,16):=by kernel_rfl
theorem info35:(Tryd.prog.info? 35).map (fun i=>(i.zero,i.size,i.bytes))=some (some (.agg #[(.bool false),(.slice none 0 0),(.bool false)]),3,40):=by kernel_rfl
theorem info37:(Tryd.prog.info? 37).map (fun i=>(i.zero,i.size,i.bytes))=some (some (.agg #[(.string ⟨#[]⟩),(.string ⟨#[]⟩)]),2,32):=by kernel_rfl
theorem info38:(Tryd.prog.info? 38).map (fun i=>(i.zero,i.size,i.bytes))=some (some (.slice none 0 0),1,24):=by kernel_rfl
theorem info55:(Tryd.prog.info? 55).map (fun i=>(i.zero,i.size,i.bytes))=some (some (.agg #[(.int .i64 0),(.int .i64 0),(.int .i64 0),(.int .i64 0)]),4,32):=by kernel_rfl
-- the values' own types
/-! #### struct type 37 -/
structure S37 where
  f0:ByteArray
  f1:ByteArray
def z37:S37:=⟨(⟨#[]⟩:ByteArray),(⟨#[]⟩:ByteArray)⟩
def k37:Kd S37:=Kd.iso (Kd.pair Kd.string Kd.string) (fun x:S37=>(x.f0,x.f1))
theorem k37_open {w:World} {x:S37} {cs:List Value} (h:k37.K w x cs):cs=[.string x.f0,.string x.f1]:=by
  obtain⟨_,_,rfl,rfl,rfl⟩:=h
  exact rfl
theorem k37_openM {w:World} {base:Nat} {ok:Nat→Prop} {x:S37} {cs:List Value} (h:k37.M w base ok x cs):cs=[.string x.f0,.string x.f1]:=by
  obtain⟨_,_,rfl,rfl,rfl⟩:=h
  exact rfl
theorem k37_mk (w:World) (x:S37):k37.K w x [.string x.f0,.string x.f1]:=⟨[.string x.f0],[.string x.f1],rfl,rfl,rfl⟩
theorem k37_mkM (w:World) (base:Nat) (ok:Nat→Prop) (x:S37):k37.M w base ok x [.string x.f0,.string x.f1]:=⟨[.string x.f0],[.string x.f1],rfl,rfl,rfl⟩
theorem k37_mkF (W:World) (ok:Nat→Prop) (x:S37):Kd.FK k37 W ok x [.string x.f0,.string x.f1]:=fun W2 _=>k37_mk W2 x
def rd_T37 (xs:List S37) (i:Int):S37:=xs.getD i.toNat z37
theorem at_T37 {w:World} {A:Option Addr} {n:Nat} {xs:List S37} (h:Kd.C k37 w A n xs) (i:Int) (h0:0≤i) (h1:i<n):∃ad ,A=some ad∧w.cell? (ad.add (i.toNat*2))=some (.string (rd_T37 xs i).f0)∧w.cell? ⟨(ad.add (i.toNat*2)).block,(ad.add (i.toNat*2)).off+1,none⟩=some (.string (rd_T37 xs i).f1):=by
  obtain⟨ad,c,e,_,hK,hc0⟩:=Kd.C_get h z37 i h0 h1
  have hc:∀j u,c[j]? = some u→w.cell? (ad.add (i.toNat*2+j))=some u:=hc0
  obtain rfl:=k37_open hK
  exact⟨ad,e,hc 0 _ rfl,by rw[← add_field _ _ 1 (by omega)];exact hc 1 _ rfl⟩

def rd_L5 (xs:List (List S37)) (i:Int):(List S37):=xs.getD i.toNat ([]:List S37)
theorem at_L5 {w:World} {A:Option Addr} {n:Nat} {xs:List (List S37)} (h:Kd.C (Kd.slice 37 k37) w A n xs) (i:Int) (h0:0≤i) (h1:i<n):∃ad A0 c0,A=some ad∧w.cell? (ad.add i.toNat)=some (.slice A0 (rd_L5 xs i).length c0)∧(rd_L5 xs i).length≤c0∧k37.C w A0 (rd_L5 xs i).length (rd_L5 xs i):=by
  obtain⟨ad,c,e,_,hK,hc0⟩:=Kd.C_get h ([]:List S37) i h0 h1
  have hc:∀j u,c[j]? = some u→w.cell? (ad.add (i.toNat*1+j))=some u:=hc0
  obtain⟨A0,c0,rfl,l0,g0⟩:=hK
  exact⟨ad,A0,c0,e,by have hq:=hc 0 _ rfl;rwa [Nat.mul_one,Nat.add_zero] at hq,l0,g0⟩

/-! #### struct type 35 -/
structure S35 where
  f0:Bool
  f1:(List S37)
  f2:Bool
def z35:S35:=⟨false,([]:List S37),false⟩
def k35:Kd S35:=Kd.iso (Kd.pair Kd.bool (Kd.pair (Kd.slice 37 k37) Kd.bool)) (fun x:S35=>(x.f0,x.f1,x.f2))
theorem k35_open {w:World} {x:S35} {cs:List Value} (h:k35.K w x cs):∃A1 c1,cs=[.bool x.f0,.slice A1 x.f1.length c1,.bool x.f2]∧x.f1.length≤c1∧k37.C w A1 x.f1.length x.f1:=by
  obtain⟨_,_,rfl,rfl,⟨_,_,rfl,⟨A1,c1,rfl,l1,g1⟩,rfl⟩⟩:=h
  exact⟨A1,c1,rfl,l1,g1⟩
theorem k35_openM {w:World} {base:Nat} {ok:Nat→Prop} {x:S35} {cs:List Value} (h:k35.M w base ok x cs):∃v1,cs=[.bool x.f0,v1,.bool x.f2]∧k37.R 37 w base ok v1 x.f1:=by
  obtain⟨_,_,rfl,rfl,⟨_,_,rfl,⟨v1,rfl,g1⟩,rfl⟩⟩:=h
  exact⟨v1,rfl,g1⟩
theorem k35_mk (w:World) (x:S35) {A1:Option Addr} {c1:Nat} (l1:x.f1.length≤c1) (g1:k37.C w A1 x.f1.length x.f1):k35.K w x [.bool x.f0,.slice A1 x.f1.length c1,.bool x.f2]:=⟨[.bool x.f0],[.slice A1 x.f1.length c1,.bool x.f2],rfl,rfl,⟨[.slice A1 x.f1.length c1],[.bool x.f2],rfl,⟨A1,c1,rfl,l1,g1⟩,rfl⟩⟩
theorem k35_mkM (w:World) (base:Nat) (ok:Nat→Prop) (x:S35) {v1:Value} (g1:k37.R 37 w base ok v1 x.f1):k35.M w base ok x [.bool x.f0,v1,.bool x.f2]:=⟨[.bool x.f0],[v1,.bool x.f2],rfl,rfl,⟨[v1],[.bool x.f2],rfl,⟨v1,rfl,g1⟩,rfl⟩⟩
theorem k35_openF {W:World} {ok:Nat→Prop} {x:S35} {cs:List Value} (h:Kd.FK k35 W ok x cs):∃A1 c1,cs=[.bool x.f0,.slice A1 x.f1.length c1,.bool x.f2]∧x.f1.length≤c1∧Kd.F k37 W ok A1 x.f1.length x.f1:=by
  obtain⟨A1,c1,rfl,l1,_⟩:=k35_open (Kd.FK_now h)
  exact⟨A1,c1,rfl,l1,(fun W' hW=>by obtain⟨A1_,c1_,he,l1_,g1_⟩:=k35_open (h W' hW);injection (Option.some.inj (show some (Value.slice A1 x.f1.length c1)=some (Value.slice A1_ x.f1.length c1_) from congrArg (fun l=>l[1]?) he)) with ha_ _ _;rw[ha_];exact g1_)⟩
theorem k35_mkF (W:World) (ok:Nat→Prop) (x:S35) {A1:Option Addr} {c1:Nat} (l1:x.f1.length≤c1) (g1:Kd.F k37 W ok A1 x.f1.length x.f1):Kd.FK k35 W ok x [.bool x.f0,.slice A1 x.f1.length c1,.bool x.f2]:=fun W2 hW=>k35_mk W2 x l1 (g1 W2 hW)
def rd_T35 (xs:List S35) (i:Int):S35:=xs.getD i.toNat z35
theorem at_T35 {w:World} {A:Option Addr} {n:Nat} {xs:List S35} (h:Kd.C k35 w A n xs) (i:Int) (h0:0≤i) (h1:i<n):∃ad A1 c1,A=some ad∧w.cell? (ad.add (i.toNat*3))=some (.bool (rd_T35 xs i).f0)∧w.cell? ⟨(ad.add (i.toNat*3)).block,(ad.add (i.toNat*3)).off+1,none⟩=some (.slice A1 (rd_T35 xs i).f1.length c1)∧w.cell? ⟨(ad.add (i.toNat*3)).block,(ad.add (i.toNat*3)).off+2,none⟩=some (.bool (rd_T35 xs i).f2)∧(rd_T35 xs i).f1.length≤c1∧k37.C w A1 (rd_T35 xs i).f1.length (rd_T35 xs i).f1:=by
  obtain⟨ad,c,e,_,hK,hc0⟩:=Kd.C_get h z35 i h0 h1
  have hc:∀j u,c[j]? = some u→w.cell? (ad.add (i.toNat*3+j))=some u:=hc0
  obtain⟨A1,c1,rfl,l1,g1⟩:=k35_open hK
  exact⟨ad,A1,c1,e,hc 0 _ rfl,by rw[← add_field _ _ 1 (by omega)];exact hc 1 _ rfl,by rw[← add_field _ _ 2 (by omega)];exact hc 2 _ rfl,l1,g1⟩

def rd_L7 (xs:List (List S35)) (i:Int):(List S35):=xs.getD i.toNat ([]:List S35)
theorem at_L7 {w:World} {A:Option Addr} {n:Nat} {xs:List (List S35)} (h:Kd.C (Kd.slice 35 k35) w A n xs) (i:Int) (h0:0≤i) (h1:i<n):∃ad A0 c0,A=some ad∧w.cell? (ad.add i.toNat)=some (.slice A0 (rd_L7 xs i).length c0)∧(rd_L7 xs i).length≤c0∧k35.C w A0 (rd_L7 xs i).length (rd_L7 xs i):=by
  obtain⟨ad,c,e,_,hK,hc0⟩:=Kd.C_get h ([]:List S35) i h0 h1
  have hc:∀j u,c[j]? = some u→w.cell? (ad.add (i.toNat*1+j))=some u:=hc0
  obtain⟨A0,c0,rfl,l0,g0⟩:=hK
  exact⟨ad,A0,c0,e,by have hq:=hc 0 _ rfl;rwa [Nat.mul_one,Nat.add_zero] at hq,l0,g0⟩

def rd_L8 (xs:List (List ByteArray)) (i:Int):(List ByteArray):=xs.getD i.toNat ([]:List ByteArray)
theorem at_L8 {w:World} {A:Option Addr} {n:Nat} {xs:List (List ByteArray)} (h:Kd.C (Kd.slice 9 Kd.string) w A n xs) (i:Int) (h0:0≤i) (h1:i<n):∃ad A0 c0,A=some ad∧w.cell? (ad.add i.toNat)=some (.slice A0 (rd_L8 xs i).length c0)∧(rd_L8 xs i).length≤c0∧Kd.string.C w A0 (rd_L8 xs i).length (rd_L8 xs i):=by
  obtain⟨ad,c,e,_,hK,hc0⟩:=Kd.C_get h ([]:List ByteArray) i h0 h1
  have hc:∀j u,c[j]? = some u→w.cell? (ad.add (i.toNat*1+j))=some u:=hc0
  obtain⟨A0,c0,rfl,l0,g0⟩:=hK
  exact⟨ad,A0,c0,e,by have hq:=hc 0 _ rfl;rwa [Nat.mul_one,Nat.add_zero] at hq,l0,g0⟩

/-! #### struct type 55 -/
structure S55 where
  f0:Int
  f1:Int
  f2:Int
  f3:Int
def z55:S55:=⟨(0:Int),(0:Int),(0:Int),(0:Int)⟩
def k55:Kd S55:=Kd.iso (Kd.pair (Kd.int .i64) (Kd.pair (Kd.int .i64) (Kd.pair (Kd.int .i64) (Kd.int .i64)))) (fun x:S55=>(x.f0,x.f1,x.f2,x.f3))
theorem k55_open {w:World} {x:S55} {cs:List Value} (h:k55.K w x cs):cs=[.int .i64 x.f0,.int .i64 x.f1,.int .i64 x.f2,.int .i64 x.f3]:=by
  obtain⟨_,_,rfl,rfl,⟨_,_,rfl,rfl,⟨_,_,rfl,rfl,rfl⟩⟩⟩:=h
  exact rfl
theorem k55_openM {w:World} {base:Nat} {ok:Nat→Prop} {x:S55} {cs:List Value} (h:k55.M w base ok x cs):cs=[.int .i64 x.f0,.int .i64 x.f1,.int .i64 x.f2,.int .i64 x.f3]:=by
  obtain⟨_,_,rfl,rfl,⟨_,_,rfl,rfl,⟨_,_,rfl,rfl,rfl⟩⟩⟩:=h
  exact rfl
theorem k55_mk (w:World) (x:S55):k55.K w x [.int .i64 x.f0,.int .i64 x.f1,.int .i64 x.f2,.int .i64 x.f3]:=⟨[.int .i64 x.f0],[.int .i64 x.f1,.int .i64 x.f2,.int .i64 x.f3],rfl,rfl,⟨[.int .i64 x.f1],[.int .i64 x.f2,.int .i64 x.f3],rfl,rfl,⟨[.int .i64 x.f2],[.int .i64 x.f3],rfl,rfl,rfl⟩⟩⟩
theorem k55_mkM (w:World) (base:Nat) (ok:Nat→Prop) (x:S55):k55.M w base ok x [.int .i64 x.f0,.int .i64 x.f1,.int .i64 x.f2,.int .i64 x.f3]:=⟨[.int .i64 x.f0],[.int .i64 x.f1,.int .i64 x.f2,.int .i64 x.f3],rfl,rfl,⟨[.int .i64 x.f1],[.int .i64 x.f2,.int .i64 x.f3],rfl,rfl,⟨[.int .i64 x.f2],[.int .i64 x.f3],rfl,rfl,rfl⟩⟩⟩
theorem k55_mkF (W:World) (ok:Nat→Prop) (x:S55):Kd.FK k55 W ok x [.int .i64 x.f0,.int .i64 x.f1,.int .i64 x.f2,.int .i64 x.f3]:=fun W2 _=>k55_mk W2 x
def rd_T55 (xs:List S55) (i:Int):S55:=xs.getD i.toNat z55
theorem at_T55 {w:World} {A:Option Addr} {n:Nat} {xs:List S55} (h:Kd.C k55 w A n xs) (i:Int) (h0:0≤i) (h1:i<n):∃ad ,A=some ad∧w.cell? (ad.add (i.toNat*4))=some (.int .i64 (rd_T55 xs i).f0)∧w.cell? ⟨(ad.add (i.toNat*4)).block,(ad.add (i.toNat*4)).off+1,none⟩=some (.int .i64 (rd_T55 xs i).f1)∧w.cell? ⟨(ad.add (i.toNat*4)).block,(ad.add (i.toNat*4)).off+2,none⟩=some (.int .i64 (rd_T55 xs i).f2)∧w.cell? ⟨(ad.add (i.toNat*4)).block,(ad.add (i.toNat*4)).off+3,none⟩=some (.int .i64 (rd_T55 xs i).f3):=by
  obtain⟨ad,c,e,_,hK,hc0⟩:=Kd.C_get h z55 i h0 h1
  have hc:∀j u,c[j]? = some u→w.cell? (ad.add (i.toNat*4+j))=some u:=hc0
  obtain rfl:=k55_open hK
  exact⟨ad,e,hc 0 _ rfl,by rw[← add_field _ _ 1 (by omega)];exact hc 1 _ rfl,by rw[← add_field _ _ 2 (by omega)];exact hc 2 _ rfl,by rw[← add_field _ _ 3 (by omega)];exact hc 3 _ rfl⟩

def rd_L10 (xs:List (List S55)) (i:Int):(List S55):=xs.getD i.toNat ([]:List S55)
theorem at_L10 {w:World} {A:Option Addr} {n:Nat} {xs:List (List S55)} (h:Kd.C (Kd.slice 55 k55) w A n xs) (i:Int) (h0:0≤i) (h1:i<n):∃ad A0 c0,A=some ad∧w.cell? (ad.add i.toNat)=some (.slice A0 (rd_L10 xs i).length c0)∧(rd_L10 xs i).length≤c0∧k55.C w A0 (rd_L10 xs i).length (rd_L10 xs i):=by
  obtain⟨ad,c,e,_,hK,hc0⟩:=Kd.C_get h ([]:List S55) i h0 h1
  have hc:∀j u,c[j]? = some u→w.cell? (ad.add (i.toNat*1+j))=some u:=hc0
  obtain⟨A0,c0,rfl,l0,g0⟩:=hK
  exact⟨ad,A0,c0,e,by have hq:=hc 0 _ rfl;rwa [Nat.mul_one,Nat.add_zero] at hq,l0,g0⟩

/-! #### struct type 53 -/
structure S53 where
  f0:Bool
  f1:(List S55)
  f2:Int
  f3:Int
def z53:S53:=⟨false,([]:List S55),(0:Int),(0:Int)⟩
def k53:Kd S53:=Kd.iso (Kd.pair Kd.bool (Kd.pair (Kd.slice 55 k55) (Kd.pair (Kd.int .i64) (Kd.int .i64)))) (fun x:S53=>(x.f0,x.f1,x.f2,x.f3))
theorem k53_open {w:World} {x:S53} {cs:List Value} (h:k53.K w x cs):∃A1 c1,cs=[.bool x.f0,.slice A1 x.f1.length c1,.int .i64 x.f2,.int .i64 x.f3]∧x.f1.length≤c1∧k55.C w A1 x.f1.length x.f1:=by
  obtain⟨_,_,rfl,rfl,⟨_,_,rfl,⟨A1,c1,rfl,l1,g1⟩,⟨_,_,rfl,rfl,rfl⟩⟩⟩:=h
  exact⟨A1,c1,rfl,l1,g1⟩
theorem k53_openM {w:World} {base:Nat} {ok:Nat→Prop} {x:S53} {cs:List Value} (h:k53.M w base ok x cs):∃v1,cs=[.bool x.f0,v1,.int .i64 x.f2,.int .i64 x.f3]∧k55.R 55 w base ok v1 x.f1:=by
  obtain⟨_,_,rfl,rfl,⟨_,_,rfl,⟨v1,rfl,g1⟩,⟨_,_,rfl,rfl,rfl⟩⟩⟩:=h
  exact⟨v1,rfl,g1⟩
theorem k53_mk (w:World) (x:S53) {A1:Option Addr} {c1:Nat} (l1:x.f1.length≤c1) (g1:k55.C w A1 x.f1.length x.f1):k53.K w x [.bool x.f0,.slice A1 x.f1.length c1,.int .i64 x.f2,.int .i64 x.f3]:=⟨[.bool x.f0],[.slice A1 x.f1.length c1,.int .i64 x.f2,.int .i64 x.f3],rfl,rfl,⟨[.slice A1 x.f1.length c1],[.int .i64 x.f2,.int .i64 x.f3],rfl,⟨A1,c1,rfl,l1,g1⟩,⟨[.int .i64 x.f2],[.int .i64 x.f3],rfl,rfl,rfl⟩⟩⟩
theorem k53_mkM (w:World) (base:Nat) (ok:Nat→Prop) (x:S53) {v1:Value} (g1:k55.R 55 w base ok v1 x.f1):k53.M w base ok x [.bool x.f0,v1,.int .i64 x.f2,.int .i64 x.f3]:=⟨[.bool x.f0],[v1,.int .i64 x.f2,.int .i64 x.f3],rfl,rfl,⟨[v1],[.int .i64 x.f2,.int .i64 x.f3],rfl,⟨v1,rfl,g1⟩,⟨[.int .i64 x.f2],[.int .i64 x.f3],rfl,rfl,rfl⟩⟩⟩
theorem k53_openF {W:World} {ok:Nat→Prop} {x:S53} {cs:List Value} (h:Kd.FK k53 W ok x cs):∃A1 c1,cs=[.bool x.f0,.slice A1 x.f1.length c1,.int .i64 x.f2,.int .i64 x.f3]∧x.f1.length≤c1∧Kd.F k55 W ok A1 x.f1.length x.f1:=by
  obtain⟨A1,c1,rfl,l1,_⟩:=k53_open (Kd.FK_now h)
  exact⟨A1,c1,rfl,l1,(fun W' hW=>by obtain⟨A1_,c1_,he,l1_,g1_⟩:=k53_open (h W' hW);injection (Option.some.inj (show some (Value.slice A1 x.f1.length c1)=some (Value.slice A1_ x.f1.length c1_) from congrArg (fun l=>l[1]?) he)) with ha_ _ _;rw[ha_];exact g1_)⟩
theorem k53_mkF (W:World) (ok:Nat→Prop) (x:S53) {A1:Option Addr} {c1:Nat} (l1:x.f1.length≤c1) (g1:Kd.F k55 W ok A1 x.f1.length x.f1):Kd.FK k53 W ok x [.bool x.f0,.slice A1 x.f1.length c1,.int .i64 x.f2,.int .i64 x.f3]:=fun W2 hW=>k53_mk W2 x l1 (g1 W2 hW)
def rd_T53 (xs:List S53) (i:Int):S53:=xs.getD i.toNat z53
theorem at_T53 {w:World} {A:Option Addr} {n:Nat} {xs:List S53} (h:Kd.C k53 w A n xs) (i:Int) (h0:0≤i) (h1:i<n):∃ad A1 c1,A=some ad∧w.cell? (ad.add (i.toNat*4))=some (.bool (rd_T53 xs i).f0)∧w.cell? ⟨(ad.add (i.toNat*4)).block,(ad.add (i.toNat*4)).off+1,none⟩=some (.slice A1 (rd_T53 xs i).f1.length c1)∧w.cell? ⟨(ad.add (i.toNat*4)).block,(ad.add (i.toNat*4)).off+2,none⟩=some (.int .i64 (rd_T53 xs i).f2)∧w.cell? ⟨(ad.add (i.toNat*4)).block,(ad.add (i.toNat*4)).off+3,none⟩=some (.int .i64 (rd_T53 xs i).f3)∧(rd_T53 xs i).f1.length≤c1∧k55.C w A1 (rd_T53 xs i).f1.length (rd_T53 xs i).f1:=by
  obtain⟨ad,c,e,_,hK,hc0⟩:=Kd.C_get h z53 i h0 h1
  have hc:∀j u,c[j]? = some u→w.cell? (ad.add (i.toNat*4+j))=some u:=hc0
  obtain⟨A1,c1,rfl,l1,g1⟩:=k53_open hK
  exact⟨ad,A1,c1,e,hc 0 _ rfl,by rw[← add_field _ _ 1 (by omega)];exact hc 1 _ rfl,by rw[← add_field _ _ 2 (by omega)];exact hc 2 _ rfl,by rw[← add_field _ _ 3 (by omega)];exact hc 3 _ rfl,l1,g1⟩

end Go.Proofs.YtbhhfpjiacfofaaDoor.P
