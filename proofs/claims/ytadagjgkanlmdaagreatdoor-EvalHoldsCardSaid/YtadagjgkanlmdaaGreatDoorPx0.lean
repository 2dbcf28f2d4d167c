import Derived.Test.YtadagjgkanlmdaaGreatDoorProg
import Derived.Below
import Derived.Deep.Draws
import Derived.Deep.AppendLies
import Derived.Maps.AppendAt
import Derived.OwnWalk
import Derived.Laws.BytesArg
import Derived.Laws.MakeOwn
import Derived.Laws.OwnMore
import Derived.Deep.OwnRows
import Derived.Tactics
import Derived.Lib.ConvBytes
import Derived.Laws.Slices
import Derived.WalkKit
import Derived.KernelRfl
import Derived.RowKit3
import Derived.Deep.LoopGhost
import Derived.Deep.QuietTactic
import Derived.BigQuiet
import Derived.WideLaws
import Derived.Deep.DeepCutAuto
import Derived.Deep.CutBlock
import Derived.Deep.RegionHeld3
import Derived.Laws.Rows
import Derived.Lib.AppendStr
import Derived.ArgAppend
import Derived.Laws.IdiomCopy
import Derived.OrdersHeld
import Derived.Laws.BitsLemmas
import Derived.RowKit
import Derived.Test.YtadagjgkanlmdaaGreatDoorWWords
import Derived.Test.YtadagjgkanlmdaaGreatDoorWLast
import Derived.Test.YtadagjgkanlmdaaGreatDoorWTab
import Derived.Test.YtadagjgkanlmdaaGreatDoorWFour
import Derived.Test.YtadagjgkanlmdaaGreatDoorWQPut
import Derived.Test.YtadagjgkanlmdaaGreatDoorWApart
import Derived.Test.YtadagjgkanlmdaaGreatDoorWArr
import Derived.Test.YtadagjgkanlmdaaGreatDoorWZeros
import Derived.Test.YtadagjgkanlmdaaGreatDoorWFoot
import Derived.Test.YtadagjgkanlmdaaGreatDoorWKept
import Derived.Test.YtadagjgkanlmdaaGreatDoorWShare
import Derived.Test.YtadagjgkanlmdaaGreatDoorWN
import Derived.Test.YtadagjgkanlmdaaGreatDoorWFootNe
import Derived.Test.YtadagjgkanlmdaaGreatDoorWAt
import Derived.Test.YtadagjgkanlmdaaGreatDoorWEqStruct
import Derived.Test.YtadagjgkanlmdaaGreatDoorWRepsOne
import Derived.Test.YtadagjgkanlmdaaGreatDoorWInv
import Derived.Test.YtadagjgkanlmdaaGreatDoorWInvWords
import Derived.Test.YtadagjgkanlmdaaGreatDoorWGuard
import Derived.Test.YtadagjgkanlmdaaGreatDoorWNEv
import Derived.Test.YtadagjgkanlmdaaGreatDoorWMore
import Derived.Test.YtadagjgkanlmdaaGreatDoorShelf
import Derived.Lib.ConvBytes
import Derived.Lib.LaidTab
import Derived.Lib.AtoiErrMem
import Derived.Recover
import Derived.Defers
namespace Go.Proofs.YtadagjgkanlmdaaGreatDoor.P
open Go.RowKit Go.Proofs.YtadagjgkanlmdaaGreatDoorW.PrintWords Go.Proofs.YtadagjgkanlmdaaGreatDoorW.PrintLast Go.Proofs.YtadagjgkanlmdaaGreatDoorW.PrintMore
attribute [local go_sem] max2_int min2_int max_two min_two max_three min_three max_four min_four
set_option linter.unusedVariables false
set_option linter.unusedSimpArgs false
theorem am_ {p:Prop} (h:p):Aside0 p:=⟨h⟩

theorem given_set4 (W:World) (b:Nat) (x0 x1 x2 y:Value) (h0:(W.cell? ⟨b,0,none⟩).isSome=true) (h1:(W.cell? ⟨b,1,none⟩).isSome=true) (h2:(W.cell? ⟨b,2,none⟩).isSome=true) :
    ((((W.setCell ⟨b,0,none⟩ x0).setCell ⟨b,1,none⟩ x1).setCell ⟨b,2,none⟩ x2).setCell ⟨b,1,none⟩ y).cell? ⟨b,0,none⟩=some x0∧((((W.setCell ⟨b,0,none⟩ x0).setCell ⟨b,1,none⟩ x1).setCell ⟨b,2,none⟩ x2).setCell ⟨b,1,none⟩ y).cell? ⟨b,1,none⟩=some y∧((((W.setCell ⟨b,0,none⟩ x0).setCell ⟨b,1,none⟩ x1).setCell ⟨b,2,none⟩ x2).setCell ⟨b,1,none⟩ y).cell? ⟨b,2,none⟩=some x2:=by
  have n01:(⟨b,0,none⟩:Addr)≠⟨b,1,none⟩:=by intro e;cases e
  have n02:(⟨b,0,none⟩:Addr)≠⟨b,2,none⟩:=by intro e;cases e
  have n12:(⟨b,1,none⟩:Addr)≠⟨b,2,none⟩:=by intro e;cases e
  have e2:=World.cell?_setCell_same' (W.setCell ⟨b,0,none⟩ x0) ⟨b,1,none⟩ x1 (by rw[World.cell?_setCell_other (h:=n01)];exact h1)
  have e1:((((W.setCell ⟨b,0,none⟩ x0).setCell ⟨b,1,none⟩ x1).setCell ⟨b,2,none⟩ x2).cell? ⟨b,1,none⟩).isSome=true:=by
    rw[World.cell?_setCell_other (h:=n12.symm),e2];rfl
  have e3:=World.cell?_setCell_same' ((W.setCell ⟨b,0,none⟩ x0).setCell ⟨b,1,none⟩ x1) ⟨b,2,none⟩ x2 (by rw[World.cell?_setCell_other (h:=n12),World.cell?_setCell_other (h:=n02)];exact h2)
  refine⟨?_,World.cell?_setCell_same' _ _ _ e1,?_⟩
  · rw[World.cell?_setCell_other (h:=n01.symm),World.cell?_setCell_other (h:=n02.symm),World.cell?_setCell_other (h:=n01.symm),World.cell?_setCell_same' _ _ _ h0]
  · rw[World.cell?_setCell_other (h:=n12),e3]
theorem bb_ {W0 W W':World} {g:Nat} {o:Obj} (h0:Aside0 (W0.heap[g]? = some o)) (hb:Below W.heap.size W W') (hr:W0.heap[g]? = some o→W.heap[g]? = some o:=by intro h_;(with_reducible repeat(first|refine blk_drewN ?_ _|refine blk_drew ?_|refine blk_alloc ?_ _));exact h_):Aside0 (W'.heap[g]? = some o):=am_ (blk_below (hr h0.out) hb)

def bm_ (n k:Nat):Array Bool:=((List.range n).map k.testBit).toArray
theorem pu_ {P:Program} {md:Region.Mode} {ops:Array Oper} {Q:Exit→Act→World→Prop} {S:World→Prop} {ds:List Nat} {fuel:Nat} {l:Array Bool} {a a':Act} {w:World} {oi:Oper} {v:Value} {T:Bool × List (List Nat × List Nat)} (i:Nat) (N:Tmp) (l':Array Bool)
    (hT:Aside0 (rtab md ops=T)) (h:wpAnyLast P md ops Q S ds fuel l' a' w)
    (hi:ops[i]? = some oi:=by rfl) (hN:oi.dst=some N:=by rfl) (hc:anyT T l.toList l'.toList i=true:=by kernel_rfl) (hQ:∀c a w,Q (.panic c) (a.put oi.dst v) w→Q (.panic c) a w:=by exact fun _ _ _ h=>h)
    (hw:Region.wanted oi (yielded ops a.tmps)=true:=by rfl) (hr:∀w,(execOp a.eval oi).run P w= .ok (.value v) w:=by intro w';go_simp;with_reducible rfl)
    (ha:a.put (some N) v=a':=by simp only[Act.put,List.setIfInBounds_toArray,List.set_cons_zero,List.set_cons_succ,i64_w,i32_w];rfl):wpAnyLast P md ops Q S ds (fuel+1) l a w :=
  pure_ l' hi hN (any_of hT.out hc) hQ (Or.inl ⟨hw,hr⟩) ha h
theorem tk_ {P:Program} {md:Region.Mode} {ops:Array Oper} {Q:Exit→Act→World→Prop} {S:World→Prop} {ds:List Nat} {fuel:Nat} {l:Array Bool} {a a':Act} {w:World} {oi:Oper} {v:Value} {T:Bool × List (List Nat × List Nat)} {B:List Nat} (i:Nat) (N:Tmp) (l':Array Bool)
    (hT:Aside0 (rtab md ops=T)) (hB:Aside0 (waitsOk T.2 B=true)) (hS:S w) (hi:ops[i]? = some oi) (hr:∀w,S w→(execOp a.eval oi).run P w= .ok (.value v) w) (h:wpAnyLast P md ops Q S ds fuel l' a' w)
    (hN:oi.dst=some N:=by rfl) (hc:takeW T B ds l.toList l'.toList i=true:=by kernel_rfl) (hQ:∀c a w,Q (.panic c) (a.put oi.dst v) w→Q (.panic c) a w:=by exact fun _ _ _ h=>h)
    (hw:Region.wanted oi (yielded ops a.tmps)=true:=by rfl)
    (ha:a.put (some N) v=a':=by simp only[Act.put,List.setIfInBounds_toArray,List.set_cons_zero,List.set_cons_succ,i64_w,i32_w];rfl):wpAnyLast P md ops Q S ds (fuel+1) l a w :=
  take_ l' hi hN (take_ofW hT.out hB.out hc) hQ (Or.inl ⟨hw,hr⟩) hS ha h
theorem eq_ {α:Sort _} {x y:α} (h:x=y:=by first|rfl|(simp;done)|(simp[*];done)|(simp;first|exact given_isEmpty _|exact(given_isEmpty _).symm)|(unfold wrap64;omega)|(congr 1;unfold wrap64;omega)):x=y:=h
theorem bk_ {W0 W:World} {g:Nat} {o:Obj} (h0:Aside0 (W0.heap[g]? = some o)) (hr:W0.heap[g]? = some o→W.heap[g]? = some o:=by intro h_;(with_reducible repeat(first|refine blk_drewN ?_ _|refine blk_drew ?_|refine blk_alloc ?_ _));exact h_):Aside0 (W.heap[g]? = some o):=am_ (hr h0.out)
theorem bl_ {n:Nat} {W0 W W':World} (h0:Aside0 (Below n W W0)) (hr:Below n W W0→Below n W W':=by intro h_;repeat(first|(with_reducible first|exact h_|apply below_alloc|apply pw_below_drewN|apply below_drew1|refine below_set ?_ (Aside0.out (by assumption)))|exact h_)):Aside0 (Below n W W'):=am_ (hr h0.out)
theorem bf_ {W0 W:World} {g:Nat} {o:Obj} (h0:Aside0 (W0.heap[g]? = some o)) (hr:W0.heap[g]? = some o→W.heap[g]? = some o:=by intro h_;repeat(first|(with_reducible exact h_)|(with_reducible first|refine blk_drewN ?_ _|refine blk_drew ?_|refine blk_alloc ?_ _)|refine blk_far ?_ (Aside0.out (by assumption)) _|exact h_)):Aside0 (W.heap[g]? = some o):=am_ (hr h0.out)
theorem bz_ {W0 W W':World} {g:Nat} {o:Obj} (h0:Aside0 (W0.heap[g]? = some o)) (hb:Below W.heap.size W W') (hr:W0.heap[g]? = some o→W.heap[g]? = some o:=by intro h_;repeat(first|(with_reducible exact h_)|(with_reducible first|refine blk_drewN ?_ _|refine blk_drew ?_|refine blk_alloc ?_ _)|refine blk_far ?_ (Aside0.out (by assumption)) _|exact h_)):Aside0 (W'.heap[g]? = some o):=am_ (blk_below (hr h0.out) hb)
theorem kfN_ {α:Type} {d:Kd α} {e:Nat} {W0 W:World} {base:Nat} {ok:Nat→Prop} {v:Value} {xs:List α} (g:Nat) (h0:Aside0 (Kd.N d e W0 base ok v xs)) (h1:∀k,ok k→ok k∧k≠g:=by exact fun _ hk=>⟨hk,hk.2⟩) (hr:Kd.N d e W0 base (fun k=>ok k∧k≠g) v xs→Kd.N d e W base (fun k=>ok k∧k≠g) v xs:=by intro h_;repeat(first|(with_reducible exact h_)|(with_reducible first|apply Kd.N_alloc|apply Kd.N_drewN|apply Kd.N_drew)|refine Kd.N_far ?_ (fun _ hk=>hk.2) _|exact h_)):Kd.N d e W base ok v xs:=Kd.N_mono (hr (Kd.N_mono h0.out h1)) (fun _ h_=>h_.1)
theorem kfV_ {α:Type} {d:Kd α} {e:Nat} {W0 W:World} {base:Nat} {ok:Nat→Prop} {v:Value} {xs:List α} (g:Nat) (h0:Aside0 (Kd.V d e W0 base ok v xs)) (h1:∀k,ok k→ok k∧k≠g:=by exact fun _ hk=>⟨hk,hk.2⟩) (hr:Kd.V d e W0 base (fun k=>ok k∧k≠g) v xs→Kd.V d e W base (fun k=>ok k∧k≠g) v xs:=by intro h_;repeat(first|(with_reducible exact h_)|(with_reducible first|apply Kd.V_alloc|apply Kd.V_drewN|apply Kd.V_drew)|refine Kd.V_far ?_ (fun _ hk=>hk.2) _|exact h_)):Kd.V d e W base ok v xs:=Kd.V_mono (hr (Kd.V_mono h0.out h1)) (fun _ h_=>h_.1)
theorem kfR_ {α:Type} {d:Kd α} {e:Nat} {W0 W:World} {base:Nat} {ok:Nat→Prop} {v:Value} {xs:List α} (g:Nat) (h0:Aside0 (d.R e W0 base ok v xs)) (h1:∀k,ok k→ok k∧k≠g:=by exact fun _ hk=>⟨hk,hk.2⟩) (hr:d.R e W0 base (fun k=>ok k∧k≠g) v xs→d.R e W base (fun k=>ok k∧k≠g) v xs:=by intro h_;repeat(first|(with_reducible exact h_)|(with_reducible first|apply Kd.R_alloc|apply Kd.R_drewN|apply Kd.R_drew)|refine Kd.R_far ?_ (fun _ hk=>hk.2) _|exact h_)):d.R e W base ok v xs:=Kd.R_mono (hr (Kd.R_mono h0.out h1)) (fun _ h_=>h_.1)
theorem bp1_ {w:World} {g i:Nat} {t:TypeId} {cs cs':Array Value} {u:Value} (h:w.heap[g]? = some (.cells cs t (0,0))) (e:cs.setIfInBounds i u=cs'):(w.setCell ⟨g,i,none⟩ u).heap[g]? = some (.cells cs' t (0,0)):=blk_put h i u e
theorem bq1_ {w:World} {g:Nat} {t:TypeId} {cs:Array Value} {p:Addr} {u:Value} (hn:Aside0 (g≠p.block)) (h:w.heap[g]? = some (.cells cs t (0,0))):(w.setCell p u).heap[g]? = some (.cells cs t (0,0)):=blk_far h hn.out u
theorem bp_ {W0 W:World} {g:Nat} {t:TypeId} {cs0 cs:Array Value} (h0:Aside0 (W0.heap[g]? = some (.cells cs0 t (0,0)))) (hr:W0.heap[g]? = some (.cells cs0 t (0,0))→W.heap[g]? = some (.cells cs t (0,0)):=by intro h_;(repeat(first|(with_reducible exact h_)|(with_reducible first|refine blk_drewN ?_ _|refine blk_drew ?_|refine blk_alloc ?_ _)|(apply bq1_;assumption)|apply bp1_|exact h_));all_goals rfl):Aside0 (W.heap[g]? = some (.cells cs t (0,0))):=am_ (hr h0.out)
theorem wh_ {W' W:World} {g:Nat} {o:Option Obj} (h:W'=W) (p:Aside0 (W.heap[g]? = o)):Aside0 (W'.heap[g]? = o):=h▸p
theorem wb_ {n:Nat} {W0 W' W:World} (h:W'=W) (p:Aside0 (Below n W0 W)):Aside0 (Below n W0 W'):=h▸p
theorem kdV_ {α:Type} {d:Kd α} {e:Nat} {W0 W:World} {base:Nat} {ok:Nat→Prop} {v:Value} {xs:List α} (h0:Kd.V d e W0 base ok v xs) (hr:Kd.V d e W0 base ok v xs→Kd.V d e W base ok v xs:=by intro h_;(with_reducible repeat(first|apply Kd.V_alloc|apply Kd.V_drewN|apply Kd.V_drew));exact h_):Kd.V d e W base ok v xs:=hr h0
theorem kdN_ {α:Type} {d:Kd α} {e:Nat} {W0 W:World} {base:Nat} {ok:Nat→Prop} {v:Value} {xs:List α} (h0:Kd.N d e W0 base ok v xs) (hr:Kd.N d e W0 base ok v xs→Kd.N d e W base ok v xs:=by intro h_;(with_reducible repeat(first|apply Kd.N_alloc|apply Kd.N_drewN|apply Kd.N_drew));exact h_):Kd.N d e W base ok v xs:=hr h0
theorem kdR_ {α:Type} {d:Kd α} {e:Nat} {W0 W:World} {base:Nat} {ok:Nat→Prop} {v:Value} {xs:List α} (h0:d.R e W0 base ok v xs) (hr:d.R e W0 base ok v xs→d.R e W base ok v xs:=by intro h_;(with_reducible repeat(first|apply Kd.R_alloc|apply Kd.R_drewN|apply Kd.R_drew));exact h_):d.R e W base ok v xs:=hr h0
theorem pu0_ {P:Program} {md:Region.Mode} {ops:Array Oper} {Q:Exit→Act→World→Prop} {S:World→Prop} {ds:List Nat} {fuel:Nat} {l:Array Bool} {a a':Act} {w:World} {oi:Oper} {v:Value} (i:Nat) (N:Tmp) (l':Array Bool)
    (h:wpAnyLast P md ops Q S ds fuel l' a' w)
    (hi:ops[i]? = some oi:=by rfl) (hN:oi.dst=some N:=by rfl) (hc:anyB md ops l l' i=true:=by kernel_rfl) (hQ:∀c a w,Q (.panic c) (a.put oi.dst v) w→Q (.panic c) a w:=by exact fun _ _ _ h=>h)
    (hw:Region.wanted oi (yielded ops a.tmps)=true:=by rfl) (hr:∀w,(execOp a.eval oi).run P w= .ok (.value v) w:=by intro w';go_simp;with_reducible rfl)
    (ha:a.put (some N) v=a':=by simp only[Act.put,List.setIfInBounds_toArray,List.set_cons_zero,List.set_cons_succ,i64_w,i32_w];rfl):wpAnyLast P md ops Q S ds (fuel+1) l a w :=
  pure_ l' hi hN hc hQ (Or.inl ⟨hw,hr⟩) ha h
theorem tk0_ {P:Program} {md:Region.Mode} {ops:Array Oper} {Q:Exit→Act→World→Prop} {S:World→Prop} {ds:List Nat} {fuel:Nat} {l:Array Bool} {a a':Act} {w:World} {oi:Oper} {v:Value} (i:Nat) (N:Tmp) (l':Array Bool)
    (hS:S w) (hi:ops[i]? = some oi) (hr:∀w,S w→(execOp a.eval oi).run P w= .ok (.value v) w) (h:wpAnyLast P md ops Q S ds fuel l' a' w)
    (hN:oi.dst=some N:=by rfl) (hc:takeB md ops ds l l' i=true:=by kernel_rfl) (hQ:∀c a w,Q (.panic c) (a.put oi.dst v) w→Q (.panic c) a w:=by exact fun _ _ _ h=>h)
    (hw:Region.wanted oi (yielded ops a.tmps)=true:=by rfl)
    (ha:a.put (some N) v=a':=by simp only[Act.put,List.setIfInBounds_toArray,List.set_cons_zero,List.set_cons_succ,i64_w,i32_w];rfl):wpAnyLast P md ops Q S ds (fuel+1) l a w :=
  take_ l' hi hN hc hQ (Or.inl ⟨hw,hr⟩) hS ha h
theorem gs_ {P:Program} {ops:Array Oper} {Q:Exit→Act→World→Prop} {oi:Oper} {N:Option Tmp} {a:Act} {w:World} {K:Act→World→Prop} {f:FuncId} {fn:Func} {as_:Array Operand} {ts:Array TypeId} (hf:P.funcs[f]? = some fn) (args:Array Value)
    (h:Calls P f args w fun e w'=>∃v,e= .returned v∧K (a.put N v) w') (hname:(fn.name == "runtime.NumGoroutine")=false:=by kernel_rfl) (hb:fn.body.isSome=true:=by rfl)
    (hw:Region.wanted oi (yielded ops a.tmps)=true:=by rfl) (hN:oi.dst=N:=by rfl) (hop:oi.op= .call { callee:= .value (.func f),args:=as_,argTypes:=ts}:=by rfl)
    (hargs:as_.map a.eval=args:=by (try simp only[List.map_toArray,List.map_cons,List.map_nil]);first|done|rfl|(simp only[List.length_drop,List.length_take];rfl)|(have z_:∀s_:ByteArray,s_.size≤9223372036854775807→ -(s_.size:Int)=wrap64 (-(s_.size:Int)):=(fun s_ h_=>by unfold wrap64;omega);rw[← z_ _ (by omega)];rfl)|(simp only[ByteArray.size_append];rfl)) :
    if Region.wanted oi (yielded ops a.tmps)=true then Oper.wp P oi a w K Q else K (a.put N undef) w:=goes_ hf hname hb args hw hN hop hargs h
theorem nm_ {P:Program} {md:Region.Mode} {ops:Array Oper} {Q:Exit→Act→World→Prop} {S:World→Prop} {ds:List Nat} {fuel:Nat} {l:Array Bool} {x a':Act} {v:Value} {w:World} (N:Tmp) (h:wpAnyLast P md ops Q S ds fuel l a' w)
    (ha:x.put (some N) v=a':=by simp only[Act.put,List.setIfInBounds_toArray,List.set_cons_zero,List.set_cons_succ,i64_w,i32_w];rfl):wpAnyLast P md ops Q S ds fuel l (x.put (some N) v) w:=norm_ ha h
theorem bc_ {w:World} {g:Nat} {t:TypeId} {cs:Array Value} {v:Value} (h:Aside0 (w.heap[g]? = some (.cells cs t (0,0)))) (i:Nat) (hv:cs[i]? = some v:=by rfl):w.cell? ⟨g,i,none⟩=some v:=(blk_cell h.out i).trans hv
theorem na_ {W0 W:World} {g g':Nat} {o:Obj} (h0:Aside0 (W0.heap[g]? = some o)) (hg:g'=W.heap.size) (hr:W0.heap[g]? = some o→W.heap[g]? = some o:=by intro h_;(with_reducible repeat(first|refine blk_drewN ?_ _|refine blk_drew ?_|refine blk_alloc ?_ _));exact h_):Aside0 (g≠g'):=am_ (by rw[hg];exact Nat.ne_of_lt (blk_lt (hr h0.out)))
theorem nb_ {W0 W:World} {g g':Nat} {o:Obj} (h0:Aside0 (W0.heap[g]? = some o)) (hg:g'=W.heap.size) (hr:W0.heap[g]? = some o→W.heap[g]? = some o:=by intro h_;(with_reducible repeat(first|refine blk_drewN ?_ _|refine blk_drew ?_|refine blk_alloc ?_ _));exact h_):Aside0 (g'≠g):=am_ (by rw[hg];exact Nat.ne_of_gt (blk_lt (hr h0.out)))
theorem sz_ {w W0 W:World} {g':Nat} (h0:Aside0 (Below w.heap.size w W0)) (hg:g'=W.heap.size) (hr:Below w.heap.size w W0→Below w.heap.size w W:=by intro h_;repeat(first|(with_reducible first|exact h_|apply below_alloc|apply pw_below_drewN|apply below_drew1|refine below_set ?_ (Aside0.out (by assumption)))|exact h_)):Aside0 (w.heap.size≤g'):=am_ (by rw[hg];exact below_size (hr h0.out))
theorem gl_ {P:Program} {ops:Array Oper} {Q:Exit→Act→World→Prop} {rest:List Oper} {oi:Oper} {a:Act} {w:World} {f:FuncId} {fn:Func} {as_:Array Operand} {ts:Array TypeId} (N:Option Tmp) (hf:P.funcs[f]? = some fn) (args:Array Value)
    (h:Calls P f args w fun e w'=>∃v,e= .returned v∧wpList P ops Q rest (a.put N v) w') (hd:oi.dst=N:=by rfl) (hg:oi.guard=none:=by rfl) (hname:(fn.name == "runtime.NumGoroutine")=false:=by kernel_rfl) (hb:fn.body.isSome=true:=by rfl)
    (hop:oi.op= .call { callee:= .value (.func f),args:=as_,argTypes:=ts}:=by rfl)
    (hargs:as_.map a.eval=args:=by (try simp only[List.map_toArray,List.map_cons,List.map_nil]);first|done|rfl|(simp only[List.length_drop,List.length_take];rfl)|(have z_:∀s_:ByteArray,s_.size≤9223372036854775807→ -(s_.size:Int)=wrap64 (-(s_.size:Int)):=(fun s_ h_=>by unfold wrap64;omega);rw[← z_ _ (by omega)];rfl)|(simp only[ByteArray.size_append];rfl)) :
    wpList P ops Q (oi::rest) a w:=goesL_ N hd hg hf hname hb args hop hargs h
theorem be_ {P:Program} {ops:Array Oper} {Q:Exit→Act→World→Prop} {rest:List Oper} {o:Oper} {a:Act} {W:World} (N:Tmp) (cs:Array Value) (t:TypeId)
    (h:∀g,g=W.heap.size→∀w1,w1.heap[g]? = some (.cells cs t (0,0))→Below W.heap.size W w1→wpList P ops Q rest (a.put o.dst (.pointer (some ⟨g,0,none⟩))) w1)
    (hgd:o.guard=none:=by rfl) (hd:o.dst=some N:=by rfl) (hrun:(execOp a.eval o).run P W= .ok (.value (.pointer (some ⟨W.heap.size,0,none⟩))) (W.alloc (.cells cs t (0,0))):=by first|(go_simp;done)|(go_simp;rfl)):wpList P ops Q (o::rest) a W :=
  box_event hgd hd hrun h
theorem bo2_ {w:World} {g:Nat} {t:TypeId} {v0 v1:Value} (h:Aside0 (w.heap[g]? = some (.cells #[v0,v1] t (0,0)))):w.cell? ⟨g,0,none⟩=some v0∧w.cell? ⟨g,1,none⟩=some v1∧w.frozen? ⟨g,0,none⟩=false∧w.frozen? ⟨g,1,none⟩=false :=
  ⟨blk_cell h.out 0,blk_cell h.out 1,blk_frozen h.out 0,blk_frozen h.out 1⟩
theorem bo3_ {w:World} {g:Nat} {t:TypeId} {v0 v1 v2:Value} (h:Aside0 (w.heap[g]? = some (.cells #[v0,v1,v2] t (0,0)))):w.cell? ⟨g,0,none⟩=some v0∧w.cell? ⟨g,1,none⟩=some v1∧w.cell? ⟨g,2,none⟩=some v2∧w.frozen? ⟨g,0,none⟩=false∧w.frozen? ⟨g,1,none⟩=false∧w.frozen? ⟨g,2,none⟩=false :=
  ⟨blk_cell h.out 0,blk_cell h.out 1,blk_cell h.out 2,blk_frozen h.out 0,blk_frozen h.out 1,blk_frozen h.out 2⟩
theorem bo4_ {w:World} {g:Nat} {t:TypeId} {v0 v1 v2 v3:Value} (h:Aside0 (w.heap[g]? = some (.cells #[v0,v1,v2,v3] t (0,0)))):w.cell? ⟨g,0,none⟩=some v0∧w.cell? ⟨g,1,none⟩=some v1∧w.cell? ⟨g,2,none⟩=some v2∧w.cell? ⟨g,3,none⟩=some v3∧w.frozen? ⟨g,0,none⟩=false∧w.frozen? ⟨g,1,none⟩=false∧w.frozen? ⟨g,2,none⟩=false∧w.frozen? ⟨g,3,none⟩=false :=
  ⟨blk_cell h.out 0,blk_cell h.out 1,blk_cell h.out 2,blk_cell h.out 3,blk_frozen h.out 0,blk_frozen h.out 1,blk_frozen h.out 2,blk_frozen h.out 3⟩
theorem bo5_ {w:World} {g:Nat} {t:TypeId} {v0 v1 v2 v3 v4:Value} (h:Aside0 (w.heap[g]? = some (.cells #[v0,v1,v2,v3,v4] t (0,0)))):w.cell? ⟨g,0,none⟩=some v0∧w.cell? ⟨g,1,none⟩=some v1∧w.cell? ⟨g,2,none⟩=some v2∧w.cell? ⟨g,3,none⟩=some v3∧w.cell? ⟨g,4,none⟩=some v4∧w.frozen? ⟨g,0,none⟩=false∧w.frozen? ⟨g,1,none⟩=false∧w.frozen? ⟨g,2,none⟩=false∧w.frozen? ⟨g,3,none⟩=false∧w.frozen? ⟨g,4,none⟩=false :=
  ⟨blk_cell h.out 0,blk_cell h.out 1,blk_cell h.out 2,blk_cell h.out 3,blk_cell h.out 4,blk_frozen h.out 0,blk_frozen h.out 1,blk_frozen h.out 2,blk_frozen h.out 3,blk_frozen h.out 4⟩
theorem bo6_ {w:World} {g:Nat} {t:TypeId} {v0 v1 v2 v3 v4 v5:Value} (h:Aside0 (w.heap[g]? = some (.cells #[v0,v1,v2,v3,v4,v5] t (0,0)))):w.cell? ⟨g,0,none⟩=some v0∧w.cell? ⟨g,1,none⟩=some v1∧w.cell? ⟨g,2,none⟩=some v2∧w.cell? ⟨g,3,none⟩=some v3∧w.cell? ⟨g,4,none⟩=some v4∧w.cell? ⟨g,5,none⟩=some v5∧w.frozen? ⟨g,0,none⟩=false∧w.frozen? ⟨g,1,none⟩=false∧w.frozen? ⟨g,2,none⟩=false∧w.frozen? ⟨g,3,none⟩=false∧w.frozen? ⟨g,4,none⟩=false∧w.frozen? ⟨g,5,none⟩=false :=
  ⟨blk_cell h.out 0,blk_cell h.out 1,blk_cell h.out 2,blk_cell h.out 3,blk_cell h.out 4,blk_cell h.out 5,blk_frozen h.out 0,blk_frozen h.out 1,blk_frozen h.out 2,blk_frozen h.out 3,blk_frozen h.out 4,blk_frozen h.out 5⟩
theorem ew_ {α:Sort _} {x y:α} (h:x=y:=by first|rfl|(simp[errW_none,errW_some] <;> rfl)|(simp[*,errW_none,errW_some] <;> first|rfl|exact given_isEmpty _|exact(given_isEmpty _).symm)):x=y:=h
theorem rs0_ {P:Program} {md:Region.Mode} {ops:Array Oper} {Q:Exit→Act→World→Prop} {S':World→Prop} {ds ds':List Nat}:∀(fuel:Nat) (l:Array Bool) (a:Act) (w:World),wpAnyLast P md ops Q S' ds' fuel l a w→wpAnyLast P md ops Q (fun _=>True) ds fuel l a w
  | 0,_,_,_,h=>h
  | fuel+1,_,_,_,h=>⟨h.1,fun i hi=>wpOp_mono (fun a' w' h'=>⟨fun _ _=>trivial,rs0_ fuel _ a' w' h'.2⟩) (h.2 i hi)⟩
theorem restart0_ {P:Program} {md:Region.Mode} {ops:Array Oper} {Q:Exit→Act→World→Prop} {S':World→Prop} {ds:List Nat} {fuel:Nat} {l:Array Bool} {a:Act} {w:World} (ds':List Nat) (hS:S' w) (h:S' w→wpAnyLast P md ops Q S' ds' fuel l a w):wpAnyLast P md ops Q (fun _=>True) ds fuel l a w:=rs0_ fuel l a w (h hS)
theorem kr_ {α:Type} {d:Kd α} {e:Nat} {W0 W:World} {base:Nat} {ok:Nat→Prop} {v:Value} {xs:List α} (h0:Aside0 (d.R e W0 base ok v xs)) (hr:d.R e W0 base ok v xs→d.R e W base ok v xs:=by intro h_;(with_reducible repeat(first|apply Kd.R_alloc|apply Kd.R_drewN|apply Kd.R_drew));exact h_):d.R e W base ok v xs:=hr h0.out
theorem kc_ {α:Type} {d:Kd α} {e:Nat} {W0 W:World} {base:Nat} {ok:Nat→Prop} {A:Option Addr} {n c:Nat} {xs:List α} (h0:Aside0 (d.R e W0 base ok (.slice A n c) xs)) (hr:d.C W0 A xs.length xs→d.C W A xs.length xs:=by intro h_;repeat(first|exact h_|(with_reducible refine Kd.C_alloc ?_ _)|(with_reducible refine Kd.C_drewN ?_ _)|(with_reducible refine Kd.C_drew ?_))):d.C W A xs.length xs:=hr (Kd.R_reads' h0.out).2.2
theorem kl_ {α:Type} {d:Kd α} {e:Nat} {W0:World} {base:Nat} {ok:Nat→Prop} {A:Option Addr} {n c:Nat} {xs:List α} (h0:Aside0 (d.R e W0 base ok (.slice A n c) xs)):n≤c:=(Kd.R_reads' h0.out).2.1
theorem krV_ {α:Type} {d:Kd α} {e:Nat} {W0 W:World} {base:Nat} {ok:Nat→Prop} {v:Value} {xs:List α} (h0:Aside0 (Kd.V d e W0 base ok v xs)) (hr:Kd.V d e W0 base ok v xs→Kd.V d e W base ok v xs:=by intro h_;(with_reducible repeat(first|apply Kd.V_alloc|apply Kd.V_drewN|apply Kd.V_drew));exact h_):Kd.V d e W base ok v xs:=hr h0.out
theorem krN_ {α:Type} {d:Kd α} {e:Nat} {W0 W:World} {base:Nat} {ok:Nat→Prop} {v:Value} {xs:List α} (h0:Aside0 (Kd.N d e W0 base ok v xs)) (hr:Kd.N d e W0 base ok v xs→Kd.N d e W base ok v xs:=by intro h_;(with_reducible repeat(first|apply Kd.N_alloc|apply Kd.N_drewN|apply Kd.N_drew));exact h_):Kd.N d e W base ok v xs:=hr h0.out
theorem kb_ {α:Type} {d:Kd α} {e:Nat} {W0 W w1:World} {base:Nat} {ok:Nat→Prop} {u:Value} {xs:List α} (h0:Aside0 (d.R e W0 base ok u xs)) (hb:Below W.heap.size W w1)
    (hr:d.R e W0 base ok u xs→d.R e W base ok u xs:=by intro h_;(with_reducible repeat(first|apply Kd.R_alloc|apply Kd.R_drewN|apply Kd.R_drew));exact h_):Aside0 (d.R e w1 base ok u xs):=am_ (Kd.R_below (hr h0.out) hb)
theorem ax6_ (c:Int) (h0:0≤c) (h1:c<6):c=0∨c=1∨c=2∨c=3∨c=4∨c=5:=by omega
theorem kp_ {w W0 W:World} {g:Nat} {row:Option Nat} (h:Aside0 (KeepBut w W0 g row)) (hr:KeepBut w W0 g row→KeepBut w W g row:=by intro h_;repeat(first|(with_reducible first|exact h_|apply KeepBut.set_|apply keep_drewN|apply keep_drew|apply keep_alloc|refine keep_far ?_ (Aside0.out (by assumption)) _)|exact h_)):KeepBut w W g row:=hr h.out
theorem od_ {p:Prop} [Decidable p] (h:decide p=true:=by first|(with_reducible assumption)|assumption):p:=of_decide_eq_true h
theorem hbc_ {w W:World} {p:Addr} {v:Value} (h:Aside0 (Below w.heap.size w W)) (hx:w.cell? p=some v):W.cell? p=some v:=(h.out.cell (World.block_lt_of_cell? _ _ hx)).trans hx
theorem ifn_ {α:Type} {c:Prop} [Decidable c] {a:Option α} {r:α} (h:(if c then a else none)=some r):c∧a=some r:=by split at h;(exact⟨by assumption,h⟩);(cases h)
theorem ifp_ {α:Type} {c:Prop} [Decidable c] {a:Option α} {r:α} (h:(if c then none else a)=some r):¬c∧a=some r:=by split at h;(cases h);(exact⟨by assumption,h⟩)

theorem given_isEmpty (l:List UInt8):l.isEmpty= !(l !=[]):=by cases l <;> rfl


def errW:Option Int→Value
  | none=> .nilIface
  | some c=> .iface 0 (.int .i64 c)
theorem errW_none:errW none= .nilIface:=rfl
theorem errW_some (c:Int):errW (some c)= .iface 0 (.int .i64 c):=rfl

theorem info5:(Tryz.prog.info? 5).map (fun i=>(i.zero,i.size,i.bytes))=some (some (.int .u8 0),1,1):=by kernel_rfl
theorem info41:(Tryz.prog.info? 41).map (fun i=>(i.zero,i.size,i.bytes))=some (some (.agg #[(.int .i64 0),(.slice none 0 0),(.string ⟨#[]⟩)]),3,48):=by kernel_rfl
theorem info46:(Tryz.prog.info? 46).map (fun i=>(i.zero,i.size,i.bytes))=some (some (.agg #[(.int .i64 0),(.int .i64 0),(.int .i64 0),(.bool false),(.slice none 0 0)]),5,56):=by kernel_rfl
theorem info47:(Tryz.prog.info? 47).map (fun i=>(i.zero,i.size,i.bytes))=some (some (.slice none 0 0),1,24):=by kernel_rfl
theorem info53:(Tryz.prog.info? 53).map (fun i=>(i.zero,i.size,i.bytes))=some (some (.agg #[(.int .u8 0),(.int .i64 0),(.bool false),(.slice none 0 0)]),4,48):=by kernel_rfl
theorem info54:(Tryz.prog.info? 54).map (fun i=>(i.zero,i.size,i.bytes))=some (some (.slice none 0 0),1,24):=by kernel_rfl
theorem info57:(Tryz.prog.info? 57).map (fun i=>(i.zero,i.size,i.bytes))=some (some (.agg #[(.int .i64 0),(.int .i64 0)]),2,16):=by kernel_rfl
theorem info139:(Tryz.prog.info? 139).map (fun i=>(i.zero,i.size,i.bytes))=some (some (.agg #[(.int .i64 0),(.int .i64 0)]),2,16):=by kernel_rfl
-- the values' own types
/-! #### struct type 57 -/
structure S57 where
  f0:Int
  f1:Int
def z57:S57:=⟨(0:Int),(0:Int)⟩
def k57:Kd S57:=Kd.iso (Kd.pair (Kd.int .i64) (Kd.int .i64)) (fun x:S57=>(x.f0,x.f1))
theorem k57_open {w:World} {x:S57} {cs:List Value} (h:k57.K w x cs):cs=[.int .i64 x.f0,.int .i64 x.f1]:=by
  obtain⟨_,_,rfl,rfl,rfl⟩:=h
  exact rfl
theorem k57_mkM (w:World) (base:Nat) (ok:Nat→Prop) (x:S57):k57.M w base ok x [.int .i64 x.f0,.int .i64 x.f1]:=⟨[.int .i64 x.f0],[.int .i64 x.f1],rfl,rfl,rfl⟩
def rd_T57 (xs:List S57) (i:Int):S57:=xs.getD i.toNat z57
theorem at_T57 {w:World} {A:Option Addr} {n:Nat} {xs:List S57} (h:Kd.C k57 w A n xs) (i:Int) (h0:0≤i) (h1:i<n):∃ad ,A=some ad∧w.cell? (ad.add (i.toNat*2))=some (.int .i64 (rd_T57 xs i).f0)∧w.cell? ⟨(ad.add (i.toNat*2)).block,(ad.add (i.toNat*2)).off+1,none⟩=some (.int .i64 (rd_T57 xs i).f1):=by
  obtain⟨ad,c,e,_,hK,hc0⟩:=Kd.C_get h z57 i h0 h1
  have hc:∀j u,c[j]? = some u→w.cell? (ad.add (i.toNat*2+j))=some u:=hc0
  obtain rfl:=k57_open hK
  exact⟨ad,e,hc 0 _ rfl,by rw[← add_field _ _ 1 (by omega)];exact hc 1 _ rfl⟩

structure S53 where
  f0:Int
  f1:Int
  f2:Bool
  f3:(List S57)
def z53:S53:=⟨(0:Int),(0:Int),false,([]:List S57)⟩
def k53:Kd S53:=Kd.iso (Kd.pair (Kd.int .u8) (Kd.pair (Kd.int .i64) (Kd.pair Kd.bool (Kd.slice 57 k57)))) (fun x:S53=>(x.f0,x.f1,x.f2,x.f3))
theorem k53_open {w:World} {x:S53} {cs:List Value} (h:k53.K w x cs):∃A3 c3,cs=[.int .u8 x.f0,.int .i64 x.f1,.bool x.f2,.slice A3 x.f3.length c3]∧x.f3.length≤c3∧k57.C w A3 x.f3.length x.f3:=by
  obtain⟨_,_,rfl,rfl,⟨_,_,rfl,rfl,⟨_,_,rfl,rfl,⟨A3,c3,rfl,l3,g3⟩⟩⟩⟩:=h
  exact⟨A3,c3,rfl,l3,g3⟩
theorem k53_mk (w:World) (x:S53) {A3:Option Addr} {c3:Nat} (l3:x.f3.length≤c3) (g3:k57.C w A3 x.f3.length x.f3):k53.K w x [.int .u8 x.f0,.int .i64 x.f1,.bool x.f2,.slice A3 x.f3.length c3]:=⟨[.int .u8 x.f0],[.int .i64 x.f1,.bool x.f2,.slice A3 x.f3.length c3],rfl,rfl,⟨[.int .i64 x.f1],[.bool x.f2,.slice A3 x.f3.length c3],rfl,rfl,⟨[.bool x.f2],[.slice A3 x.f3.length c3],rfl,rfl,⟨A3,c3,rfl,l3,g3⟩⟩⟩⟩
theorem k53_mkF (W:World) (ok:Nat→Prop) (x:S53) {A3:Option Addr} {c3:Nat} (l3:x.f3.length≤c3) (g3:Kd.F k57 W ok A3 x.f3.length x.f3):Kd.FK k53 W ok x [.int .u8 x.f0,.int .i64 x.f1,.bool x.f2,.slice A3 x.f3.length c3]:=fun W2 hW=>k53_mk W2 x l3 (g3 W2 hW)
def rd_T53 (xs:List S53) (i:Int):S53:=xs.getD i.toNat z53
theorem at_T53 {w:World} {A:Option Addr} {n:Nat} {xs:List S53} (h:Kd.C k53 w A n xs) (i:Int) (h0:0≤i) (h1:i<n):∃ad A3 c3,A=some ad∧w.cell? (ad.add (i.toNat*4))=some (.int .u8 (rd_T53 xs i).f0)∧w.cell? ⟨(ad.add (i.toNat*4)).block,(ad.add (i.toNat*4)).off+1,none⟩=some (.int .i64 (rd_T53 xs i).f1)∧w.cell? ⟨(ad.add (i.toNat*4)).block,(ad.add (i.toNat*4)).off+2,none⟩=some (.bool (rd_T53 xs i).f2)∧w.cell? ⟨(ad.add (i.toNat*4)).block,(ad.add (i.toNat*4)).off+3,none⟩=some (.slice A3 (rd_T53 xs i).f3.length c3)∧(rd_T53 xs i).f3.length≤c3∧k57.C w A3 (rd_T53 xs i).f3.length (rd_T53 xs i).f3:=by
  obtain⟨ad,c,e,_,hK,hc0⟩:=Kd.C_get h z53 i h0 h1
  have hc:∀j u,c[j]? = some u→w.cell? (ad.add (i.toNat*4+j))=some u:=hc0
  obtain⟨A3,c3,rfl,l3,g3⟩:=k53_open hK
  exact⟨ad,A3,c3,e,hc 0 _ rfl,by rw[← add_field _ _ 1 (by omega)];exact hc 1 _ rfl,by rw[← add_field _ _ 2 (by omega)];exact hc 2 _ rfl,by rw[← add_field _ _ 3 (by omega)];exact hc 3 _ rfl,l3,g3⟩

def rd_L7 (xs:List (List S53)) (i:Int):(List S53):=xs.getD i.toNat ([]:List S53)
theorem at_L7 {w:World} {A:Option Addr} {n:Nat} {xs:List (List S53)} (h:Kd.C (Kd.slice 53 k53) w A n xs) (i:Int) (h0:0≤i) (h1:i<n):∃ad A0 c0,A=some ad∧w.cell? (ad.add i.toNat)=some (.slice A0 (rd_L7 xs i).length c0)∧(rd_L7 xs i).length≤c0∧k53.C w A0 (rd_L7 xs i).length (rd_L7 xs i):=by
  obtain⟨ad,c,e,_,hK,hc0⟩:=Kd.C_get h ([]:List S53) i h0 h1
  have hc:∀j u,c[j]? = some u→w.cell? (ad.add (i.toNat*1+j))=some u:=hc0
  obtain⟨A0,c0,rfl,l0,g0⟩:=hK
  exact⟨ad,A0,c0,e,by have hq:=hc 0 _ rfl;rwa [Nat.mul_one,Nat.add_zero] at hq,l0,g0⟩

structure S41 where
  f0:Int
  f1:(List (List S53))
  f2:ByteArray
def z41:S41:=⟨(0:Int),([]:List (List S53)),(⟨#[]⟩:ByteArray)⟩
def k41:Kd S41:=Kd.iso (Kd.pair (Kd.int .i64) (Kd.pair (Kd.slice 54 (Kd.slice 53 k53)) Kd.string)) (fun x:S41=>(x.f0,x.f1,x.f2))
theorem k41_open {w:World} {x:S41} {cs:List Value} (h:k41.K w x cs):∃A1 c1,cs=[.int .i64 x.f0,.slice A1 x.f1.length c1,.string x.f2]∧x.f1.length≤c1∧(Kd.slice 53 k53).C w A1 x.f1.length x.f1:=by
  obtain⟨_,_,rfl,rfl,⟨_,_,rfl,⟨A1,c1,rfl,l1,g1⟩,rfl⟩⟩:=h
  exact⟨A1,c1,rfl,l1,g1⟩
theorem k41_mk (w:World) (x:S41) {A1:Option Addr} {c1:Nat} (l1:x.f1.length≤c1) (g1:(Kd.slice 53 k53).C w A1 x.f1.length x.f1):k41.K w x [.int .i64 x.f0,.slice A1 x.f1.length c1,.string x.f2]:=⟨[.int .i64 x.f0],[.slice A1 x.f1.length c1,.string x.f2],rfl,rfl,⟨[.slice A1 x.f1.length c1],[.string x.f2],rfl,⟨A1,c1,rfl,l1,g1⟩,rfl⟩⟩
theorem k41_openF {W:World} {ok:Nat→Prop} {x:S41} {cs:List Value} (h:Kd.FK k41 W ok x cs):∃A1 c1,cs=[.int .i64 x.f0,.slice A1 x.f1.length c1,.string x.f2]∧x.f1.length≤c1∧Kd.F (Kd.slice 53 k53) W ok A1 x.f1.length x.f1:=by
  obtain⟨A1,c1,rfl,l1,_⟩:=k41_open (Kd.FK_now h)
  exact⟨A1,c1,rfl,l1,(fun W' hW=>by obtain⟨A1_,c1_,he,l1_,g1_⟩:=k41_open (h W' hW);injection (Option.some.inj (show some (Value.slice A1 x.f1.length c1)=some (Value.slice A1_ x.f1.length c1_) from congrArg (fun l=>l[1]?) he)) with ha_ _ _;rw[ha_];exact g1_)⟩
theorem k41_mkF (W:World) (ok:Nat→Prop) (x:S41) {A1:Option Addr} {c1:Nat} (l1:x.f1.length≤c1) (g1:Kd.F (Kd.slice 53 k53) W ok A1 x.f1.length x.f1):Kd.FK k41 W ok x [.int .i64 x.f0,.slice A1 x.f1.length c1,.string x.f2]:=fun W2 hW=>k41_mk W2 x l1 (g1 W2 hW)
def rd_T41 (xs:List S41) (i:Int):S41:=xs.getD i.toNat z41
theorem at_T41 {w:World} {A:Option Addr} {n:Nat} {xs:List S41} (h:Kd.C k41 w A n xs) (i:Int) (h0:0≤i) (h1:i<n):∃ad A1 c1,A=some ad∧w.cell? (ad.add (i.toNat*3))=some (.int .i64 (rd_T41 xs i).f0)∧w.cell? ⟨(ad.add (i.toNat*3)).block,(ad.add (i.toNat*3)).off+1,none⟩=some (.slice A1 (rd_T41 xs i).f1.length c1)∧w.cell? ⟨(ad.add (i.toNat*3)).block,(ad.add (i.toNat*3)).off+2,none⟩=some (.string (rd_T41 xs i).f2)∧(rd_T41 xs i).f1.length≤c1∧(Kd.slice 53 k53).C w A1 (rd_T41 xs i).f1.length (rd_T41 xs i).f1:=by
  obtain⟨ad,c,e,_,hK,hc0⟩:=Kd.C_get h z41 i h0 h1
  have hc:∀j u,c[j]? = some u→w.cell? (ad.add (i.toNat*3+j))=some u:=hc0
  obtain⟨A1,c1,rfl,l1,g1⟩:=k41_open hK
  exact⟨ad,A1,c1,e,hc 0 _ rfl,by rw[← add_field _ _ 1 (by omega)];exact hc 1 _ rfl,by rw[← add_field _ _ 2 (by omega)];exact hc 2 _ rfl,l1,g1⟩

structure S139 where
  f0:Int
  f1:Int
def z139:S139:=⟨(0:Int),(0:Int)⟩
def k139:Kd S139:=Kd.iso (Kd.pair (Kd.int .i64) (Kd.int .i64)) (fun x:S139=>(x.f0,x.f1))
theorem k139_heap:Kd.Heap k139:=Kd.heap_iso _ (Kd.heap_pair (Kd.heap_int .i64) (Kd.heap_int .i64))
theorem k139_open {w:World} {x:S139} {cs:List Value} (h:k139.K w x cs):cs=[.int .i64 x.f0,.int .i64 x.f1]:=by
  obtain⟨_,_,rfl,rfl,rfl⟩:=h
  exact rfl
theorem k139_mkM (w:World) (base:Nat) (ok:Nat→Prop) (x:S139):k139.M w base ok x [.int .i64 x.f0,.int .i64 x.f1]:=⟨[.int .i64 x.f0],[.int .i64 x.f1],rfl,rfl,rfl⟩
def rd_T139 (xs:List S139) (i:Int):S139:=xs.getD i.toNat z139
theorem at_T139 {w:World} {A:Option Addr} {n:Nat} {xs:List S139} (h:Kd.C k139 w A n xs) (i:Int) (h0:0≤i) (h1:i<n):∃ad ,A=some ad∧w.cell? (ad.add (i.toNat*2))=some (.int .i64 (rd_T139 xs i).f0)∧w.cell? ⟨(ad.add (i.toNat*2)).block,(ad.add (i.toNat*2)).off+1,none⟩=some (.int .i64 (rd_T139 xs i).f1):=by
  obtain⟨ad,c,e,_,hK,hc0⟩:=Kd.C_get h z139 i h0 h1
  have hc:∀j u,c[j]? = some u→w.cell? (ad.add (i.toNat*2+j))=some u:=hc0
  obtain rfl:=k139_open hK
  exact⟨ad,e,hc 0 _ rfl,by rw[← add_field _ _ 1 (by omega)];exact hc 1 _ rfl⟩

structure S46 where
  f0:Int
  f1:Int
  f2:Int
  f3:Bool
  f4:(List S139)
def z46:S46:=⟨(0:Int),(0:Int),(0:Int),false,([]:List S139)⟩
def k46:Kd S46:=Kd.iso (Kd.pair (Kd.int .i64) (Kd.pair (Kd.int .i64) (Kd.pair (Kd.int .i64) (Kd.pair Kd.bool (Kd.slice 139 k139))))) (fun x:S46=>(x.f0,x.f1,x.f2,x.f3,x.f4))
theorem k46_heap:Kd.Heap k46:=Kd.heap_iso _ (Kd.heap_pair (Kd.heap_int .i64) (Kd.heap_pair (Kd.heap_int .i64) (Kd.heap_pair (Kd.heap_int .i64) (Kd.heap_pair Kd.heap_bool (Kd.heap_slice 139 k139_heap)))))
theorem k46_open {w:World} {x:S46} {cs:List Value} (h:k46.K w x cs):∃A4 c4,cs=[.int .i64 x.f0,.int .i64 x.f1,.int .i64 x.f2,.bool x.f3,.slice A4 x.f4.length c4]∧x.f4.length≤c4∧k139.C w A4 x.f4.length x.f4:=by
  obtain⟨_,_,rfl,rfl,⟨_,_,rfl,rfl,⟨_,_,rfl,rfl,⟨_,_,rfl,rfl,⟨A4,c4,rfl,l4,g4⟩⟩⟩⟩⟩:=h
  exact⟨A4,c4,rfl,l4,g4⟩
theorem k46_mk (w:World) (x:S46) {A4:Option Addr} {c4:Nat} (l4:x.f4.length≤c4) (g4:k139.C w A4 x.f4.length x.f4):k46.K w x [.int .i64 x.f0,.int .i64 x.f1,.int .i64 x.f2,.bool x.f3,.slice A4 x.f4.length c4]:=⟨[.int .i64 x.f0],[.int .i64 x.f1,.int .i64 x.f2,.bool x.f3,.slice A4 x.f4.length c4],rfl,rfl,⟨[.int .i64 x.f1],[.int .i64 x.f2,.bool x.f3,.slice A4 x.f4.length c4],rfl,rfl,⟨[.int .i64 x.f2],[.bool x.f3,.slice A4 x.f4.length c4],rfl,rfl,⟨[.bool x.f3],[.slice A4 x.f4.length c4],rfl,rfl,⟨A4,c4,rfl,l4,g4⟩⟩⟩⟩⟩
theorem k46_openF {W:World} {ok:Nat→Prop} {x:S46} {cs:List Value} (h:Kd.FK k46 W ok x cs):∃A4 c4,cs=[.int .i64 x.f0,.int .i64 x.f1,.int .i64 x.f2,.bool x.f3,.slice A4 x.f4.length c4]∧x.f4.length≤c4∧Kd.F k139 W ok A4 x.f4.length x.f4:=by
  obtain⟨A4,c4,rfl,l4,_⟩:=k46_open (Kd.FK_now h)
  exact⟨A4,c4,rfl,l4,(fun W' hW=>by obtain⟨A4_,c4_,he,l4_,g4_⟩:=k46_open (h W' hW);injection (Option.some.inj (show some (Value.slice A4 x.f4.length c4)=some (Value.slice A4_ x.f4.length c4_) from congrArg (fun l=>l[4]?) he)) with ha_ _ _;rw[ha_];exact g4_)⟩
theorem k46_mkF (W:World) (ok:Nat→Prop) (x:S46) {A4:Option Addr} {c4:Nat} (l4:x.f4.length≤c4) (g4:Kd.F k139 W ok A4 x.f4.length x.f4):Kd.FK k46 W ok x [.int .i64 x.f0,.int .i64 x.f1,.int .i64 x.f2,.bool x.f3,.slice A4 x.f4.length c4]:=fun W2 hW=>k46_mk W2 x l4 (g4 W2 hW)
def rd_T46 (xs:List S46) (i:Int):S46:=xs.getD i.toNat z46
theorem at_T46 {w:World} {A:Option Addr} {n:Nat} {xs:List S46} (h:Kd.C k46 w A n xs) (i:Int) (h0:0≤i) (h1:i<n):∃ad A4 c4,A=some ad∧w.cell? (ad.add (i.toNat*5))=some (.int .i64 (rd_T46 xs i).f0)∧w.cell? ⟨(ad.add (i.toNat*5)).block,(ad.add (i.toNat*5)).off+1,none⟩=some (.int .i64 (rd_T46 xs i).f1)∧w.cell? ⟨(ad.add (i.toNat*5)).block,(ad.add (i.toNat*5)).off+2,none⟩=some (.int .i64 (rd_T46 xs i).f2)∧w.cell? ⟨(ad.add (i.toNat*5)).block,(ad.add (i.toNat*5)).off+3,none⟩=some (.bool (rd_T46 xs i).f3)∧w.cell? ⟨(ad.add (i.toNat*5)).block,(ad.add (i.toNat*5)).off+4,none⟩=some (.slice A4 (rd_T46 xs i).f4.length c4)∧(rd_T46 xs i).f4.length≤c4∧k139.C w A4 (rd_T46 xs i).f4.length (rd_T46 xs i).f4:=by
  obtain⟨ad,c,e,_,hK,hc0⟩:=Kd.C_get h z46 i h0 h1
  have hc:∀j u,c[j]? = some u→w.cell? (ad.add (i.toNat*5+j))=some u:=hc0
  obtain⟨A4,c4,rfl,l4,g4⟩:=k46_open hK
  exact⟨ad,A4,c4,e,hc 0 _ rfl,by rw[← add_field _ _ 1 (by omega)];exact hc 1 _ rfl,by rw[← add_field _ _ 2 (by omega)];exact hc 2 _ rfl,by rw[← add_field _ _ 3 (by omega)];exact hc 3 _ rfl,by rw[← add_field _ _ 4 (by omega)];exact hc 4 _ rfl,l4,g4⟩

def rd_L14 (xs:List (List S46)) (i:Int):(List S46):=xs.getD i.toNat ([]:List S46)
theorem at_L14 {w:World} {A:Option Addr} {n:Nat} {xs:List (List S46)} (h:Kd.C (Kd.slice 46 k46) w A n xs) (i:Int) (h0:0≤i) (h1:i<n):∃ad A0 c0,A=some ad∧w.cell? (ad.add i.toNat)=some (.slice A0 (rd_L14 xs i).length c0)∧(rd_L14 xs i).length≤c0∧k46.C w A0 (rd_L14 xs i).length (rd_L14 xs i):=by
  obtain⟨ad,c,e,_,hK,hc0⟩:=Kd.C_get h ([]:List S46) i h0 h1
  have hc:∀j u,c[j]? = some u→w.cell? (ad.add (i.toNat*1+j))=some u:=hc0
  obtain⟨A0,c0,rfl,l0,g0⟩:=hK
  exact⟨ad,A0,c0,e,by have hq:=hc 0 _ rfl;rwa [Nat.mul_one,Nat.add_zero] at hq,l0,g0⟩

structure S50 where
  f0:Int
  f1:Int
  f2:Int
  f3:(List (List S46))
def z50:S50:=⟨(0:Int),(0:Int),(0:Int),([]:List (List S46))⟩
def k50:Kd S50:=Kd.iso (Kd.pair (Kd.int .i64) (Kd.pair (Kd.int .i64) (Kd.pair (Kd.int .i64) (Kd.slice 47 (Kd.slice 46 k46))))) (fun x:S50=>(x.f0,x.f1,x.f2,x.f3))
theorem k50_heap:Kd.Heap k50:=Kd.heap_iso _ (Kd.heap_pair (Kd.heap_int .i64) (Kd.heap_pair (Kd.heap_int .i64) (Kd.heap_pair (Kd.heap_int .i64) (Kd.heap_slice 47 (Kd.heap_slice 46 k46_heap)))))
theorem k50_open {w:World} {x:S50} {cs:List Value} (h:k50.K w x cs):∃A3 c3,cs=[.int .i64 x.f0,.int .i64 x.f1,.int .i64 x.f2,.slice A3 x.f3.length c3]∧x.f3.length≤c3∧(Kd.slice 46 k46).C w A3 x.f3.length x.f3:=by
  obtain⟨_,_,rfl,rfl,⟨_,_,rfl,rfl,⟨_,_,rfl,rfl,⟨A3,c3,rfl,l3,g3⟩⟩⟩⟩:=h
  exact⟨A3,c3,rfl,l3,g3⟩
theorem k50_openF {W:World} {ok:Nat→Prop} {x:S50} {cs:List Value} (h:Kd.FK k50 W ok x cs):∃A3 c3,cs=[.int .i64 x.f0,.int .i64 x.f1,.int .i64 x.f2,.slice A3 x.f3.length c3]∧x.f3.length≤c3∧Kd.F (Kd.slice 46 k46) W ok A3 x.f3.length x.f3:=by
  obtain⟨A3,c3,rfl,l3,_⟩:=k50_open (Kd.FK_now h)
  exact⟨A3,c3,rfl,l3,(fun W' hW=>by obtain⟨A3_,c3_,he,l3_,g3_⟩:=k50_open (h W' hW);injection (Option.some.inj (show some (Value.slice A3 x.f3.length c3)=some (Value.slice A3_ x.f3.length c3_) from congrArg (fun l=>l[3]?) he)) with ha_ _ _;rw[ha_];exact g3_)⟩
def rd_T50 (xs:List S50) (i:Int):S50:=xs.getD i.toNat z50
theorem at_T50 {w:World} {A:Option Addr} {n:Nat} {xs:List S50} (h:Kd.C k50 w A n xs) (i:Int) (h0:0≤i) (h1:i<n):∃ad A3 c3,A=some ad∧w.cell? (ad.add (i.toNat*4))=some (.int .i64 (rd_T50 xs i).f0)∧w.cell? ⟨(ad.add (i.toNat*4)).block,(ad.add (i.toNat*4)).off+1,none⟩=some (.int .i64 (rd_T50 xs i).f1)∧w.cell? ⟨(ad.add (i.toNat*4)).block,(ad.add (i.toNat*4)).off+2,none⟩=some (.int .i64 (rd_T50 xs i).f2)∧w.cell? ⟨(ad.add (i.toNat*4)).block,(ad.add (i.toNat*4)).off+3,none⟩=some (.slice A3 (rd_T50 xs i).f3.length c3)∧(rd_T50 xs i).f3.length≤c3∧(Kd.slice 46 k46).C w A3 (rd_T50 xs i).f3.length (rd_T50 xs i).f3:=by
  obtain⟨ad,c,e,_,hK,hc0⟩:=Kd.C_get h z50 i h0 h1
  have hc:∀j u,c[j]? = some u→w.cell? (ad.add (i.toNat*4+j))=some u:=hc0
  obtain⟨A3,c3,rfl,l3,g3⟩:=k50_open hK
  exact⟨ad,A3,c3,e,hc 0 _ rfl,by rw[← add_field _ _ 1 (by omega)];exact hc 1 _ rfl,by rw[← add_field _ _ 2 (by omega)];exact hc 2 _ rfl,by rw[← add_field _ _ 3 (by omega)];exact hc 3 _ rfl,l3,g3⟩

end Go.Proofs.YtadagjgkanlmdaaGreatDoor.P
