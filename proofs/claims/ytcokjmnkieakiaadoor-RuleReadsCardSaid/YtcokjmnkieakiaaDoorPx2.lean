-- written by a program of this session (wip/p2)
import Derived.Test.YtcokjmnkieakiaaDoorPx0
namespace Go.Proofs.YtcokjmnkieakiaaDoor.P
open Go.RowKit Go.Proofs.YtcokjmnkieakiaaDoorW.PrintWords Go.Proofs.YtcokjmnkieakiaaDoorW.PrintLast Go.Proofs.YtcokjmnkieakiaaDoorW.PrintMore
attribute [local go_sem] max2_int min2_int max_two min_two max_three min_three max_four min_four   -- for this text's walks alone
set_option linter.unusedVariables false
set_option linter.unusedSimpArgs false

/-- A state of type 56 at block g of W; what its slices lead to came in by w0. -/
def IsS56 (w0 W:World) (g:Nat) (f0:ByteArray) (f1:Int) (f2:Int) (f3:Bool) (f4:Bool) (f5:Bool) (f6:Bool) (f7:Bool) (f8:Bool):Prop:=W.heap[g]? = some (.cells #[.string f0,.int .i64 f1,.int .i64 f2,.bool f3,.bool f4,.bool f5,.bool f6,.bool f7,.bool f8] 56 (0,0))∧w0.heap.size≤g
theorem IsS56.grown {w0 W:World} {g:Nat} {f0:ByteArray} {f1:Int} {f2:Int} {f3:Bool} {f4:Bool} {f5:Bool} {f6:Bool} {f7:Bool} {f8:Bool} {W1:World} {row:Option Nat} (h:IsS56 w0 W g f0 f1 f2 f3 f4 f5 f6 f7 f8) (hw:W.grownBy W1 row) (hne:some g≠row):IsS56 w0 W1 g f0 f1 f2 f3 f4 f5 f6 f7 f8:=by
 obtain⟨hb,hg⟩:=h
 exact⟨blk_grown hb hw hne,hg⟩
theorem IsS56.own_neN {w0 W:World} {g:Nat} {f0:ByteArray} {f1:Int} {f2:Int} {f3:Bool} {f4:Bool} {f5:Bool} {f6:Bool} {f7:Bool} {f8:Bool} {α:Type} {d:Kd α} {e:Nat} {base:Nat} {ok:Nat→Prop} {v:Value} {xs:List α} (h:IsS56 w0 W g f0 f1 f2 f3 f4 f5 f6 f7 f8) (ho:Kd.N d e W base ok v xs) (ht:e≠56):some g≠v.ownBlock:=by
 obtain⟨hb,hg⟩:=h
 exact Kd.N_ne ho hb ht
theorem IsS56.fresh {w0 W:World} {g:Nat} {f0:ByteArray} {f1:Int} {f2:Int} {f3:Bool} {f4:Bool} {f5:Bool} {f6:Bool} {f7:Bool} {f8:Bool} (h:IsS56 w0 W g f0 f1 f2 f3 f4 f5 f6 f7 f8):∀k,W.heap.size≤k→k≠g:=by
 obtain⟨hb,hg⟩:=h
 exact Kd.freshB hb
theorem IsS56.kept {w0 W:World} {g:Nat} {f0:ByteArray} {f1:Int} {f2:Int} {f3:Bool} {f4:Bool} {f5:Bool} {f6:Bool} {f7:Bool} {f8:Bool} {W1:World} {S:Nat→Prop} (h:IsS56 w0 W g f0 f1 f2 f3 f4 f5 f6 f7 f8) (hk:Kept W W1 S) (hne:¬S g):IsS56 w0 W1 g f0 f1 f2 f3 f4 f5 f6 f7 f8:=by
 obtain⟨hb,hg⟩:=h
 exact⟨blk_kept hb hk hne,hg⟩
theorem IsS56.below {w0 W:World} {g:Nat} {f0:ByteArray} {f1:Int} {f2:Int} {f3:Bool} {f4:Bool} {f5:Bool} {f6:Bool} {f7:Bool} {f8:Bool} {W1:World} (h:IsS56 w0 W g f0 f1 f2 f3 f4 f5 f6 f7 f8) (hw:Below W.heap.size W W1):IsS56 w0 W1 g f0 f1 f2 f3 f4 f5 f6 f7 f8:=h.grown (grown_of_below hw none) (by simp)
theorem IsS56.alloc {w0 W:World} {g:Nat} {f0:ByteArray} {f1:Int} {f2:Int} {f3:Bool} {f4:Bool} {f5:Bool} {f6:Bool} {f7:Bool} {f8:Bool} (h:IsS56 w0 W g f0 f1 f2 f3 f4 f5 f6 f7 f8) (o:Obj):IsS56 w0 (W.alloc o) g f0 f1 f2 f3 f4 f5 f6 f7 f8:=h.below (below_alloc (Below.refl _ _) o)
theorem IsS56.drewN {w0 W:World} {g:Nat} {f0:ByteArray} {f1:Int} {f2:Int} {f3:Bool} {f4:Bool} {f5:Bool} {f6:Bool} {f7:Bool} {f8:Bool} (h:IsS56 w0 W g f0 f1 f2 f3 f4 f5 f6 f7 f8) (m:Nat):IsS56 w0 (W.drewN m) g f0 f1 f2 f3 f4 f5 f6 f7 f8:=h
theorem IsS56.drew {w0 W:World} {g:Nat} {f0:ByteArray} {f1:Int} {f2:Int} {f3:Bool} {f4:Bool} {f5:Bool} {f6:Bool} {f7:Bool} {f8:Bool} (h:IsS56 w0 W g f0 f1 f2 f3 f4 f5 f6 f7 f8):IsS56 w0 W.drew g f0 f1 f2 f3 f4 f5 f6 f7 f8:=h
theorem IsS56.at_ {w0 W:World} {g:Nat} {f0:ByteArray} {f1:Int} {f2:Int} {f3:Bool} {f4:Bool} {f5:Bool} {f6:Bool} {f7:Bool} {f8:Bool} {w':World} {m:Nat} (hq:W.drewN m=w') (h:IsS56 w0 W g f0 f1 f2 f3 f4 f5 f6 f7 f8):IsS56 w0 w' g f0 f1 f2 f3 f4 f5 f6 f7 f8:=by subst hq;exact IsS56.drewN h m
theorem IsS56.apart {w0 W:World} {g:Nat} {f0:ByteArray} {f1:Int} {f2:Int} {f3:Bool} {f4:Bool} {f5:Bool} {f6:Bool} {f7:Bool} {f8:Bool} {α:Type} {d:Kd α} {e:Nat} {base:Nat} {ok:Nat→Prop} {v:Value} {xs:List α} (h:IsS56 w0 W g f0 f1 f2 f3 f4 f5 f6 f7 f8) (ho:d.R e W base ok v xs) (ht:∀q,q∈e::d.E→q≠56):d.R e W base (fun k=>ok k∧k≠g) v xs:=by
 obtain⟨hb,hg⟩:=h
 exact Kd.R_types ho hb ht
theorem IsS56.own_ne {w0 W:World} {g:Nat} {f0:ByteArray} {f1:Int} {f2:Int} {f3:Bool} {f4:Bool} {f5:Bool} {f6:Bool} {f7:Bool} {f8:Bool} {α:Type} {d:Kd α} {e:Nat} {base:Nat} {ok:Nat→Prop} {v:Value} {xs:List α} (h:IsS56 w0 W g f0 f1 f2 f3 f4 f5 f6 f7 f8) (ho:d.R e W base ok v xs) (ht:e≠56):some g≠v.ownBlock:=by
 obtain⟨hb,hg⟩:=h
 exact Kd.R_ne ho hb ht
theorem IsS56.apartQ {w0 W:World} {g:Nat} {f0:ByteArray} {f1:Int} {f2:Int} {f3:Bool} {f4:Bool} {f5:Bool} {f6:Bool} {f7:Bool} {f8:Bool} {α:Type} {d:Kd α} {e:Nat} {base:Nat} {ok:Nat→Prop} {v:Value} {xs:List α} (h:IsS56 w0 W g f0 f1 f2 f3 f4 f5 f6 f7 f8) (ho:d.Q e W base ok v xs) (ht:∀q,q∈e::d.E→q≠56):d.Q e W base (fun k=>ok k∧k≠g) v xs:=by
 obtain⟨hb,hg⟩:=h
 exact Kd.Q_types ho hb ht
theorem IsS56.own_neQ {w0 W:World} {g:Nat} {f0:ByteArray} {f1:Int} {f2:Int} {f3:Bool} {f4:Bool} {f5:Bool} {f6:Bool} {f7:Bool} {f8:Bool} {α:Type} {d:Kd α} {e:Nat} {base:Nat} {ok:Nat→Prop} {v:Value} {xs:List α} (h:IsS56 w0 W g f0 f1 f2 f3 f4 f5 f6 f7 f8) (ho:d.Q e W base ok v xs) (ht:e≠56):some g≠v.ownBlock:=by
 obtain⟨hb,hg⟩:=h
 exact Kd.Q_ne ho hb ht
theorem IsS56.apartS {w0 W:World} {g:Nat} {f0:ByteArray} {f1:Int} {f2:Int} {f3:Bool} {f4:Bool} {f5:Bool} {f6:Bool} {f7:Bool} {f8:Bool} {α:Type} {d:Kd α} {e:Nat} {base:Nat} {ok:Nat→Prop} {v:Value} {xs:List α} (h:IsS56 w0 W g f0 f1 f2 f3 f4 f5 f6 f7 f8) (ho:d.S e W base ok v xs) (ht:∀q,q∈e::d.E→q≠56):d.S e W base (fun k=>ok k∧k≠g) v xs:=by
 obtain⟨hb,hg⟩:=h
 exact Kd.S_types ho hb ht
theorem IsS56.own_neS {w0 W:World} {g:Nat} {f0:ByteArray} {f1:Int} {f2:Int} {f3:Bool} {f4:Bool} {f5:Bool} {f6:Bool} {f7:Bool} {f8:Bool} {α:Type} {d:Kd α} {e:Nat} {base:Nat} {ok:Nat→Prop} {v:Value} {xs:List α} (h:IsS56 w0 W g f0 f1 f2 f3 f4 f5 f6 f7 f8) (ho:d.S e W base ok v xs) (ht:e≠56):some g≠v.ownBlock:=by
 obtain⟨hb,hg⟩:=h
 exact Kd.S_ne ho hb ht
theorem IsS56.lt {w0 W:World} {g:Nat} {f0:ByteArray} {f1:Int} {f2:Int} {f3:Bool} {f4:Bool} {f5:Bool} {f6:Bool} {f7:Bool} {f8:Bool} (h:IsS56 w0 W g f0 f1 f2 f3 f4 f5 f6 f7 f8):g<W.heap.size:=by
 obtain⟨hb,hg⟩:=h
 exact blk_lt hb
theorem IsS56.ge {w0 W:World} {g:Nat} {f0:ByteArray} {f1:Int} {f2:Int} {f3:Bool} {f4:Bool} {f5:Bool} {f6:Bool} {f7:Bool} {f8:Bool} (h:IsS56 w0 W g f0 f1 f2 f3 f4 f5 f6 f7 f8):w0.heap.size≤g:=by
 obtain⟨hb,hg⟩:=h
 exact hg
theorem IsS56.ne_blk {w0 W:World} {g:Nat} {f0:ByteArray} {f1:Int} {f2:Int} {f3:Bool} {f4:Bool} {f5:Bool} {f6:Bool} {f7:Bool} {f8:Bool} {a:Nat} {cs:Array Value} {t:TypeId} {fr:Nat × Nat} (h:IsS56 w0 W g f0 f1 f2 f3 f4 f5 f6 f7 f8) (hb2:W.heap[a]? = some (.cells cs t fr)) (ht:t≠56):g≠a:=by
 obtain⟨hb,hg⟩:=h
 rintro rfl
 rw[hb] at hb2
 injection hb2 with hb2
 injection hb2 with _ ht2
 exact ht ht2.symm
theorem IsS56.far {w0 W:World} {g:Nat} {f0:ByteArray} {f1:Int} {f2:Int} {f3:Bool} {f4:Bool} {f5:Bool} {f6:Bool} {f7:Bool} {f8:Bool} {p:Addr} (h:IsS56 w0 W g f0 f1 f2 f3 f4 f5 f6 f7 f8) (hne:g≠p.block) (u:Value):IsS56 w0 (W.setCell p u) g f0 f1 f2 f3 f4 f5 f6 f7 f8:=by
 obtain⟨hb,hg⟩:=h
 exact⟨blk_far hb hne u,hg⟩
theorem cellS56_0 {W:World} {g:Nat} {f0:ByteArray} {f1:Int} {f2:Int} {f3:Bool} {f4:Bool} {f5:Bool} {f6:Bool} {f7:Bool} {f8:Bool} (h:W.heap[g]? = some (.cells #[.string f0,.int .i64 f1,.int .i64 f2,.bool f3,.bool f4,.bool f5,.bool f6,.bool f7,.bool f8] 56 (0,0))):W.cell? ⟨g,0,none⟩=some (.string f0):=(blk_cell h 0).trans rfl
theorem IsS56.set_0 {w0 W:World} {g:Nat} {f0:ByteArray} {f1:Int} {f2:Int} {f3:Bool} {f4:Bool} {f5:Bool} {f6:Bool} {f7:Bool} {f8:Bool} (h:IsS56 w0 W g f0 f1 f2 f3 f4 f5 f6 f7 f8) (x:ByteArray):IsS56 w0 (W.setCell ⟨g,0,none⟩ (.string x)) g x f1 f2 f3 f4 f5 f6 f7 f8:=by
 obtain⟨hb,hg⟩:=h
 exact⟨by simpa using blk_set hb 0 (.string x),hg⟩
theorem cellS56_1 {W:World} {g:Nat} {f0:ByteArray} {f1:Int} {f2:Int} {f3:Bool} {f4:Bool} {f5:Bool} {f6:Bool} {f7:Bool} {f8:Bool} (h:W.heap[g]? = some (.cells #[.string f0,.int .i64 f1,.int .i64 f2,.bool f3,.bool f4,.bool f5,.bool f6,.bool f7,.bool f8] 56 (0,0))):W.cell? ⟨g,1,none⟩=some (.int .i64 f1):=(blk_cell h 1).trans rfl
theorem IsS56.set_1 {w0 W:World} {g:Nat} {f0:ByteArray} {f1:Int} {f2:Int} {f3:Bool} {f4:Bool} {f5:Bool} {f6:Bool} {f7:Bool} {f8:Bool} (h:IsS56 w0 W g f0 f1 f2 f3 f4 f5 f6 f7 f8) (x:Int):IsS56 w0 (W.setCell ⟨g,1,none⟩ (.int .i64 x)) g f0 x f2 f3 f4 f5 f6 f7 f8:=by
 obtain⟨hb,hg⟩:=h
 exact⟨by simpa using blk_set hb 1 (.int .i64 x),hg⟩
theorem cellS56_2 {W:World} {g:Nat} {f0:ByteArray} {f1:Int} {f2:Int} {f3:Bool} {f4:Bool} {f5:Bool} {f6:Bool} {f7:Bool} {f8:Bool} (h:W.heap[g]? = some (.cells #[.string f0,.int .i64 f1,.int .i64 f2,.bool f3,.bool f4,.bool f5,.bool f6,.bool f7,.bool f8] 56 (0,0))):W.cell? ⟨g,2,none⟩=some (.int .i64 f2):=(blk_cell h 2).trans rfl
theorem IsS56.set_2 {w0 W:World} {g:Nat} {f0:ByteArray} {f1:Int} {f2:Int} {f3:Bool} {f4:Bool} {f5:Bool} {f6:Bool} {f7:Bool} {f8:Bool} (h:IsS56 w0 W g f0 f1 f2 f3 f4 f5 f6 f7 f8) (x:Int):IsS56 w0 (W.setCell ⟨g,2,none⟩ (.int .i64 x)) g f0 f1 x f3 f4 f5 f6 f7 f8:=by
 obtain⟨hb,hg⟩:=h
 exact⟨by simpa using blk_set hb 2 (.int .i64 x),hg⟩
theorem cellS56_3 {W:World} {g:Nat} {f0:ByteArray} {f1:Int} {f2:Int} {f3:Bool} {f4:Bool} {f5:Bool} {f6:Bool} {f7:Bool} {f8:Bool} (h:W.heap[g]? = some (.cells #[.string f0,.int .i64 f1,.int .i64 f2,.bool f3,.bool f4,.bool f5,.bool f6,.bool f7,.bool f8] 56 (0,0))):W.cell? ⟨g,3,none⟩=some (.bool f3):=(blk_cell h 3).trans rfl
theorem IsS56.set_3 {w0 W:World} {g:Nat} {f0:ByteArray} {f1:Int} {f2:Int} {f3:Bool} {f4:Bool} {f5:Bool} {f6:Bool} {f7:Bool} {f8:Bool} (h:IsS56 w0 W g f0 f1 f2 f3 f4 f5 f6 f7 f8) (x:Bool):IsS56 w0 (W.setCell ⟨g,3,none⟩ (.bool x)) g f0 f1 f2 x f4 f5 f6 f7 f8:=by
 obtain⟨hb,hg⟩:=h
 exact⟨by simpa using blk_set hb 3 (.bool x),hg⟩
theorem cellS56_4 {W:World} {g:Nat} {f0:ByteArray} {f1:Int} {f2:Int} {f3:Bool} {f4:Bool} {f5:Bool} {f6:Bool} {f7:Bool} {f8:Bool} (h:W.heap[g]? = some (.cells #[.string f0,.int .i64 f1,.int .i64 f2,.bool f3,.bool f4,.bool f5,.bool f6,.bool f7,.bool f8] 56 (0,0))):W.cell? ⟨g,4,none⟩=some (.bool f4):=(blk_cell h 4).trans rfl
theorem IsS56.set_4 {w0 W:World} {g:Nat} {f0:ByteArray} {f1:Int} {f2:Int} {f3:Bool} {f4:Bool} {f5:Bool} {f6:Bool} {f7:Bool} {f8:Bool} (h:IsS56 w0 W g f0 f1 f2 f3 f4 f5 f6 f7 f8) (x:Bool):IsS56 w0 (W.setCell ⟨g,4,none⟩ (.bool x)) g f0 f1 f2 f3 x f5 f6 f7 f8:=by
 obtain⟨hb,hg⟩:=h
 exact⟨by simpa using blk_set hb 4 (.bool x),hg⟩
theorem cellS56_5 {W:World} {g:Nat} {f0:ByteArray} {f1:Int} {f2:Int} {f3:Bool} {f4:Bool} {f5:Bool} {f6:Bool} {f7:Bool} {f8:Bool} (h:W.heap[g]? = some (.cells #[.string f0,.int .i64 f1,.int .i64 f2,.bool f3,.bool f4,.bool f5,.bool f6,.bool f7,.bool f8] 56 (0,0))):W.cell? ⟨g,5,none⟩=some (.bool f5):=(blk_cell h 5).trans rfl
theorem IsS56.set_5 {w0 W:World} {g:Nat} {f0:ByteArray} {f1:Int} {f2:Int} {f3:Bool} {f4:Bool} {f5:Bool} {f6:Bool} {f7:Bool} {f8:Bool} (h:IsS56 w0 W g f0 f1 f2 f3 f4 f5 f6 f7 f8) (x:Bool):IsS56 w0 (W.setCell ⟨g,5,none⟩ (.bool x)) g f0 f1 f2 f3 f4 x f6 f7 f8:=by
 obtain⟨hb,hg⟩:=h
 exact⟨by simpa using blk_set hb 5 (.bool x),hg⟩
theorem cellS56_6 {W:World} {g:Nat} {f0:ByteArray} {f1:Int} {f2:Int} {f3:Bool} {f4:Bool} {f5:Bool} {f6:Bool} {f7:Bool} {f8:Bool} (h:W.heap[g]? = some (.cells #[.string f0,.int .i64 f1,.int .i64 f2,.bool f3,.bool f4,.bool f5,.bool f6,.bool f7,.bool f8] 56 (0,0))):W.cell? ⟨g,6,none⟩=some (.bool f6):=(blk_cell h 6).trans rfl
theorem IsS56.set_6 {w0 W:World} {g:Nat} {f0:ByteArray} {f1:Int} {f2:Int} {f3:Bool} {f4:Bool} {f5:Bool} {f6:Bool} {f7:Bool} {f8:Bool} (h:IsS56 w0 W g f0 f1 f2 f3 f4 f5 f6 f7 f8) (x:Bool):IsS56 w0 (W.setCell ⟨g,6,none⟩ (.bool x)) g f0 f1 f2 f3 f4 f5 x f7 f8:=by
 obtain⟨hb,hg⟩:=h
 exact⟨by simpa using blk_set hb 6 (.bool x),hg⟩
theorem cellS56_7 {W:World} {g:Nat} {f0:ByteArray} {f1:Int} {f2:Int} {f3:Bool} {f4:Bool} {f5:Bool} {f6:Bool} {f7:Bool} {f8:Bool} (h:W.heap[g]? = some (.cells #[.string f0,.int .i64 f1,.int .i64 f2,.bool f3,.bool f4,.bool f5,.bool f6,.bool f7,.bool f8] 56 (0,0))):W.cell? ⟨g,7,none⟩=some (.bool f7):=(blk_cell h 7).trans rfl
theorem IsS56.set_7 {w0 W:World} {g:Nat} {f0:ByteArray} {f1:Int} {f2:Int} {f3:Bool} {f4:Bool} {f5:Bool} {f6:Bool} {f7:Bool} {f8:Bool} (h:IsS56 w0 W g f0 f1 f2 f3 f4 f5 f6 f7 f8) (x:Bool):IsS56 w0 (W.setCell ⟨g,7,none⟩ (.bool x)) g f0 f1 f2 f3 f4 f5 f6 x f8:=by
 obtain⟨hb,hg⟩:=h
 exact⟨by simpa using blk_set hb 7 (.bool x),hg⟩
theorem cellS56_8 {W:World} {g:Nat} {f0:ByteArray} {f1:Int} {f2:Int} {f3:Bool} {f4:Bool} {f5:Bool} {f6:Bool} {f7:Bool} {f8:Bool} (h:W.heap[g]? = some (.cells #[.string f0,.int .i64 f1,.int .i64 f2,.bool f3,.bool f4,.bool f5,.bool f6,.bool f7,.bool f8] 56 (0,0))):W.cell? ⟨g,8,none⟩=some (.bool f8):=(blk_cell h 8).trans rfl
theorem IsS56.set_8 {w0 W:World} {g:Nat} {f0:ByteArray} {f1:Int} {f2:Int} {f3:Bool} {f4:Bool} {f5:Bool} {f6:Bool} {f7:Bool} {f8:Bool} (h:IsS56 w0 W g f0 f1 f2 f3 f4 f5 f6 f7 f8) (x:Bool):IsS56 w0 (W.setCell ⟨g,8,none⟩ (.bool x)) g f0 f1 f2 f3 f4 f5 f6 f7 x:=by
 obtain⟨hb,hg⟩:=h
 exact⟨by simpa using blk_set hb 8 (.bool x),hg⟩
theorem IsS56.setx_3 {w0 W:World} {g:Nat} {f0:ByteArray} {f1:Int} {f2:Int} {f3:Bool} {f4:Bool} {f5:Bool} {f6:Bool} {f7:Bool} {f8:Bool} (h:IsS56 w0 W g f0 f1 f2 f3 f4 f5 f6 f7 f8) (x:Bool) (c:Int) (h0:0≤c) (h1:c<6):IsS56 w0 (W.setCell ⟨g,3+c.toNat,none⟩ (.bool x)) g f0 f1 f2 (if c=0 then x else f3) (if c=1 then x else f4) (if c=2 then x else f5) (if c=3 then x else f6) (if c=4 then x else f7) (if c=5 then x else f8):=by
 rcases ax6_ c h0 h1 with rfl|rfl|rfl|rfl|rfl|rfl
 ·exact IsS56.set_3 h x
 ·exact IsS56.set_4 h x
 ·exact IsS56.set_5 h x
 ·exact IsS56.set_6 h x
 ·exact IsS56.set_7 h x
 ·exact IsS56.set_8 h x
theorem is56_ {w0 W0 W:World} {g:Nat} {f0 h0:ByteArray} {f1 h1:Int} {f2 h2:Int} {f3 h3:Bool} {f4 h4:Bool} {f5 h5:Bool} {f6 h6:Bool} {f7 h7:Bool} {f8 h8:Bool} (h:Aside0 (IsS56 w0 W0 g f0 f1 f2 f3 f4 f5 f6 f7 f8)) (hr:IsS56 w0 W0 g f0 f1 f2 f3 f4 f5 f6 f7 f8→IsS56 w0 W g h0 h1 h2 h3 h4 h5 h6 h7 h8:=by intro h_;repeat(first|(with_reducible first|exact h_|apply IsS56.alloc|apply IsS56.drewN|apply IsS56.drew|refine IsS56.setx_3 ?_ _ _ (by first|assumption|omega) (by first|assumption|omega)|apply IsS56.set_0|apply IsS56.set_1|apply IsS56.set_2|apply IsS56.set_3|apply IsS56.set_4|apply IsS56.set_5|apply IsS56.set_6|apply IsS56.set_7|apply IsS56.set_8|refine IsS56.far ?_ (Aside0.out (by assumption)) _)|exact h_)):IsS56 w0 W g h0 h1 h2 h3 h4 h5 h6 h7 h8:=hr h.out
theorem bs56_ {w0 W0 W1 W:World} {g:Nat} {f0:ByteArray} {f1:Int} {f2:Int} {f3:Bool} {f4:Bool} {f5:Bool} {f6:Bool} {f7:Bool} {f8:Bool} (h:Aside0 (Below w0.heap.size w0 W0)) (hi:Aside0 (IsS56 w0 W1 g f0 f1 f2 f3 f4 f5 f6 f7 f8)) (hr:Below w0.heap.size w0 W0→Below w0.heap.size w0 W:=by intro h_;repeat(first|(with_reducible first|exact h_|apply below_alloc|apply pw_below_drewN|apply below_drew1|refine below_set ?_ (IsS56.ge (Aside0.out (by assumption)))|refine below_set ?_ (Aside0.out (by assumption)))|exact h_)):Below w0.heap.size w0 W:=hr h.out
theorem cs56_ {w0 W:World} {g:Nat} {f0:ByteArray} {f1:Int} {f2:Int} {f3:Bool} {f4:Bool} {f5:Bool} {f6:Bool} {f7:Bool} {f8:Bool} (h:Aside0 (IsS56 w0 W g f0 f1 f2 f3 f4 f5 f6 f7 f8)):W.cell? ⟨g,0,none⟩=some (.string f0)∧W.cell? ⟨g,1,none⟩=some (.int .i64 f1)∧W.cell? ⟨g,2,none⟩=some (.int .i64 f2)∧W.cell? ⟨g,3,none⟩=some (.bool f3)∧W.cell? ⟨g,4,none⟩=some (.bool f4)∧W.cell? ⟨g,5,none⟩=some (.bool f5)∧W.cell? ⟨g,6,none⟩=some (.bool f6)∧W.cell? ⟨g,7,none⟩=some (.bool f7)∧W.cell? ⟨g,8,none⟩=some (.bool f8)∧W.frozen? ⟨g,0,none⟩=false∧W.frozen? ⟨g,1,none⟩=false∧W.frozen? ⟨g,2,none⟩=false∧W.frozen? ⟨g,3,none⟩=false∧W.frozen? ⟨g,4,none⟩=false∧W.frozen? ⟨g,5,none⟩=false∧W.frozen? ⟨g,6,none⟩=false∧W.frozen? ⟨g,7,none⟩=false∧W.frozen? ⟨g,8,none⟩=false:=⟨cellS56_0 h.out.1,cellS56_1 h.out.1,cellS56_2 h.out.1,cellS56_3 h.out.1,cellS56_4 h.out.1,cellS56_5 h.out.1,cellS56_6 h.out.1,cellS56_7 h.out.1,cellS56_8 h.out.1,blk_frozen h.out.1 0,blk_frozen h.out.1 1,blk_frozen h.out.1 2,blk_frozen h.out.1 3,blk_frozen h.out.1 4,blk_frozen h.out.1 5,blk_frozen h.out.1 6,blk_frozen h.out.1 7,blk_frozen h.out.1 8⟩
theorem IsS56.new (w0 W:World) (f0:ByteArray) (f1:Int) (f2:Int) (f3:Bool) (f4:Bool) (f5:Bool) (f6:Bool) (f7:Bool) (f8:Bool) (hB:Below w0.heap.size w0 W):IsS56 w0 (W.alloc (.cells #[.string f0,.int .i64 f1,.int .i64 f2,.bool f3,.bool f4,.bool f5,.bool f6,.bool f7,.bool f8] 56)) W.heap.size f0 f1 f2 f3 f4 f5 f6 f7 f8:=⟨by simpa using heap_alloc_new W _,hB.size⟩

/-! ### rule_reader_blanks: function 26 -/
def rule_reader_blanks.l0:Nat→ByteArray→Int→Int→Bool→Bool→Bool→Bool→Bool→Bool→Option (ByteArray × Int × Int × Bool × Bool × Bool × Bool × Bool × Bool)
 | 0,_,_,_,_,_,_,_,_,_=>none
 | k+1,x1000,x1001,x1002,x1003,x1004,x1005,x1006,x1007,x1008=>if x1001<(x1000.size:Int) then (if 0≤x1001 then (if (bt x1000 x1001)=32 then (rule_reader_blanks.l0 k x1000 (wrap64 (x1001+1)) x1002 x1003 x1004 x1005 x1006 x1007 x1008) else (some (x1000,x1001,x1002,x1003,x1004,x1005,x1006,x1007,x1008))) else (none)) else (some (x1000,x1001,x1002,x1003,x1004,x1005,x1006,x1007,x1008))
def rule_reader_blanks.f (k:Nat) (s0_0:ByteArray) (s0_1:Int) (s0_2:Int) (s0_3:Bool) (s0_4:Bool) (s0_5:Bool) (s0_6:Bool) (s0_7:Bool) (s0_8:Bool):Option (ByteArray × Int × Int × Bool × Bool × Bool × Bool × Bool × Bool):=rule_reader_blanks.l0 k s0_0 s0_1 s0_2 s0_3 s0_4 s0_5 s0_6 s0_7 s0_8
set_option maxHeartbeats 64000000 in
set_option maxRecDepth 100000 in
theorem rule_reader_blanks.calls (k:Nat) (g:Nat) (s0_0:ByteArray) (s0_1:Int) (s0_2:Int) (s0_3:Bool) (s0_4:Bool) (s0_5:Bool) (s0_6:Bool) (s0_7:Bool) (s0_8:Bool) (r1:ByteArray) (r2:Int) (r3:Int) (r4:Bool) (r5:Bool) (r6:Bool) (r7:Bool) (r8:Bool) (r9:Bool) (w0 w:World) (hI:IsS56 w0 w g s0_0 s0_1 s0_2 s0_3 s0_4 s0_5 s0_6 s0_7 s0_8) (hB:Below w0.heap.size w0 w) (h:rule_reader_blanks.f k s0_0 s0_1 s0_2 s0_3 s0_4 s0_5 s0_6 s0_7 s0_8=some (r1,r2,r3,r4,r5,r6,r7,r8,r9)) :
  Calls Tryd.prog 26 #[.pointer (some ⟨g,0,none⟩)] w fun e w'=>e= .returned (.tuple #[])∧IsS56 w0 w' g r1 r2 r3 r4 r5 r6 r7 r8 r9∧Below w0.heap.size w0 w'∧KeepBut w w' g none:=by
 have HI0:=Aside0.mk hI
 have HK:=Aside0.mk (KeepBut.refl w g none)
 have HL:=Aside0.mk hB.size
 clear hI
 have HW0:=Aside0.mk hB.size
 have HB:=Aside0.mk hB
 clear hB
 have H:(rule_reader_blanks.l0 k s0_0 s0_1 s0_2 s0_3 s0_4 s0_5 s0_6 s0_7 s0_8)=some (r1,r2,r3,r4,r5,r6,r7,r8,r9):=h
 clear h
 have H':=Aside0.mk H
 clear H
 go_enter Tryd.func26,Tryd.ntmps26
 go_wp2
 repeat(go_quiet (fail);try go_wp2)
 go_loopg [] k (fun kq w'=>∃(x1001_1:Int),Aside0 (rule_reader_blanks.l0 kq s0_0 x1001_1 s0_2 s0_3 s0_4 s0_5 s0_6 s0_7 s0_8=some (r1,r2,r3,r4,r5,r6,r7,r8,r9))∧Aside0 (kq≤k)∧Aside0 (IsS56 w0 w' g s0_0 x1001_1 s0_2 s0_3 s0_4 s0_5 s0_6 s0_7 s0_8)∧Aside0 (KeepBut w w' g none)∧Aside0 (Below w0.heap.size w0 w'))
 case atStart=>exact⟨(s0_1),H',⟨Nat.le_refl _⟩,⟨is56_ HI0⟩,⟨kp_ HK⟩,⟨bs56_ HB HI0⟩⟩
 case round =>
  clear H'
  obtain⟨x1001_1,HA,HK1,HI0,HK,HB⟩:=hrel
  cases gk with
  | zero=>exact absurd HA.out (by simp[rule_reader_blanks.l0])
  | succ k1 =>
   have H:=HA.out
   clear HA
   simp only[rule_reader_blanks.l0] at H
   by_cases c2:x1001_1<(s0_0.size:Int)
   ·rw[if_pos c2] at H
    have c2b0:=decide_eq_true c2
    clear c2
    replace H:=ifn_ H
    obtain⟨c3,H⟩:=H
    have c3b0:decide (0≤x1001_1)=true:=decide_eq_true c3
    clear c3
    by_cases c5:(bt s0_0 x1001_1)=32
    ·rw[if_pos c5] at H
     have c5b0:((bt s0_0 x1001_1)==32)=true:=beq_iff_eq.mpr c5
     have c5b1:((bt s0_0 x1001_1) !=32)=false:=bne_eq_false_iff_eq.mpr c5
     clear c5
     have H':=Aside0.mk H
     clear H
     obtain⟨hcz6_0,hcz6_1,hcz6_2,hcz6_3,hcz6_4,hcz6_5,hcz6_6,hcz6_7,hcz6_8,hfz6_0,hfz6_1,hfz6_2,hfz6_3,hfz6_4,hfz6_5,hfz6_6,hfz6_7,hfz6_8⟩:=cs56_ HI0
     have p4:0≤(x1001_1:Int):=od_
     have q4:x1001_1<(s0_0.size:Int):=od_
     have hx4:=bt_at s0_0 x1001_1
     replace p4:=eq_true p4
     replace q4:=eq_true q4
     go_wp2
     repeat(go_quiet (fail);try go_wp2)
     go_roundg k1
     case measure=>have:=HK1.out;omega
     case rel=>exact⟨(wrap64 (x1001_1+1)),H',⟨by have:=HK1.out;omega⟩,⟨is56_ HI0⟩,⟨kp_ HK⟩,⟨bs56_ HB HI0⟩⟩
    ·rw[if_neg c5] at H
     have c5b0:((bt s0_0 x1001_1)==32)=false:=beq_eq_false_iff_ne.mpr c5
     have c5b1:((bt s0_0 x1001_1) !=32)=true:=bne_iff_ne.mpr c5
     simp only[Option.some.injEq,Prod.mk.injEq] at H
     obtain⟨rfl,rfl,rfl,rfl,rfl,rfl,rfl,rfl,rfl⟩:=H
     obtain⟨hcz7_0,hcz7_1,hcz7_2,hcz7_3,hcz7_4,hcz7_5,hcz7_6,hcz7_7,hcz7_8,hfz7_0,hfz7_1,hfz7_2,hfz7_3,hfz7_4,hfz7_5,hfz7_6,hfz7_7,hfz7_8⟩:=cs56_ HI0
     have p4:0≤(x1001_1:Int):=od_
     have q4:x1001_1<(s0_0.size:Int):=od_
     have hx4:=bt_at s0_0 x1001_1
     replace p4:=eq_true p4
     replace q4:=eq_true q4
     go_wp2
     repeat(go_quiet (fail);try go_wp2)
     first|go_end0|((try simp only[Exit.inBlock,Exit.then]);refine bodyPost_ret (results_none rfl _ _ _) rfl ?_)
     exact⟨ew_,is56_ HI0,bs56_ HB HI0,kp_ HK⟩
   ·rw[if_neg c2] at H
    have c2b0:=decide_eq_false c2
    clear c2
    simp only[Option.some.injEq,Prod.mk.injEq] at H
    obtain⟨rfl,rfl,rfl,rfl,rfl,rfl,rfl,rfl,rfl⟩:=H
    obtain⟨hcz8_0,hcz8_1,hcz8_2,hcz8_3,hcz8_4,hcz8_5,hcz8_6,hcz8_7,hcz8_8,hfz8_0,hfz8_1,hfz8_2,hfz8_3,hfz8_4,hfz8_5,hfz8_6,hfz8_7,hfz8_8⟩:=cs56_ HI0
    go_wp2
    repeat(go_quiet (fail);try go_wp2)
    first|go_end0|((try simp only[Exit.inBlock,Exit.then]);refine bodyPost_ret (results_none rfl _ _ _) rfl ?_)
    exact⟨ew_,is56_ HI0,bs56_ HB HI0,kp_ HK⟩

/-! ### rule_reader_peek: function 18 -/
def rule_reader_peek.f (k:Nat) (s0_0:ByteArray) (s0_1:Int) (s0_2:Int) (s0_3:Bool) (s0_4:Bool) (s0_5:Bool) (s0_6:Bool) (s0_7:Bool) (s0_8:Bool):Option (Int × ByteArray × Int × Int × Bool × Bool × Bool × Bool × Bool × Bool):=(rule_reader_blanks.f k s0_0 s0_1 s0_2 s0_3 s0_4 s0_5 s0_6 s0_7 s0_8).bind fun bt101=>(if bt101.2.1=(bt101.1.size:Int) then (some (0,bt101.1,bt101.2.1,bt101.2.2.1,bt101.2.2.2.1,bt101.2.2.2.2.1,bt101.2.2.2.2.2.1,bt101.2.2.2.2.2.2.1,bt101.2.2.2.2.2.2.2.1,bt101.2.2.2.2.2.2.2.2)) else (if 0≤bt101.2.1 then (if bt101.2.1<(bt101.1.size:Int) then (some (bt bt101.1 bt101.2.1,bt101.1,bt101.2.1,bt101.2.2.1,bt101.2.2.2.1,bt101.2.2.2.2.1,bt101.2.2.2.2.2.1,bt101.2.2.2.2.2.2.1,bt101.2.2.2.2.2.2.2.1,bt101.2.2.2.2.2.2.2.2)) else (none)) else (none)))
set_option maxHeartbeats 64000000 in
set_option maxRecDepth 100000 in
theorem rule_reader_peek.calls (k:Nat) (g:Nat) (s0_0:ByteArray) (s0_1:Int) (s0_2:Int) (s0_3:Bool) (s0_4:Bool) (s0_5:Bool) (s0_6:Bool) (s0_7:Bool) (s0_8:Bool) (r1:Int) (r2:ByteArray) (r3:Int) (r4:Int) (r5:Bool) (r6:Bool) (r7:Bool) (r8:Bool) (r9:Bool) (r10:Bool) (w0 w:World) (hI:IsS56 w0 w g s0_0 s0_1 s0_2 s0_3 s0_4 s0_5 s0_6 s0_7 s0_8) (hB:Below w0.heap.size w0 w) (h:rule_reader_peek.f k s0_0 s0_1 s0_2 s0_3 s0_4 s0_5 s0_6 s0_7 s0_8=some (r1,r2,r3,r4,r5,r6,r7,r8,r9,r10)) :
  Calls Tryd.prog 18 #[.pointer (some ⟨g,0,none⟩)] w fun e w'=>e= .returned (.int .u8 r1)∧IsS56 w0 w' g r2 r3 r4 r5 r6 r7 r8 r9 r10∧Below w0.heap.size w0 w'∧KeepBut w w' g none:=by
 have HI0:=Aside0.mk hI
 have HK:=Aside0.mk (KeepBut.refl w g none)
 have HL:=Aside0.mk hB.size
 clear hI
 have HW0:=Aside0.mk hB.size
 have HB:=Aside0.mk hB
 clear hB
 have H:((rule_reader_blanks.f k s0_0 s0_1 s0_2 s0_3 s0_4 s0_5 s0_6 s0_7 s0_8).bind fun bt101=>(if bt101.2.1=(bt101.1.size:Int) then (some (0,bt101.1,bt101.2.1,bt101.2.2.1,bt101.2.2.2.1,bt101.2.2.2.2.1,bt101.2.2.2.2.2.1,bt101.2.2.2.2.2.2.1,bt101.2.2.2.2.2.2.2.1,bt101.2.2.2.2.2.2.2.2)) else (if 0≤bt101.2.1 then (if bt101.2.1<(bt101.1.size:Int) then (some (bt bt101.1 bt101.2.1,bt101.1,bt101.2.1,bt101.2.2.1,bt101.2.2.2.1,bt101.2.2.2.2.1,bt101.2.2.2.2.2.1,bt101.2.2.2.2.2.2.1,bt101.2.2.2.2.2.2.2.1,bt101.2.2.2.2.2.2.2.2)) else (none)) else (none))))=some (r1,r2,r3,r4,r5,r6,r7,r8,r9,r10):=h
 clear h
 replace H:=Option.bind_eq_some_iff.mp H
 obtain⟨⟨t101,t102,t103,t104,t105,t106,t107,t108,t109⟩,A20,H⟩:=H
 dsimp only at H
 have A2:=Aside0.mk A20
 clear A20
 by_cases c3:t102=(t101.size:Int)
 ·rw[if_pos c3] at H
  have c3b0:(t102==(t101.size:Int))=true:=beq_iff_eq.mpr c3
  have c3b1:(t102 !=(t101.size:Int))=false:=bne_eq_false_iff_eq.mpr c3
  clear c3
  simp only[Option.some.injEq,Prod.mk.injEq] at H
  obtain⟨rfl,rfl,rfl,rfl,rfl,rfl,rfl,rfl,rfl,rfl⟩:=H
  go_enter Tryd.func18,Tryd.ntmps18
  go_wp2_with (first|(go_at_call 26;(with_reducible refine(rule_reader_blanks.calls _ _ _ _ _ _ _ _ _ _ _ _ _ _ _ _ _ _ _ _ w0 _ ?side1 ?side2 A2.out).mono ?_);(case side1=>exact is56_ HI0);(case side2=>exact bs56_ HB HI0);rintro e w4 ⟨rfl,hi,hb,hk⟩;replace HK:=Aside0.mk (KeepBut.trans (kp_ HK) hk (.inl rfl));replace HB:=Aside0.mk (hb);replace HI0:=Aside0.mk (hi);(try clear hb);(try clear hk);(try clear hi);obtain⟨hcz5_0,hcz5_1,hcz5_2,hcz5_3,hcz5_4,hcz5_5,hcz5_6,hcz5_7,hcz5_8,hfz5_0,hfz5_1,hfz5_2,hfz5_3,hfz5_4,hfz5_5,hfz5_6,hfz5_7,hfz5_8⟩:=cs56_ HI0))
  repeat(go_quiet (first|(go_at_call 26;(with_reducible refine(rule_reader_blanks.calls _ _ _ _ _ _ _ _ _ _ _ _ _ _ _ _ _ _ _ _ w0 _ ?side1 ?side2 A2.out).mono ?_);(case side1=>exact is56_ HI0);(case side2=>exact bs56_ HB HI0);rintro e w4 ⟨rfl,hi,hb,hk⟩;replace HK:=Aside0.mk (KeepBut.trans (kp_ HK) hk (.inl rfl));replace HB:=Aside0.mk (hb);replace HI0:=Aside0.mk (hi);(try clear hb);(try clear hk);(try clear hi);obtain⟨hcz5_0,hcz5_1,hcz5_2,hcz5_3,hcz5_4,hcz5_5,hcz5_6,hcz5_7,hcz5_8,hfz5_0,hfz5_1,hfz5_2,hfz5_3,hfz5_4,hfz5_5,hfz5_6,hfz5_7,hfz5_8⟩:=cs56_ HI0));try go_wp2_with (first|(go_at_call 26;(with_reducible refine(rule_reader_blanks.calls _ _ _ _ _ _ _ _ _ _ _ _ _ _ _ _ _ _ _ _ w0 _ ?side1 ?side2 A2.out).mono ?_);(case side1=>exact is56_ HI0);(case side2=>exact bs56_ HB HI0);rintro e w4 ⟨rfl,hi,hb,hk⟩;replace HK:=Aside0.mk (KeepBut.trans (kp_ HK) hk (.inl rfl));replace HB:=Aside0.mk (hb);replace HI0:=Aside0.mk (hi);(try clear hb);(try clear hk);(try clear hi);obtain⟨hcz5_0,hcz5_1,hcz5_2,hcz5_3,hcz5_4,hcz5_5,hcz5_6,hcz5_7,hcz5_8,hfz5_0,hfz5_1,hfz5_2,hfz5_3,hfz5_4,hfz5_5,hfz5_6,hfz5_7,hfz5_8⟩:=cs56_ HI0)))
  go_ret
  exact⟨ew_,is56_ HI0,bs56_ HB HI0,kp_ HK⟩
 ·rw[if_neg c3] at H
  have c3b0:(t102==(t101.size:Int))=false:=beq_eq_false_iff_ne.mpr c3
  have c3b1:(t102 !=(t101.size:Int))=true:=bne_iff_ne.mpr c3
  replace H:=ifn_ H
  obtain⟨c6,H⟩:=H
  have c6b0:decide (0≤t102)=true:=decide_eq_true c6
  clear c6
  replace H:=ifn_ H
  obtain⟨c7,H⟩:=H
  have c7b0:decide (t102<(t101.size:Int))=true:=decide_eq_true c7
  clear c7
  simp only[Option.some.injEq,Prod.mk.injEq] at H
  obtain⟨rfl,rfl,rfl,rfl,rfl,rfl,rfl,rfl,rfl,rfl⟩:=H
  go_enter Tryd.func18,Tryd.ntmps18
  go_wp2_with (first|(go_at_call 26;(with_reducible refine(rule_reader_blanks.calls _ _ _ _ _ _ _ _ _ _ _ _ _ _ _ _ _ _ _ _ w0 _ ?side1 ?side2 A2.out).mono ?_);(case side1=>exact is56_ HI0);(case side2=>exact bs56_ HB HI0);rintro e w9 ⟨rfl,hi,hb,hk⟩;replace HK:=Aside0.mk (KeepBut.trans (kp_ HK) hk (.inl rfl));replace HB:=Aside0.mk (hb);replace HI0:=Aside0.mk (hi);(try clear hb);(try clear hk);(try clear hi);obtain⟨hcz10_0,hcz10_1,hcz10_2,hcz10_3,hcz10_4,hcz10_5,hcz10_6,hcz10_7,hcz10_8,hfz10_0,hfz10_1,hfz10_2,hfz10_3,hfz10_4,hfz10_5,hfz10_6,hfz10_7,hfz10_8⟩:=cs56_ HI0;have p8:0≤(t102:Int):=od_;have q8:t102<(t101.size:Int):=od_;have hx8:=bt_at t101 t102;replace p8:=eq_true p8;replace q8:=eq_true q8))
  repeat(go_quiet (first|(go_at_call 26;(with_reducible refine(rule_reader_blanks.calls _ _ _ _ _ _ _ _ _ _ _ _ _ _ _ _ _ _ _ _ w0 _ ?side1 ?side2 A2.out).mono ?_);(case side1=>exact is56_ HI0);(case side2=>exact bs56_ HB HI0);rintro e w9 ⟨rfl,hi,hb,hk⟩;replace HK:=Aside0.mk (KeepBut.trans (kp_ HK) hk (.inl rfl));replace HB:=Aside0.mk (hb);replace HI0:=Aside0.mk (hi);(try clear hb);(try clear hk);(try clear hi);obtain⟨hcz10_0,hcz10_1,hcz10_2,hcz10_3,hcz10_4,hcz10_5,hcz10_6,hcz10_7,hcz10_8,hfz10_0,hfz10_1,hfz10_2,hfz10_3,hfz10_4,hfz10_5,hfz10_6,hfz10_7,hfz10_8⟩:=cs56_ HI0;have p8:0≤(t102:Int):=od_;have q8:t102<(t101.size:Int):=od_;have hx8:=bt_at t101 t102;replace p8:=eq_true p8;replace q8:=eq_true q8));try go_wp2_with (first|(go_at_call 26;(with_reducible refine(rule_reader_blanks.calls _ _ _ _ _ _ _ _ _ _ _ _ _ _ _ _ _ _ _ _ w0 _ ?side1 ?side2 A2.out).mono ?_);(case side1=>exact is56_ HI0);(case side2=>exact bs56_ HB HI0);rintro e w9 ⟨rfl,hi,hb,hk⟩;replace HK:=Aside0.mk (KeepBut.trans (kp_ HK) hk (.inl rfl));replace HB:=Aside0.mk (hb);replace HI0:=Aside0.mk (hi);(try clear hb);(try clear hk);(try clear hi);obtain⟨hcz10_0,hcz10_1,hcz10_2,hcz10_3,hcz10_4,hcz10_5,hcz10_6,hcz10_7,hcz10_8,hfz10_0,hfz10_1,hfz10_2,hfz10_3,hfz10_4,hfz10_5,hfz10_6,hfz10_7,hfz10_8⟩:=cs56_ HI0;have p8:0≤(t102:Int):=od_;have q8:t102<(t101.size:Int):=od_;have hx8:=bt_at t101 t102;replace p8:=eq_true p8;replace q8:=eq_true q8)))
  go_ret
  exact⟨ew_,is56_ HI0,bs56_ HB HI0,kp_ HK⟩

/-! ### rule_Cat_String: function 12 -/
def rule_Cat_String.f (a0:Int):Option (ByteArray):=if a0<0 then (some (⟨#[]⟩:ByteArray)) else (if a0>5 then (some (⟨#[]⟩:ByteArray)) else (if 0≤a0 then (if a0<6 then (some (rdOf ByteArray.empty [(⟨#[122,101,114,111]⟩:ByteArray),(⟨#[111,110,101]⟩:ByteArray),(⟨#[116,119,111]⟩:ByteArray),(⟨#[102,101,119]⟩:ByteArray),(⟨#[109,97,110,121]⟩:ByteArray),(⟨#[111,116,104,101,114]⟩:ByteArray)] a0)) else (none)) else (none)))
set_option maxHeartbeats 64000000 in
set_option maxRecDepth 100000 in
theorem rule_Cat_String.calls (a0:Int) (r:ByteArray) (w:World) (h:rule_Cat_String.f a0=some r) :
  Calls Tryd.prog 12 #[.int .i64 a0] w fun e w'=>e= .returned (.string r)∧Below w.heap.size w w':=by
 have hu60:=Tryd.underlying60
 have HB:=Aside0.mk (Below.refl w.heap.size w)
 have H:(if a0<0 then (some (⟨#[]⟩:ByteArray)) else (if a0>5 then (some (⟨#[]⟩:ByteArray)) else (if 0≤a0 then (if a0<6 then (some (rdOf ByteArray.empty [(⟨#[122,101,114,111]⟩:ByteArray),(⟨#[111,110,101]⟩:ByteArray),(⟨#[116,119,111]⟩:ByteArray),(⟨#[102,101,119]⟩:ByteArray),(⟨#[109,97,110,121]⟩:ByteArray),(⟨#[111,116,104,101,114]⟩:ByteArray)] a0)) else (none)) else (none))))=some r:=h
 clear h
 by_cases c2:a0<0
 ·rw[if_pos c2] at H
  have c2b0:=decide_eq_true c2
  clear c2
  obtain rfl:=Option.some.inj H
  go_enter Tryd.func12,Tryd.ntmps12
  go_wp2_with (first|((with_reducible refine gate_dst (N:=3) rfl ?_);refine be_ 3 #[.string (⟨#[]⟩:ByteArray),.string (⟨#[]⟩:ByteArray),.string (⟨#[]⟩:ByteArray),.string (⟨#[]⟩:ByteArray),.string (⟨#[]⟩:ByteArray),.string (⟨#[]⟩:ByteArray)] 60 ?_;intro gb110 hg w3 hbox hb;have BK110:=Aside0.mk (hbox);have GW110:=sz_ HB hg;have GE110:=sz_ HB hg;replace HB:=Aside0.mk (below_step (bl_ HB).out hb);clear hb hbox hg;obtain⟨hcz4_0,hcz4_1,hcz4_2,hcz4_3,hcz4_4,hcz4_5,hfz4_0,hfz4_1,hfz4_2,hfz4_3,hfz4_4,hfz4_5⟩:=bo6_ BK110))
  go_ret
  exact⟨ew_,(bl_ HB).out⟩
 ·rw[if_neg c2] at H
  have c2b0:=decide_eq_false c2
  clear c2
  by_cases c5:a0>5
  ·rw[if_pos c5] at H
   have c5b0:decide (5<a0)=true:=decide_eq_true c5
   clear c5
   obtain rfl:=Option.some.inj H
   go_enter Tryd.func12,Tryd.ntmps12
   go_wp2_with (first|((with_reducible refine gate_dst (N:=3) rfl ?_);refine be_ 3 #[.string (⟨#[]⟩:ByteArray),.string (⟨#[]⟩:ByteArray),.string (⟨#[]⟩:ByteArray),.string (⟨#[]⟩:ByteArray),.string (⟨#[]⟩:ByteArray),.string (⟨#[]⟩:ByteArray)] 60 ?_;intro gb110 hg w6 hbox hb;have BK110:=Aside0.mk (hbox);have GW110:=sz_ HB hg;have GE110:=sz_ HB hg;replace HB:=Aside0.mk (below_step (bl_ HB).out hb);clear hb hbox hg;obtain⟨hcz7_0,hcz7_1,hcz7_2,hcz7_3,hcz7_4,hcz7_5,hfz7_0,hfz7_1,hfz7_2,hfz7_3,hfz7_4,hfz7_5⟩:=bo6_ BK110))
   go_ret
   exact⟨ew_,(bl_ HB).out⟩
  ·rw[if_neg c5] at H
   have c5b0:decide (5<a0)=false:=decide_eq_false c5
   clear c5
   replace H:=ifn_ H
   obtain⟨c8,H⟩:=H
   have c8b0:decide (0≤a0)=true:=decide_eq_true c8
   clear c8
   replace H:=ifn_ H
   obtain⟨c9,H⟩:=H
   have c9b0:decide (a0<6)=true:=decide_eq_true c9
   clear c9
   obtain rfl:=Option.some.inj H
   go_enter Tryd.func12,Tryd.ntmps12
   go_wp2_with (first|((with_reducible refine gate_dst (N:=3) rfl ?_);refine be_ 3 #[.string (⟨#[]⟩:ByteArray),.string (⟨#[]⟩:ByteArray),.string (⟨#[]⟩:ByteArray),.string (⟨#[]⟩:ByteArray),.string (⟨#[]⟩:ByteArray),.string (⟨#[]⟩:ByteArray)] 60 ?_;intro gb110 hg w10 hbox hb;have BK110:=Aside0.mk (hbox);have GW110:=sz_ HB hg;have GE110:=sz_ HB hg;replace HB:=Aside0.mk (below_step (bl_ HB).out hb);clear hb hbox hg;obtain⟨hcz11_0,hcz11_1,hcz11_2,hcz11_3,hcz11_4,hcz11_5,hfz11_0,hfz11_1,hfz11_2,hfz11_3,hfz11_4,hfz11_5⟩:=bo6_ BK110)|((with_reducible refine gate_store (t:=60) (p:=3) rfl ?_);refine store_event (t:=60) (p:=3) (v:=?vo_w12) (w1:=((((((w10.setCell ⟨gb110,0,none⟩ (.string (⟨#[122,101,114,111]⟩:ByteArray))).setCell ⟨gb110,1,none⟩ (.string (⟨#[111,110,101]⟩:ByteArray))).setCell ⟨gb110,2,none⟩ (.string (⟨#[116,119,111]⟩:ByteArray))).setCell ⟨gb110,3,none⟩ (.string (⟨#[102,101,119]⟩:ByteArray))).setCell ⟨gb110,4,none⟩ (.string (⟨#[109,97,110,121]⟩:ByteArray))).setCell ⟨gb110,5,none⟩ (.string (⟨#[111,116,104,101,114]⟩:ByteArray)))) ?hg ?ho ?hn ?hr ?_;(case ho=>rfl);(case hg=>rfl);(case hn=>rfl);(case hr=>first|(go_simp;done)|(go_simp;rfl));intro w12 hw;have n0_:Aside0 (w12.heap[gb110]? = some (.cells #[.string (⟨#[122,101,114,111]⟩:ByteArray),.string (⟨#[111,110,101]⟩:ByteArray),.string (⟨#[116,119,111]⟩:ByteArray),.string (⟨#[102,101,119]⟩:ByteArray),.string (⟨#[109,97,110,121]⟩:ByteArray),.string (⟨#[111,116,104,101,114]⟩:ByteArray)] 60 (0,0))):=⟨(by rw[hw];exact((bp_ BK110).out))⟩;have n1_:Aside0 (Below w.heap.size w w12):=⟨(by rw[hw];exact(bl_ HB).out)⟩;clear hw;clear BK110;clear HB;have BK110:=n0_;have HB:=n1_;clear n0_ n1_;obtain⟨hcz13_0,hcz13_1,hcz13_2,hcz13_3,hcz13_4,hcz13_5,hfz13_0,hfz13_1,hfz13_2,hfz13_3,hfz13_4,hfz13_5⟩:=bo6_ BK110;have hpx14:0≤a0:=od_;have hqx14:a0<6:=od_;have hax14:=ax6_ a0 (od_) (od_);have hcx14:w12.cell? ⟨gb110,a0.toNat,none⟩=some (.string (rdOf ByteArray.empty [(⟨#[122,101,114,111]⟩:ByteArray),(⟨#[111,110,101]⟩:ByteArray),(⟨#[116,119,111]⟩:ByteArray),(⟨#[102,101,119]⟩:ByteArray),(⟨#[109,97,110,121]⟩:ByteArray),(⟨#[111,116,104,101,114]⟩:ByteArray)] a0)):=(blk_cell BK110.out (a0.toNat)).trans (by rcases hax14 with h_|h_|h_|h_|h_|h_ <;> (rw[h_];rfl));clear hax14))
   go_ret
   exact⟨ew_,(bl_ HB).out⟩

/-! ### rule_CatOf: function 11 -/
def rule_CatOf.l0:Nat→ByteArray→Int→Option (Int × Bool)
 | 0,_,_=>none
 | k+1,x0,x4=>if x4≤5 then ((rule_Cat_String.f x4).bind fun t111=>(if t111.toList=x0.toList then (some (x4,true)) else (rule_CatOf.l0 k x0 (wrap64 (x4+1))))) else (some (0,false))
def rule_CatOf.f (k:Nat) (a0:ByteArray):Option (Int × Bool):=rule_CatOf.l0 k a0 0
set_option maxHeartbeats 64000000 in
set_option maxRecDepth 100000 in
theorem rule_CatOf.calls (k:Nat) (a0:ByteArray) (r1:Int) (r2:Bool) (w:World) (h:rule_CatOf.f k a0=some (r1,r2)) :
  Calls Tryd.prog 11 #[.string a0] w fun e w'=>e= .returned (.tuple #[.int .i64 r1,.bool r2])∧Below w.heap.size w w':=by
 have HB:=Aside0.mk (Below.refl w.heap.size w)
 have H:(rule_CatOf.l0 k a0 0)=some (r1,r2):=h
 clear h
 have H':=Aside0.mk H
 clear H
 go_enter Tryd.func11,Tryd.ntmps11
 go_wp2
 go_loopg [4] k (fun kq v4 w'=>∃(x4_1:Int),v4= .int .i64 x4_1∧Aside0 (rule_CatOf.l0 kq a0 x4_1=some (r1,r2))∧Aside0 (kq≤k)∧Aside0 (Below w.heap.size w w'))
 case atStart=>exact⟨(0),eq_,H',⟨Nat.le_refl _⟩,(bl_ HB)⟩
 case round =>
  clear H'
  obtain⟨x4_1,rfl,HA,HK1,HB⟩:=hrel
  cases gk with
  | zero=>exact absurd HA.out (by simp[rule_CatOf.l0])
  | succ k1 =>
   have H:=HA.out
   clear HA
   simp only[rule_CatOf.l0] at H
   by_cases c2:x4_1≤5
   ·rw[if_pos c2] at H
    have c2b0:=decide_eq_true c2
    clear c2
    replace H:=Option.bind_eq_some_iff.mp H
    obtain⟨t111,A30,H⟩:=H
    have A3:=Aside0.mk A30
    clear A30
    by_cases c4:t111.toList=a0.toList
    ·rw[if_pos c4] at H
     have c4b0:(t111.toList==a0.toList)=true:=beq_iff_eq.mpr c4
     have c4b1:(t111.toList !=a0.toList)=false:=bne_eq_false_iff_eq.mpr c4
     clear c4
     simp only[Option.some.injEq,Prod.mk.injEq] at H
     obtain⟨rfl,rfl⟩:=H
     go_wp2_with (first|((with_reducible refine gate_callee (f:=12) rfl ?_);refine gl_ (some 10) Tryd.func12 #[.int .i64 x4_1] ?_;(with_reducible refine(rule_Cat_String.calls _ _ _ A3.out).mono ?_);rintro e w5 ⟨rfl,hb⟩;refine⟨_,rfl,?_⟩;replace HB:=Aside0.mk (below_step (bl_ HB).out hb);(try clear hb);(try clear hi)))
     go_ret2
     exact⟨ew_,(bl_ HB).out⟩
    ·rw[if_neg c4] at H
     have c4b0:(t111.toList==a0.toList)=false:=beq_eq_false_iff_ne.mpr c4
     have c4b1:(t111.toList !=a0.toList)=true:=bne_iff_ne.mpr c4
     have H':=Aside0.mk H
     clear H
     go_wp2_with (first|((with_reducible refine gate_callee (f:=12) rfl ?_);refine gl_ (some 10) Tryd.func12 #[.int .i64 x4_1] ?_;(with_reducible refine(rule_Cat_String.calls _ _ _ A3.out).mono ?_);rintro e w6 ⟨rfl,hb⟩;refine⟨_,rfl,?_⟩;replace HB:=Aside0.mk (below_step (bl_ HB).out hb);(try clear hb);(try clear hi)))
     go_roundg k1
     case measure=>have:=HK1.out;omega
     case rel=>exact⟨(wrap64 (x4_1+1)),eq_,H',⟨by have:=HK1.out;omega⟩,(bl_ HB)⟩
   ·rw[if_neg c2] at H
    have c2b0:=decide_eq_false c2
    clear c2
    simp only[Option.some.injEq,Prod.mk.injEq] at H
    obtain⟨rfl,rfl⟩:=H
    go_wp2
    go_ret2
    exact⟨ew_,(bl_ HB).out⟩

/-! ### rule_reader_run: function 37 -/
def rule_reader_run.l0:Nat→Int→Int→Int→ByteArray→Int→Int→Bool→Bool→Bool→Bool→Bool→Bool→Option (Int × ByteArray × Int × Int × Bool × Bool × Bool × Bool × Bool × Bool)
 | 0,_,_,_,_,_,_,_,_,_,_,_,_=>none
 | k+1,x1,x2,x7,x1000,x1001,x1002,x1003,x1004,x1005,x1006,x1007,x1008=>if (wrap64 (x1001+x7))<(x1000.size:Int) then (if 0≤(wrap64 (x1001+x7)) then (if (bt x1000 (wrap64 (x1001+x7)))≥x1 then (if (bt x1000 (wrap64 (x1001+x7)))≤x2 then (rule_reader_run.l0 k x1 x2 (wrap64 (x7+1)) x1000 x1001 x1002 x1003 x1004 x1005 x1006 x1007 x1008) else (some (x7,x1000,x1001,x1002,x1003,x1004,x1005,x1006,x1007,x1008))) else (some (x7,x1000,x1001,x1002,x1003,x1004,x1005,x1006,x1007,x1008))) else (none)) else (some (x7,x1000,x1001,x1002,x1003,x1004,x1005,x1006,x1007,x1008))
def rule_reader_run.f (k:Nat) (s0_0:ByteArray) (s0_1:Int) (s0_2:Int) (s0_3:Bool) (s0_4:Bool) (s0_5:Bool) (s0_6:Bool) (s0_7:Bool) (s0_8:Bool) (a1:Int) (a2:Int):Option (Int × ByteArray × Int × Int × Bool × Bool × Bool × Bool × Bool × Bool):=rule_reader_run.l0 k a1 a2 0 s0_0 s0_1 s0_2 s0_3 s0_4 s0_5 s0_6 s0_7 s0_8
set_option maxHeartbeats 64000000 in
set_option maxRecDepth 100000 in
theorem rule_reader_run.calls (k:Nat) (g:Nat) (s0_0:ByteArray) (s0_1:Int) (s0_2:Int) (s0_3:Bool) (s0_4:Bool) (s0_5:Bool) (s0_6:Bool) (s0_7:Bool) (s0_8:Bool) (a1:Int) (a2:Int) (r1:Int) (r2:ByteArray) (r3:Int) (r4:Int) (r5:Bool) (r6:Bool) (r7:Bool) (r8:Bool) (r9:Bool) (r10:Bool) (w0 w:World) (hI:IsS56 w0 w g s0_0 s0_1 s0_2 s0_3 s0_4 s0_5 s0_6 s0_7 s0_8) (hB:Below w0.heap.size w0 w) (h:rule_reader_run.f k s0_0 s0_1 s0_2 s0_3 s0_4 s0_5 s0_6 s0_7 s0_8 a1 a2=some (r1,r2,r3,r4,r5,r6,r7,r8,r9,r10)) :
  Calls Tryd.prog 37 #[.pointer (some ⟨g,0,none⟩),.int .u8 a1,.int .u8 a2] w fun e w'=>e= .returned (.int .i64 r1)∧IsS56 w0 w' g r2 r3 r4 r5 r6 r7 r8 r9 r10∧Below w0.heap.size w0 w'∧KeepBut w w' g none:=by
 have HI0:=Aside0.mk hI
 have HK:=Aside0.mk (KeepBut.refl w g none)
 have HL:=Aside0.mk hB.size
 clear hI
 have HW0:=Aside0.mk hB.size
 have HB:=Aside0.mk hB
 clear hB
 have H:(rule_reader_run.l0 k a1 a2 0 s0_0 s0_1 s0_2 s0_3 s0_4 s0_5 s0_6 s0_7 s0_8)=some (r1,r2,r3,r4,r5,r6,r7,r8,r9,r10):=h
 clear h
 have H':=Aside0.mk H
 clear H
 go_enter Tryd.func37,Tryd.ntmps37
 go_wp2
 repeat(go_quiet (fail);try go_wp2)
 go_loopg [7] k (fun kq v7 w'=>∃(x7_1:Int),v7= .int .i64 x7_1∧Aside0 (rule_reader_run.l0 kq a1 a2 x7_1 s0_0 s0_1 s0_2 s0_3 s0_4 s0_5 s0_6 s0_7 s0_8=some (r1,r2,r3,r4,r5,r6,r7,r8,r9,r10))∧Aside0 (kq≤k)∧Aside0 (IsS56 w0 w' g s0_0 s0_1 s0_2 s0_3 s0_4 s0_5 s0_6 s0_7 s0_8)∧Aside0 (KeepBut w w' g none)∧Aside0 (Below w0.heap.size w0 w'))
 case atStart=>exact⟨(0),eq_,H',⟨Nat.le_refl _⟩,⟨is56_ HI0⟩,⟨kp_ HK⟩,⟨bs56_ HB HI0⟩⟩
 case round =>
  clear H'
  obtain⟨x7_1,rfl,HA,HK1,HI0,HK,HB⟩:=hrel
  cases gk with
  | zero=>exact absurd HA.out (by simp[rule_reader_run.l0])
  | succ k1 =>
   have H:=HA.out
   clear HA
   simp only[rule_reader_run.l0] at H
   by_cases c4:(wrap64 (s0_1+x7_1))<(s0_0.size:Int)
   ·rw[if_pos c4] at H
    have c4b0:=decide_eq_true c4
    clear c4
    obtain⟨ji5,hji5⟩:∃j_:Int,(wrap64 (s0_1+x7_1))=j_:=⟨_,rfl⟩
    replace H:(if 0≤(ji5) then (if (bt s0_0 (ji5))≥a1 then (if (bt s0_0 (ji5))≤a2 then (rule_reader_run.l0 k1 a1 a2 (wrap64 (x7_1+1)) s0_0 s0_1 s0_2 s0_3 s0_4 s0_5 s0_6 s0_7 s0_8) else (some (x7_1,s0_0,s0_1,s0_2,s0_3,s0_4,s0_5,s0_6,s0_7,s0_8))) else (some (x7_1,s0_0,s0_1,s0_2,s0_3,s0_4,s0_5,s0_6,s0_7,s0_8))) else (none))=some (r1,r2,r3,r4,r5,r6,r7,r8,r9,r10):=by first|(rw[hji5] at H;exact H)|(simp only[hji5] at H ⊢;exact H)
    (try rw[hji5] at c4b0)
    have hji5w:(IntKind.i64.wrap (s0_1+x7_1))=ji5:=(i64_w _).trans hji5
    replace H:=ifn_ H
    obtain⟨c6,H⟩:=H
    have c6b0:decide (0≤(ji5))=true:=decide_eq_true c6
    clear c6
    by_cases c8:(bt s0_0 (ji5))≥a1
    ·rw[if_pos c8] at H
     have c8b0:decide (a1≤(bt s0_0 (ji5)))=true:=decide_eq_true c8
     clear c8
     by_cases c10:(bt s0_0 (ji5))≤a2
     ·rw[if_pos c10] at H
      have c10b0:=decide_eq_true c10
      clear c10
      have H':=Aside0.mk H
      clear H
      obtain⟨hcz11_0,hcz11_1,hcz11_2,hcz11_3,hcz11_4,hcz11_5,hcz11_6,hcz11_7,hcz11_8,hfz11_0,hfz11_1,hfz11_2,hfz11_3,hfz11_4,hfz11_5,hfz11_6,hfz11_7,hfz11_8⟩:=cs56_ HI0
      have p7:0≤((ji5):Int):=od_
      have q7:(ji5)<(s0_0.size:Int):=od_
      have hx7:=bt_at s0_0 (ji5)
      replace p7:=eq_true p7
      replace q7:=eq_true q7
      have p9:0≤((ji5):Int):=od_
      have q9:(ji5)<(s0_0.size:Int):=od_
      have hx9:=bt_at s0_0 (ji5)
      replace p9:=eq_true p9
      replace q9:=eq_true q9
      go_wp2
      repeat(go_quiet (fail);try go_wp2)
      go_roundg k1
      case measure=>have:=HK1.out;omega
      case rel=>exact⟨(wrap64 (x7_1+1)),eq_,H',⟨by have:=HK1.out;omega⟩,⟨is56_ HI0⟩,⟨kp_ HK⟩,⟨bs56_ HB HI0⟩⟩
     ·rw[if_neg c10] at H
      have c10b0:=decide_eq_false c10
      clear c10
      simp only[Option.some.injEq,Prod.mk.injEq] at H
      obtain⟨rfl,rfl,rfl,rfl,rfl,rfl,rfl,rfl,rfl,rfl⟩:=H
      obtain⟨hcz12_0,hcz12_1,hcz12_2,hcz12_3,hcz12_4,hcz12_5,hcz12_6,hcz12_7,hcz12_8,hfz12_0,hfz12_1,hfz12_2,hfz12_3,hfz12_4,hfz12_5,hfz12_6,hfz12_7,hfz12_8⟩:=cs56_ HI0
      have p7:0≤((ji5):Int):=od_
      have q7:(ji5)<(s0_0.size:Int):=od_
      have hx7:=bt_at s0_0 (ji5)
      replace p7:=eq_true p7
      replace q7:=eq_true q7
      have p9:0≤((ji5):Int):=od_
      have q9:(ji5)<(s0_0.size:Int):=od_
      have hx9:=bt_at s0_0 (ji5)
      replace p9:=eq_true p9
      replace q9:=eq_true q9
      go_wp2
      repeat(go_quiet (fail);try go_wp2)
      go_ret
      exact⟨by first|rfl|(simp[errW_none,errW_some] <;> rfl)|(simp only[← hji5];first|rfl|(simp[errW_none,errW_some] <;> rfl))|(simp[*,errW_none,errW_some] <;> first|rfl|exact given_isEmpty _|exact(given_isEmpty _).symm),is56_ HI0,bs56_ HB HI0,kp_ HK⟩
    ·rw[if_neg c8] at H
     have c8b0:decide (a1≤(bt s0_0 (ji5)))=false:=decide_eq_false c8
     clear c8
     simp only[Option.some.injEq,Prod.mk.injEq] at H
     obtain⟨rfl,rfl,rfl,rfl,rfl,rfl,rfl,rfl,rfl,rfl⟩:=H
     obtain⟨hcz13_0,hcz13_1,hcz13_2,hcz13_3,hcz13_4,hcz13_5,hcz13_6,hcz13_7,hcz13_8,hfz13_0,hfz13_1,hfz13_2,hfz13_3,hfz13_4,hfz13_5,hfz13_6,hfz13_7,hfz13_8⟩:=cs56_ HI0
     have p7:0≤((ji5):Int):=od_
     have q7:(ji5)<(s0_0.size:Int):=od_
     have hx7:=bt_at s0_0 (ji5)
     replace p7:=eq_true p7
     replace q7:=eq_true q7
     go_wp2
     repeat(go_quiet (fail);try go_wp2)
     go_ret
     exact⟨by first|rfl|(simp[errW_none,errW_some] <;> rfl)|(simp only[← hji5];first|rfl|(simp[errW_none,errW_some] <;> rfl))|(simp[*,errW_none,errW_some] <;> first|rfl|exact given_isEmpty _|exact(given_isEmpty _).symm),is56_ HI0,bs56_ HB HI0,kp_ HK⟩
   ·rw[if_neg c4] at H
    have c4b0:=decide_eq_false c4
    clear c4
    simp only[Option.some.injEq,Prod.mk.injEq] at H
    obtain⟨rfl,rfl,rfl,rfl,rfl,rfl,rfl,rfl,rfl,rfl⟩:=H
    obtain⟨hcz14_0,hcz14_1,hcz14_2,hcz14_3,hcz14_4,hcz14_5,hcz14_6,hcz14_7,hcz14_8,hfz14_0,hfz14_1,hfz14_2,hfz14_3,hfz14_4,hfz14_5,hfz14_6,hfz14_7,hfz14_8⟩:=cs56_ HI0
    go_wp2
    repeat(go_quiet (fail);try go_wp2)
    go_ret
    exact⟨ew_,is56_ HI0,bs56_ HB HI0,kp_ HK⟩
theorem rule_reader_run.same_l:∀(k:Nat) (a b n:Int) (s:ByteArray) (x y:Int) (c1 c2 c3 c4 c5 c6:Bool) (r1:Int) (r2:ByteArray) (r3 r4:Int) (r5 r6 r7 r8 r9 r10:Bool),rule_reader_run.l0 k a b n s x y c1 c2 c3 c4 c5 c6=some (r1,r2,r3,r4,r5,r6,r7,r8,r9,r10)→s=r2∧x=r3∧y=r4∧c1=r5∧c2=r6∧c3=r7∧c4=r8∧c5=r9∧c6=r10
  | 0,_,_,_,_,_,_,_,_,_,_,_,_,_,_,_,_,_,_,_,_,_,_,h=>by simp[rule_reader_run.l0] at h
  | k+1,a,b,n,s,x,y,c1,c2,c3,c4,c5,c6,_,_,_,_,_,_,_,_,_,_,h=>by
    have D:∀ {r1 r1':Int} {s r2:ByteArray} {x y r3 r4:Int} {c1 c2 c3 c4 c5 c6 r5 r6 r7 r8 r9 r10:Bool},some (r1,s,x,y,c1,c2,c3,c4,c5,c6)=some (r1',r2,r3,r4,r5,r6,r7,r8,r9,r10)→s=r2∧x=r3∧y=r4∧c1=r5∧c2=r6∧c3=r7∧c4=r8∧c5=r9∧c6=r10:=by
      intro _ _ _ _ _ _ _ _ _ _ _ _ _ _ _ _ _ _ _ _ h;simpa using (Prod.mk.inj (Option.some.inj h)).2
    simp only[rule_reader_run.l0] at h
    split at h
    · split at h
      · split at h
        · split at h
          · exact rule_reader_run.same_l k _ _ _ _ _ _ _ _ _ _ _ _ _ _ _ _ _ _ _ _ _ _ h
          · exact D h
        · exact D h
      · cases h
    · exact D h
theorem rule_reader_run.same {k:Nat} {s:ByteArray} {x y:Int} {c1 c2 c3 c4 c5 c6:Bool} {a b:Int} {r1:Int} {r2:ByteArray} {r3 r4:Int} {r5 r6 r7 r8 r9 r10:Bool} (h:rule_reader_run.f k s x y c1 c2 c3 c4 c5 c6 a b=some (r1,r2,r3,r4,r5,r6,r7,r8,r9,r10)):s=r2∧x=r3∧y=r4∧c1=r5∧c2=r6∧c3=r7∧c4=r8∧c5=r9∧c6=r10:=rule_reader_run.same_l _ _ _ _ _ _ _ _ _ _ _ _ _ _ _ _ _ _ _ _ _ _ _ h

/-! ### rule_reader_word: function 27 -/
def rule_reader_word.f (k:Nat) (s0_0:ByteArray) (s0_1:Int) (s0_2:Int) (s0_3:Bool) (s0_4:Bool) (s0_5:Bool) (s0_6:Bool) (s0_7:Bool) (s0_8:Bool):Option (ByteArray × ByteArray × Int × Int × Bool × Bool × Bool × Bool × Bool × Bool):=(rule_reader_blanks.f k s0_0 s0_1 s0_2 s0_3 s0_4 s0_5 s0_6 s0_7 s0_8).bind fun bt112=>((rule_reader_run.f k bt112.1 bt112.2.1 bt112.2.2.1 bt112.2.2.2.1 bt112.2.2.2.2.1 bt112.2.2.2.2.2.1 bt112.2.2.2.2.2.2.1 bt112.2.2.2.2.2.2.2.1 bt112.2.2.2.2.2.2.2.2 97 122).bind fun bt121=>(if 0≤bt112.2.1 then (if bt112.2.1≤(wrap64 (bt112.2.1+bt121.1)) then (if (wrap64 (bt112.2.1+bt121.1))≤(bt112.1.size:Int) then (some (bt112.1.extract (bt112.2.1:Int).toNat ((wrap64 (bt112.2.1+bt121.1)):Int).toNat,bt112.1,bt112.2.1,bt112.2.2.1,bt112.2.2.2.1,bt112.2.2.2.2.1,bt112.2.2.2.2.2.1,bt112.2.2.2.2.2.2.1,bt112.2.2.2.2.2.2.2.1,bt112.2.2.2.2.2.2.2.2)) else (none)) else (none)) else (none)))
def rule_reader_word.T2:Bool × List (List Nat × List Nat):=(true,[([],[]),([0],[0]),([1],[1]),([2],[2]),([],[]),([4],[4]),([5],[5]),([6],[6]),([],[]),([8],[8]),([9],[9]),([10],[10]),([],[]),([12],[12]),([11,13],[11,13]),([3,7,14],[3,7,14]),([15,13,0,1,2,3,4,5,6,7,8,9,10,11,12,13,14,15],[15])])
def rule_reader_word.B2:List Nat:=[0,1,3,7,0,16,48,112,0,256,768,1792,0,4096,16128,32767,65535]
theorem rule_reader_word.tab2:rtab .any (opsOf Tryd.f27 2)=rule_reader_word.T2:=by kernel_rfl
theorem rule_reader_word.bits2:waitsOk rule_reader_word.T2.2 rule_reader_word.B2=true:=by kernel_rfl
set_option maxHeartbeats 64000000 in
set_option maxRecDepth 100000 in
theorem rule_reader_word.calls (k:Nat) (g:Nat) (s0_0:ByteArray) (s0_1:Int) (s0_2:Int) (s0_3:Bool) (s0_4:Bool) (s0_5:Bool) (s0_6:Bool) (s0_7:Bool) (s0_8:Bool) (r1:ByteArray) (r2:ByteArray) (r3:Int) (r4:Int) (r5:Bool) (r6:Bool) (r7:Bool) (r8:Bool) (r9:Bool) (r10:Bool) (w0 w:World) (hI:IsS56 w0 w g s0_0 s0_1 s0_2 s0_3 s0_4 s0_5 s0_6 s0_7 s0_8) (hB:Below w0.heap.size w0 w) (h:rule_reader_word.f k s0_0 s0_1 s0_2 s0_3 s0_4 s0_5 s0_6 s0_7 s0_8=some (r1,r2,r3,r4,r5,r6,r7,r8,r9,r10)) :
  Calls Tryd.prog 27 #[.pointer (some ⟨g,0,none⟩)] w fun e w'=>e= .returned (.string r1)∧IsS56 w0 w' g r2 r3 r4 r5 r6 r7 r8 r9 r10∧Below w0.heap.size w0 w'∧KeepBut w w' g none:=by
 have HI0:=Aside0.mk hI
 have HK:=Aside0.mk (KeepBut.refl w g none)
 have HL:=Aside0.mk hB.size
 clear hI
 have HW0:=Aside0.mk hB.size
 have HB:=Aside0.mk hB
 clear hB
 have H:((rule_reader_blanks.f k s0_0 s0_1 s0_2 s0_3 s0_4 s0_5 s0_6 s0_7 s0_8).bind fun bt112=>((rule_reader_run.f k bt112.1 bt112.2.1 bt112.2.2.1 bt112.2.2.2.1 bt112.2.2.2.2.1 bt112.2.2.2.2.2.1 bt112.2.2.2.2.2.2.1 bt112.2.2.2.2.2.2.2.1 bt112.2.2.2.2.2.2.2.2 97 122).bind fun bt121=>(if 0≤bt112.2.1 then (if bt112.2.1≤(wrap64 (bt112.2.1+bt121.1)) then (if (wrap64 (bt112.2.1+bt121.1))≤(bt112.1.size:Int) then (some (bt112.1.extract (bt112.2.1:Int).toNat ((wrap64 (bt112.2.1+bt121.1)):Int).toNat,bt112.1,bt112.2.1,bt112.2.2.1,bt112.2.2.2.1,bt112.2.2.2.2.1,bt112.2.2.2.2.2.1,bt112.2.2.2.2.2.2.1,bt112.2.2.2.2.2.2.2.1,bt112.2.2.2.2.2.2.2.2)) else (none)) else (none)) else (none))))=some (r1,r2,r3,r4,r5,r6,r7,r8,r9,r10):=h
 clear h
 replace H:=Option.bind_eq_some_iff.mp H
 obtain⟨⟨t112,t113,t114,t115,t116,t117,t118,t119,t120⟩,A20,H⟩:=H
 dsimp only at H
 have A2:=Aside0.mk A20
 clear A20
 replace H:=Option.bind_eq_some_iff.mp H
 obtain⟨⟨t121,t122,t123,t124,t125,t126,t127,t128,t129,t130⟩,A30,H⟩:=H
 dsimp only at H
 have A3:=Aside0.mk A30
 clear A30
 obtain⟨rfl,rfl,rfl,rfl,rfl,rfl,rfl,rfl,rfl⟩:=rule_reader_run.same A3.out
 replace H:=ifn_ H
 obtain⟨c4,H⟩:=H
 have c4b0:=eq_true c4
 have c4b1:decide (0≤t113)=true:=decide_eq_true c4
 clear c4
 replace H:=ifn_ H
 obtain⟨c5,H⟩:=H
 have c5b0:=eq_true c5
 have c5b1:decide (t113≤(wrap64 (t113+t121)))=true:=decide_eq_true c5
 replace H:=ifn_ H
 obtain⟨c6,H⟩:=H
 have c6b0:=eq_true c6
 have c6b1:decide ((wrap64 (t113+t121))≤(t112.size:Int))=true:=decide_eq_true c6
 simp only[Option.some.injEq,Prod.mk.injEq] at H
 obtain⟨rfl,rfl,rfl,rfl,rfl,rfl,rfl,rfl,rfl,rfl⟩:=H
 go_enter Tryd.func27,Tryd.ntmps27
 try go_wp2_with (first|((with_reducible refine gate_callee (f:=26) rfl ?_);refine gl_ (some 4) Tryd.func26 #[.pointer (some ⟨g,0,none⟩)] ?_;(with_reducible refine(rule_reader_blanks.calls _ _ _ _ _ _ _ _ _ _ _ _ _ _ _ _ _ _ _ _ w0 _ ?side1 ?side2 A2.out).mono ?_);(case side1=>exact is56_ HI0);(case side2=>exact bs56_ HB HI0);rintro e w7 ⟨rfl,hi,hb,hk⟩;refine⟨_,rfl,?_⟩;replace HK:=Aside0.mk (KeepBut.trans (kp_ HK) hk (.inl rfl));replace HB:=Aside0.mk (hb);replace HI0:=Aside0.mk (hi);(try clear hb);(try clear hk);(try clear hi)))
 replace HI0:=Aside0.mk (IsS56.drew HI0.out)
 replace HK:=Aside0.mk (keep_drew HK.out)
 replace HB:=Aside0.mk (below_drew1 HB.out)
 refine start_ (n:=17) (S:=fun w'=>w'.cell? ⟨g,0,none⟩=some (.string t112)∧w'.cell? ⟨g,1,none⟩=some (.int .i64 t113)∧w'.cell? ⟨g,2,none⟩=some (.int .i64 t114)∧w'.cell? ⟨g,3,none⟩=some (.bool t115)∧w'.cell? ⟨g,4,none⟩=some (.bool t116)∧w'.cell? ⟨g,5,none⟩=some (.bool t117)∧w'.cell? ⟨g,6,none⟩=some (.bool t118)∧w'.cell? ⟨g,7,none⟩=some (.bool t119)∧w'.cell? ⟨g,8,none⟩=some (.bool t120)) (ds:=[]) #[false,false,false,false,false,false,false,false,false,false,false,false,false,false,false,false,false] (by kernel_rfl) rfl rfl ⟨(cellS56_0 HI0.out.1),(cellS56_1 HI0.out.1),(cellS56_2 HI0.out.1),(cellS56_3 HI0.out.1),(cellS56_4 HI0.out.1),(cellS56_5 HI0.out.1),(cellS56_6 HI0.out.1),(cellS56_7 HI0.out.1),(cellS56_8 HI0.out.1)⟩ (fun hHeld=>?_);refine with_tabW rule_reader_word.tab2 rule_reader_word.bits2 (fun HT_ HW_=>?_)
 generalize w7.drew=w8 at HI0 HK HB hHeld ⊢
 refine pu_ 0 5 (bm_ 17 1) HT_ ?_
 refine pu_ 1 6 (bm_ 17 3) HT_ ?_
 refine pu_ 2 7 (bm_ 17 7) HT_ ?_
 refine pu_ 4 9 (bm_ 17 23) HT_ ?_
 refine pu_ 5 10 (bm_ 17 55) HT_ ?_
 refine pu_ 6 11 (bm_ 17 119) HT_ ?_
 refine pu_ 8 13 (bm_ 17 375) HT_ ?_
 refine pu_ 9 14 (bm_ 17 887) HT_ ?_
 refine pu_ 10 15 (bm_ 17 1911) HT_ ?_
 refine pu_ 12 17 (bm_ 17 6007) HT_ ?_
 refine tk_ 3 8 (bm_ 17 6015) HT_ HW_ hHeld rfl (by rintro w' ⟨s0,s1,s2,s3,s4,s5,s6,s7,s8⟩;go_simp;with_reducible rfl) ?_
 refine tk_ 7 12 (bm_ 17 6143) HT_ HW_ hHeld rfl (by rintro w' ⟨s0,s1,s2,s3,s4,s5,s6,s7,s8⟩;go_simp;with_reducible rfl) ?_
 refine tk_ 11 16 (bm_ 17 8191) HT_ HW_ hHeld rfl (by rintro w' ⟨s0,s1,s2,s3,s4,s5,s6,s7,s8⟩;go_simp;with_reducible rfl) ?_
 refine one_ (i:=13) (N:=some 18) (bm_ 17 16383) rfl rfl (one_of HT_.out (by kernel_rfl)) (by decide) (fun K hK=>?_)
 refine gs_ Tryd.func37 #[.pointer (some ⟨g,0,none⟩),.int .u8 97,.int .u8 122] ?_
 with_reducible refine(rule_reader_run.calls _ _ _ _ _ _ _ _ _ _ _ _ _ _ _ _ _ _ _ _ _ _ _ w0 _ ?side1 ?side2 A3.out).mono ?_
 (case side1=>exact is56_ HI0)
 (case side2=>exact bs56_ HB HI0)
 rintro e w9 ⟨rfl,hi,hb,hk⟩
 refine⟨_,rfl,?_⟩
 replace HK:=Aside0.mk (KeepBut.trans (kp_ HK) hk (.inl rfl))
 replace HB:=Aside0.mk (hb)
 replace HI0:=Aside0.mk (hi)
 (try clear hb)
 (try clear hb2)
 (try clear hk)
 (try clear hi)
 refine hK.out _ _ ⟨(cellS56_0 HI0.out.1),(cellS56_1 HI0.out.1),(cellS56_2 HI0.out.1),(cellS56_3 HI0.out.1),(cellS56_4 HI0.out.1),(cellS56_5 HI0.out.1),(cellS56_6 HI0.out.1),(cellS56_7 HI0.out.1),(cellS56_8 HI0.out.1)⟩ (fun hHeld=>?_)
 clear hK K
 refine nm_ 18 ?_
 refine pu_ 14 19 (bm_ 17 32767) HT_ ?_
 refine pu_ 15 20 (bm_ 17 65535) HT_ ?_
 refine pu_ 16 2 (bm_ 17 131071) HT_ ?_
 refine done_ (done_of HT_.out (by kernel_rfl)) ?_
 try go_wp2
 go_ret
 exact⟨ew_,is56_ HI0,bs56_ HB HI0,kp_ HK⟩

/-! ### stringslite_HasPrefix: function 41 -/
def stringslite_HasPrefix.f (a0:ByteArray) (a1:ByteArray):Option (Bool):=if (a0.size:Int)≥(a1.size:Int) then (if 0≤(a1.size:Int) then (if (a1.size:Int)≤(a0.size:Int) then (some ((a0.extract 0 ((a1.size:Int):Int).toNat).toList==a1.toList)) else (none)) else (none)) else (some false)
set_option maxHeartbeats 64000000 in
set_option maxRecDepth 100000 in
theorem stringslite_HasPrefix.calls (a0:ByteArray) (a1:ByteArray) (r:Bool) (w:World) (h:stringslite_HasPrefix.f a0 a1=some r) :
    Calls Tryd.prog 41 #[.string a0,.string a1] w fun e w'=>e= .returned (.bool r)∧Drawn0 w w':=by
  have H:(if (a0.size:Int)≥(a1.size:Int) then (if 0≤(a1.size:Int) then (if (a1.size:Int)≤(a0.size:Int) then (some ((a0.extract 0 ((a1.size:Int):Int).toNat).toList==a1.toList)) else (none)) else (none)) else (some false))=some r:=h
  clear h
  by_cases c3:(a0.size:Int)≥(a1.size:Int)
  · rw[if_pos c3] at H
    have c3b0:decide ((a1.size:Int)≤(a0.size:Int))=true:=decide_eq_true c3
    have c3b1:decide (a1.size≤a0.size)=true:=decide_eq_true (Int.ofNat_le.mp c3)
    clear c3
    replace H:=ifn_ H
    obtain⟨c4,H⟩:=H
    have c4b0:=eq_true c4
    have c4b1:decide (0≤(a1.size:Int))=true:=decide_eq_true c4
    clear c4
    replace H:=ifn_ H
    obtain⟨c5,H⟩:=H
    have c5b0:=eq_true c5
    have c5b1:decide ((a1.size:Int)≤(a0.size:Int))=true:=decide_eq_true c5
    clear c5
    obtain rfl:=Option.some.inj H
    go_enter Tryd.func41,Tryd.ntmps41
    go_wp2
    go_ret
    exact⟨by first|rfl|(simp;done)|(simp[*];done)|(simp;first|exact given_isEmpty _|exact(given_isEmpty _).symm)|(unfold wrap64;omega)|(congr 1;unfold wrap64;omega),by repeat(first|exact Drawn0.refl _|apply Drawn0.step)⟩
  · rw[if_neg c3] at H
    have c3b0:decide ((a1.size:Int)≤(a0.size:Int))=false:=decide_eq_false c3
    have c3b1:decide (a1.size≤a0.size)=false:=decide_eq_false (fun h=>c3 (Int.ofNat_le.mpr h))
    clear c3
    obtain rfl:=Option.some.inj H
    go_enter Tryd.func41,Tryd.ntmps41
    go_wp2
    go_ret
    exact⟨by first|rfl|(simp;done)|(simp[*];done)|(simp;first|exact given_isEmpty _|exact(given_isEmpty _).symm)|(unfold wrap64;omega)|(congr 1;unfold wrap64;omega),by repeat(first|exact Drawn0.refl _|apply Drawn0.step)⟩

/-! ### strings_HasPrefix: function 32 -/
def strings_HasPrefix.f (a0:ByteArray) (a1:ByteArray):Option (Bool):=(stringslite_HasPrefix.f a0 a1).bind fun t131=>(some t131)
set_option maxHeartbeats 64000000 in
set_option maxRecDepth 100000 in
theorem strings_HasPrefix.calls (a0:ByteArray) (a1:ByteArray) (r:Bool) (w:World) (h:strings_HasPrefix.f a0 a1=some r) :
    Calls Tryd.prog 32 #[.string a0,.string a1] w fun e w'=>e= .returned (.bool r)∧Drawn0 w w':=by
  have H:((stringslite_HasPrefix.f a0 a1).bind fun t131=>(some t131))=some r:=h
  clear h
  replace H:=Option.bind_eq_some_iff.mp H
  obtain⟨t131,A30,H⟩:=H
  have A3:=Aside0.mk A30
  clear A30
  obtain rfl:=Option.some.inj H
  go_enter Tryd.func32,Tryd.ntmps32
  go_wp2_with (first|((with_reducible refine gate_callee (f:=41) rfl ?_);refine gl_ (some 7) Tryd.func41 #[.string a0,.string a1] ?_;(with_reducible refine(stringslite_HasPrefix.calls _ _ _ _ A3.out).mono ?_);rintro e w' ⟨rfl,⟨nd,rfl⟩⟩;refine⟨_,rfl,?_⟩))
  go_ret
  exact⟨by first|rfl|(simp;done)|(simp[*];done)|(simp;first|exact given_isEmpty _|exact(given_isEmpty _).symm)|(unfold wrap64;omega)|(congr 1;unfold wrap64;omega),by repeat(first|exact Drawn0.refl _|apply Drawn0.step)⟩

/-! ### rule_reader_take: function 20 -/
def rule_reader_take.f (k:Nat) (s0_0:ByteArray) (s0_1:Int) (s0_2:Int) (s0_3:Bool) (s0_4:Bool) (s0_5:Bool) (s0_6:Bool) (s0_7:Bool) (s0_8:Bool) (a1:ByteArray):Option (Bool × ByteArray × Int × Int × Bool × Bool × Bool × Bool × Bool × Bool):=(rule_reader_blanks.f k s0_0 s0_1 s0_2 s0_3 s0_4 s0_5 s0_6 s0_7 s0_8).bind fun bt132=>(if 0≤bt132.2.1 then (if bt132.2.1≤(bt132.1.size:Int) then ((strings_HasPrefix.f (bt132.1.extract (bt132.2.1:Int).toNat bt132.1.size) a1).bind fun t141=>(if t141=true then (some (true,bt132.1,wrap64 (bt132.2.1+(a1.size:Int)),bt132.2.2.1,bt132.2.2.2.1,bt132.2.2.2.2.1,bt132.2.2.2.2.2.1,bt132.2.2.2.2.2.2.1,bt132.2.2.2.2.2.2.2.1,bt132.2.2.2.2.2.2.2.2)) else (some (false,bt132.1,bt132.2.1,bt132.2.2.1,bt132.2.2.2.1,bt132.2.2.2.2.1,bt132.2.2.2.2.2.1,bt132.2.2.2.2.2.2.1,bt132.2.2.2.2.2.2.2.1,bt132.2.2.2.2.2.2.2.2)))) else (none)) else (none))
set_option maxHeartbeats 64000000 in
set_option maxRecDepth 100000 in
theorem rule_reader_take.calls (k:Nat) (g:Nat) (s0_0:ByteArray) (s0_1:Int) (s0_2:Int) (s0_3:Bool) (s0_4:Bool) (s0_5:Bool) (s0_6:Bool) (s0_7:Bool) (s0_8:Bool) (a1:ByteArray) (r1:Bool) (r2:ByteArray) (r3:Int) (r4:Int) (r5:Bool) (r6:Bool) (r7:Bool) (r8:Bool) (r9:Bool) (r10:Bool) (w0 w:World) (hI:IsS56 w0 w g s0_0 s0_1 s0_2 s0_3 s0_4 s0_5 s0_6 s0_7 s0_8) (hB:Below w0.heap.size w0 w) (h:rule_reader_take.f k s0_0 s0_1 s0_2 s0_3 s0_4 s0_5 s0_6 s0_7 s0_8 a1=some (r1,r2,r3,r4,r5,r6,r7,r8,r9,r10)) :
  Calls Tryd.prog 20 #[.pointer (some ⟨g,0,none⟩),.string a1] w fun e w'=>e= .returned (.bool r1)∧IsS56 w0 w' g r2 r3 r4 r5 r6 r7 r8 r9 r10∧Below w0.heap.size w0 w'∧KeepBut w w' g none:=by
 have HI0:=Aside0.mk hI
 have HK:=Aside0.mk (KeepBut.refl w g none)
 have HL:=Aside0.mk hB.size
 clear hI
 have HW0:=Aside0.mk hB.size
 have HB:=Aside0.mk hB
 clear hB
 have H:((rule_reader_blanks.f k s0_0 s0_1 s0_2 s0_3 s0_4 s0_5 s0_6 s0_7 s0_8).bind fun bt132=>(if 0≤bt132.2.1 then (if bt132.2.1≤(bt132.1.size:Int) then ((strings_HasPrefix.f (bt132.1.extract (bt132.2.1:Int).toNat bt132.1.size) a1).bind fun t141=>(if t141=true then (some (true,bt132.1,wrap64 (bt132.2.1+(a1.size:Int)),bt132.2.2.1,bt132.2.2.2.1,bt132.2.2.2.2.1,bt132.2.2.2.2.2.1,bt132.2.2.2.2.2.2.1,bt132.2.2.2.2.2.2.2.1,bt132.2.2.2.2.2.2.2.2)) else (some (false,bt132.1,bt132.2.1,bt132.2.2.1,bt132.2.2.2.1,bt132.2.2.2.2.1,bt132.2.2.2.2.2.1,bt132.2.2.2.2.2.2.1,bt132.2.2.2.2.2.2.2.1,bt132.2.2.2.2.2.2.2.2)))) else (none)) else (none)))=some (r1,r2,r3,r4,r5,r6,r7,r8,r9,r10):=h
 clear h
 replace H:=Option.bind_eq_some_iff.mp H
 obtain⟨⟨t132,t133,t134,t135,t136,t137,t138,t139,t140⟩,A30,H⟩:=H
 dsimp only at H
 have A3:=Aside0.mk A30
 clear A30
 replace H:=ifn_ H
 obtain⟨c4,H⟩:=H
 have c4b0:=eq_true c4
 have c4b1:decide (0≤t133)=true:=decide_eq_true c4
 clear c4
 replace H:=ifn_ H
 obtain⟨c5,H⟩:=H
 have c5b0:=eq_true c5
 have c5b1:decide (t133≤(t132.size:Int))=true:=decide_eq_true c5
 clear c5
 replace H:=Option.bind_eq_some_iff.mp H
 obtain⟨t141,A60,H⟩:=H
 have A6:=Aside0.mk A60
 clear A60
 by_cases c7:t141=true
 ·subst c7
  have H1:(some (true,t132,wrap64 (t133+(a1.size:Int)),t134,t135,t136,t137,t138,t139,t140))=some (r1,r2,r3,r4,r5,r6,r7,r8,r9,r10):=by rw[if_pos rfl] at H;exact H
  clear H
  have H:=H1
  clear H1
  simp only[Option.some.injEq,Prod.mk.injEq] at H
  obtain⟨rfl,rfl,rfl,rfl,rfl,rfl,rfl,rfl,rfl,rfl⟩:=H
  go_enter Tryd.func20,Tryd.ntmps20
  go_wp2_with (first|(go_at_call 26;(with_reducible refine(rule_reader_blanks.calls _ _ _ _ _ _ _ _ _ _ _ _ _ _ _ _ _ _ _ _ w0 _ ?side1 ?side2 A3.out).mono ?_);(case side1=>exact is56_ HI0);(case side2=>exact bs56_ HB HI0);rintro e w8 ⟨rfl,hi,hb,hk⟩;replace HK:=Aside0.mk (KeepBut.trans (kp_ HK) hk (.inl rfl));replace HB:=Aside0.mk (hb);replace HI0:=Aside0.mk (hi);(try clear hb);(try clear hk);(try clear hi);obtain⟨hcz9_0,hcz9_1,hcz9_2,hcz9_3,hcz9_4,hcz9_5,hcz9_6,hcz9_7,hcz9_8,hfz9_0,hfz9_1,hfz9_2,hfz9_3,hfz9_4,hfz9_5,hfz9_6,hfz9_7,hfz9_8⟩:=cs56_ HI0)|(go_at_call 32;(with_reducible refine(strings_HasPrefix.calls _ _ _ _ A6.out).mono ?_);rintro e w' ⟨rfl,⟨nd,rfl⟩⟩;(try first|exact⟨rfl,_,World.drewN_drewN _ _ _⟩|exact⟨rfl,_,Eq.trans (World.drewN_drewN _ _ _) (congrArg (World.drewN _) (Nat.add_assoc _ _ _))⟩)))
  repeat(go_quiet (first|(go_at_call 26;(with_reducible refine(rule_reader_blanks.calls _ _ _ _ _ _ _ _ _ _ _ _ _ _ _ _ _ _ _ _ w0 _ ?side1 ?side2 A3.out).mono ?_);(case side1=>exact is56_ HI0);(case side2=>exact bs56_ HB HI0);rintro e w8 ⟨rfl,hi,hb,hk⟩;replace HK:=Aside0.mk (KeepBut.trans (kp_ HK) hk (.inl rfl));replace HB:=Aside0.mk (hb);replace HI0:=Aside0.mk (hi);(try clear hb);(try clear hk);(try clear hi);obtain⟨hcz9_0,hcz9_1,hcz9_2,hcz9_3,hcz9_4,hcz9_5,hcz9_6,hcz9_7,hcz9_8,hfz9_0,hfz9_1,hfz9_2,hfz9_3,hfz9_4,hfz9_5,hfz9_6,hfz9_7,hfz9_8⟩:=cs56_ HI0)|(go_at_call 32;(with_reducible refine(strings_HasPrefix.calls _ _ _ _ A6.out).mono ?_);rintro e w' ⟨rfl,⟨nd,rfl⟩⟩;(try first|exact⟨rfl,_,World.drewN_drewN _ _ _⟩|exact⟨rfl,_,Eq.trans (World.drewN_drewN _ _ _) (congrArg (World.drewN _) (Nat.add_assoc _ _ _))⟩)));try go_wp2_with (first|(go_at_call 26;(with_reducible refine(rule_reader_blanks.calls _ _ _ _ _ _ _ _ _ _ _ _ _ _ _ _ _ _ _ _ w0 _ ?side1 ?side2 A3.out).mono ?_);(case side1=>exact is56_ HI0);(case side2=>exact bs56_ HB HI0);rintro e w8 ⟨rfl,hi,hb,hk⟩;replace HK:=Aside0.mk (KeepBut.trans (kp_ HK) hk (.inl rfl));replace HB:=Aside0.mk (hb);replace HI0:=Aside0.mk (hi);(try clear hb);(try clear hk);(try clear hi);obtain⟨hcz9_0,hcz9_1,hcz9_2,hcz9_3,hcz9_4,hcz9_5,hcz9_6,hcz9_7,hcz9_8,hfz9_0,hfz9_1,hfz9_2,hfz9_3,hfz9_4,hfz9_5,hfz9_6,hfz9_7,hfz9_8⟩:=cs56_ HI0)|(go_at_call 32;(with_reducible refine(strings_HasPrefix.calls _ _ _ _ A6.out).mono ?_);rintro e w' ⟨rfl,⟨nd,rfl⟩⟩;(try first|exact⟨rfl,_,World.drewN_drewN _ _ _⟩|exact⟨rfl,_,Eq.trans (World.drewN_drewN _ _ _) (congrArg (World.drewN _) (Nat.add_assoc _ _ _))⟩))))
  go_ret
  exact⟨ew_,is56_ HI0,bs56_ HB HI0,kp_ HK⟩
 ·replace c7:=Bool.eq_false_iff.mpr c7
  subst c7
  have H1:(some (false,t132,t133,t134,t135,t136,t137,t138,t139,t140))=some (r1,r2,r3,r4,r5,r6,r7,r8,r9,r10):=by rw[if_neg (show ¬(false=true) by decide)] at H;exact H
  clear H
  have H:=H1
  clear H1
  simp only[Option.some.injEq,Prod.mk.injEq] at H
  obtain⟨rfl,rfl,rfl,rfl,rfl,rfl,rfl,rfl,rfl,rfl⟩:=H
  go_enter Tryd.func20,Tryd.ntmps20
  go_wp2_with (first|(go_at_call 26;(with_reducible refine(rule_reader_blanks.calls _ _ _ _ _ _ _ _ _ _ _ _ _ _ _ _ _ _ _ _ w0 _ ?side1 ?side2 A3.out).mono ?_);(case side1=>exact is56_ HI0);(case side2=>exact bs56_ HB HI0);rintro e w10 ⟨rfl,hi,hb,hk⟩;replace HK:=Aside0.mk (KeepBut.trans (kp_ HK) hk (.inl rfl));replace HB:=Aside0.mk (hb);replace HI0:=Aside0.mk (hi);(try clear hb);(try clear hk);(try clear hi);obtain⟨hcz11_0,hcz11_1,hcz11_2,hcz11_3,hcz11_4,hcz11_5,hcz11_6,hcz11_7,hcz11_8,hfz11_0,hfz11_1,hfz11_2,hfz11_3,hfz11_4,hfz11_5,hfz11_6,hfz11_7,hfz11_8⟩:=cs56_ HI0)|(go_at_call 32;(with_reducible refine(strings_HasPrefix.calls _ _ _ _ A6.out).mono ?_);rintro e w' ⟨rfl,⟨nd,rfl⟩⟩;(try first|exact⟨rfl,_,World.drewN_drewN _ _ _⟩|exact⟨rfl,_,Eq.trans (World.drewN_drewN _ _ _) (congrArg (World.drewN _) (Nat.add_assoc _ _ _))⟩)))
  repeat(go_quiet (first|(go_at_call 26;(with_reducible refine(rule_reader_blanks.calls _ _ _ _ _ _ _ _ _ _ _ _ _ _ _ _ _ _ _ _ w0 _ ?side1 ?side2 A3.out).mono ?_);(case side1=>exact is56_ HI0);(case side2=>exact bs56_ HB HI0);rintro e w10 ⟨rfl,hi,hb,hk⟩;replace HK:=Aside0.mk (KeepBut.trans (kp_ HK) hk (.inl rfl));replace HB:=Aside0.mk (hb);replace HI0:=Aside0.mk (hi);(try clear hb);(try clear hk);(try clear hi);obtain⟨hcz11_0,hcz11_1,hcz11_2,hcz11_3,hcz11_4,hcz11_5,hcz11_6,hcz11_7,hcz11_8,hfz11_0,hfz11_1,hfz11_2,hfz11_3,hfz11_4,hfz11_5,hfz11_6,hfz11_7,hfz11_8⟩:=cs56_ HI0)|(go_at_call 32;(with_reducible refine(strings_HasPrefix.calls _ _ _ _ A6.out).mono ?_);rintro e w' ⟨rfl,⟨nd,rfl⟩⟩;(try first|exact⟨rfl,_,World.drewN_drewN _ _ _⟩|exact⟨rfl,_,Eq.trans (World.drewN_drewN _ _ _) (congrArg (World.drewN _) (Nat.add_assoc _ _ _))⟩)));try go_wp2_with (first|(go_at_call 26;(with_reducible refine(rule_reader_blanks.calls _ _ _ _ _ _ _ _ _ _ _ _ _ _ _ _ _ _ _ _ w0 _ ?side1 ?side2 A3.out).mono ?_);(case side1=>exact is56_ HI0);(case side2=>exact bs56_ HB HI0);rintro e w10 ⟨rfl,hi,hb,hk⟩;replace HK:=Aside0.mk (KeepBut.trans (kp_ HK) hk (.inl rfl));replace HB:=Aside0.mk (hb);replace HI0:=Aside0.mk (hi);(try clear hb);(try clear hk);(try clear hi);obtain⟨hcz11_0,hcz11_1,hcz11_2,hcz11_3,hcz11_4,hcz11_5,hcz11_6,hcz11_7,hcz11_8,hfz11_0,hfz11_1,hfz11_2,hfz11_3,hfz11_4,hfz11_5,hfz11_6,hfz11_7,hfz11_8⟩:=cs56_ HI0)|(go_at_call 32;(with_reducible refine(strings_HasPrefix.calls _ _ _ _ A6.out).mono ?_);rintro e w' ⟨rfl,⟨nd,rfl⟩⟩;(try first|exact⟨rfl,_,World.drewN_drewN _ _ _⟩|exact⟨rfl,_,Eq.trans (World.drewN_drewN _ _ _) (congrArg (World.drewN _) (Nat.add_assoc _ _ _))⟩))))
  go_ret
  exact⟨ew_,is56_ HI0,bs56_ HB HI0,kp_ HK⟩

/-! ### rule_reader_want: function 28 -/
def rule_reader_want.f (k:Nat) (s0_0:ByteArray) (s0_1:Int) (s0_2:Int) (s0_3:Bool) (s0_4:Bool) (s0_5:Bool) (s0_6:Bool) (s0_7:Bool) (s0_8:Bool) (a1:ByteArray):Option (ByteArray × Int × Int × Bool × Bool × Bool × Bool × Bool × Bool):=(rule_reader_take.f k s0_0 s0_1 s0_2 s0_3 s0_4 s0_5 s0_6 s0_7 s0_8 a1).bind fun bt142=>(if bt142.1=true then (some (bt142.2.1,bt142.2.2.1,bt142.2.2.2.1,bt142.2.2.2.2.1,bt142.2.2.2.2.2.1,bt142.2.2.2.2.2.2.1,bt142.2.2.2.2.2.2.2.1,bt142.2.2.2.2.2.2.2.2.1,bt142.2.2.2.2.2.2.2.2.2)) else (none))
set_option maxHeartbeats 64000000 in
set_option maxRecDepth 100000 in
theorem rule_reader_want.calls (k:Nat) (g:Nat) (s0_0:ByteArray) (s0_1:Int) (s0_2:Int) (s0_3:Bool) (s0_4:Bool) (s0_5:Bool) (s0_6:Bool) (s0_7:Bool) (s0_8:Bool) (a1:ByteArray) (r1:ByteArray) (r2:Int) (r3:Int) (r4:Bool) (r5:Bool) (r6:Bool) (r7:Bool) (r8:Bool) (r9:Bool) (w0 w:World) (hI:IsS56 w0 w g s0_0 s0_1 s0_2 s0_3 s0_4 s0_5 s0_6 s0_7 s0_8) (hB:Below w0.heap.size w0 w) (h:rule_reader_want.f k s0_0 s0_1 s0_2 s0_3 s0_4 s0_5 s0_6 s0_7 s0_8 a1=some (r1,r2,r3,r4,r5,r6,r7,r8,r9)) :
  Calls Tryd.prog 28 #[.pointer (some ⟨g,0,none⟩),.string a1] w fun e w'=>e= .returned (.tuple #[])∧IsS56 w0 w' g r1 r2 r3 r4 r5 r6 r7 r8 r9∧Below w0.heap.size w0 w'∧KeepBut w w' g none:=by
 have HI0:=Aside0.mk hI
 have HK:=Aside0.mk (KeepBut.refl w g none)
 have HL:=Aside0.mk hB.size
 clear hI
 have HW0:=Aside0.mk hB.size
 have HB:=Aside0.mk hB
 clear hB
 have H:((rule_reader_take.f k s0_0 s0_1 s0_2 s0_3 s0_4 s0_5 s0_6 s0_7 s0_8 a1).bind fun bt142=>(if bt142.1=true then (some (bt142.2.1,bt142.2.2.1,bt142.2.2.2.1,bt142.2.2.2.2.1,bt142.2.2.2.2.2.1,bt142.2.2.2.2.2.2.1,bt142.2.2.2.2.2.2.2.1,bt142.2.2.2.2.2.2.2.2.1,bt142.2.2.2.2.2.2.2.2.2)) else (none)))=some (r1,r2,r3,r4,r5,r6,r7,r8,r9):=h
 clear h
 replace H:=Option.bind_eq_some_iff.mp H
 obtain⟨⟨t142,t143,t144,t145,t146,t147,t148,t149,t150,t151⟩,A30,H⟩:=H
 dsimp only at H
 have A3:=Aside0.mk A30
 clear A30
 by_cases c4:t142=true
 ·subst c4
  have H1:(some (t143,t144,t145,t146,t147,t148,t149,t150,t151))=some (r1,r2,r3,r4,r5,r6,r7,r8,r9):=by rw[if_pos rfl] at H;exact H
  clear H
  have H:=H1
  clear H1
  simp only[Option.some.injEq,Prod.mk.injEq] at H
  obtain⟨rfl,rfl,rfl,rfl,rfl,rfl,rfl,rfl,rfl⟩:=H
  go_enter Tryd.func28,Tryd.ntmps28
  go_wp2_with (first|((with_reducible refine gate_callee (f:=20) rfl ?_);refine gl_ (some 6) Tryd.func20 #[.pointer (some ⟨g,0,none⟩),.string a1] ?_;(with_reducible refine(rule_reader_take.calls _ _ _ _ _ _ _ _ _ _ _ _ _ _ _ _ _ _ _ _ _ _ w0 _ ?side1 ?side2 A3.out).mono ?_);(case side1=>exact is56_ HI0);(case side2=>exact bs56_ HB HI0);rintro e w5 ⟨rfl,hi,hb,hk⟩;refine⟨_,rfl,?_⟩;replace HK:=Aside0.mk (KeepBut.trans (kp_ HK) hk (.inl rfl));replace HB:=Aside0.mk (hb);replace HI0:=Aside0.mk (hi);(try clear hb);(try clear hk);(try clear hi)))
  first|go_end0|((try simp only[Exit.inBlock,Exit.then]);refine bodyPost_ret (results_none rfl _ _ _) rfl ?_)
  exact⟨ew_,is56_ HI0,bs56_ HB HI0,kp_ HK⟩
 ·replace c4:=Bool.eq_false_iff.mpr c4
  subst c4
  have H1:(none)=some (r1,r2,r3,r4,r5,r6,r7,r8,r9):=by rw[if_neg (show ¬(false=true) by decide)] at H;exact H
  clear H
  have H:=H1
  clear H1
  exact absurd H (by simp)

/-! ### rule_fail_g: function 21 -/
def rule_fail_g.f (a0 a1:Int):Option (Int × Int):=some (a0,a1)
set_option maxRecDepth 100000 in
theorem rule_fail_g.calls (a0 a1 r1 r2:Int) (w:World) (h:rule_fail_g.f a0 a1=some (r1,r2)) :
    Calls Tryd.prog 21 #[.int .i64 a0,.int .i64 a1] w fun e w'=>e= .panicked [{v:= .iface 52 (.agg #[.int .i64 r1,.int .i64 r2]),recovered:=false}]∧Below w.heap.size w w':=by
  simp only[rule_fail_g.f,Option.some.injEq,Prod.mk.injEq] at h
  obtain⟨rfl,rfl⟩:=h
  go_enter Tryd.func21,Tryd.ntmps21
  go_wp2
  exact⟨rfl,rfl,Below.refl _ _⟩

/-! ### rule_reader_want_g: function 28 -/
def rule_reader_want_g.f (k:Nat) (s0_0:ByteArray) (s0_1:Int) (s0_2:Int) (s0_3:Bool) (s0_4:Bool) (s0_5:Bool) (s0_6:Bool) (s0_7:Bool) (s0_8:Bool) (a1:ByteArray):Option (Int × Int):=(rule_reader_take.f k s0_0 s0_1 s0_2 s0_3 s0_4 s0_5 s0_6 s0_7 s0_8 a1).bind fun bt152=>(if bt152.1=true then (none) else ((rule_fail_g.f 1 bt152.2.2.1).bind fun bt162=>(some (bt162.1,bt162.2))))
set_option maxHeartbeats 64000000 in
set_option maxRecDepth 100000 in
theorem rule_reader_want_g.calls (k:Nat) (g:Nat) (s0_0:ByteArray) (s0_1:Int) (s0_2:Int) (s0_3:Bool) (s0_4:Bool) (s0_5:Bool) (s0_6:Bool) (s0_7:Bool) (s0_8:Bool) (a1:ByteArray) (r1:Int) (r2:Int) (w0 w:World) (hI:IsS56 w0 w g s0_0 s0_1 s0_2 s0_3 s0_4 s0_5 s0_6 s0_7 s0_8) (hB:Below w0.heap.size w0 w) (h:rule_reader_want_g.f k s0_0 s0_1 s0_2 s0_3 s0_4 s0_5 s0_6 s0_7 s0_8 a1=some (r1,r2)) :
  Calls Tryd.prog 28 #[.pointer (some ⟨g,0,none⟩),.string a1] w fun e w'=>e= .panicked [{v:= .iface 52 (.agg #[.int .i64 r1,.int .i64 r2]),recovered:=false}]∧Below w0.heap.size w0 w':=by
 have HI0:=Aside0.mk hI
 have HK:=Aside0.mk (KeepBut.refl w g none)
 have HL:=Aside0.mk hB.size
 clear hI
 have HW0:=Aside0.mk hB.size
 have HB:=Aside0.mk hB
 clear hB
 have H:((rule_reader_take.f k s0_0 s0_1 s0_2 s0_3 s0_4 s0_5 s0_6 s0_7 s0_8 a1).bind fun bt152=>(if bt152.1=true then (none) else ((rule_fail_g.f 1 bt152.2.2.1).bind fun bt162=>(some (bt162.1,bt162.2)))))=some (r1,r2):=h
 clear h
 replace H:=Option.bind_eq_some_iff.mp H
 obtain⟨⟨t152,t153,t154,t155,t156,t157,t158,t159,t160,t161⟩,A30,H⟩:=H
 dsimp only at H
 have A3:=Aside0.mk A30
 clear A30
 by_cases c4:t152=true
 ·subst c4
  have H1:(none)=some (r1,r2):=by rw[if_pos rfl] at H;exact H
  clear H
  have H:=H1
  clear H1
  exact absurd H (by simp)
 ·replace c4:=Bool.eq_false_iff.mpr c4
  subst c4
  have H1:((rule_fail_g.f 1 t154).bind fun bt162=>(some (bt162.1,bt162.2)))=some (r1,r2):=by rw[if_neg (show ¬(false=true) by decide)] at H;exact H
  clear H
  have H:=H1
  clear H1
  replace H:=Option.bind_eq_some_iff.mp H
  obtain⟨⟨t162,t163⟩,A50,H⟩:=H
  dsimp only at H
  have A5:=Aside0.mk A50
  clear A50
  simp only[Option.some.injEq,Prod.mk.injEq] at H
  obtain⟨rfl,rfl⟩:=H
  go_enter Tryd.func28,Tryd.ntmps28
  go_wp2_with (first|((with_reducible refine gate_callee (f:=20) rfl ?_);refine gl_ (some 6) Tryd.func20 #[.pointer (some ⟨g,0,none⟩),.string a1] ?_;(with_reducible refine(rule_reader_take.calls _ _ _ _ _ _ _ _ _ _ _ _ _ _ _ _ _ _ _ _ _ _ w0 _ ?side1 ?side2 A3.out).mono ?_);(case side1=>exact is56_ HI0);(case side2=>exact bs56_ HB HI0);rintro e w6 ⟨rfl,hi,hb,hk⟩;refine⟨_,rfl,?_⟩;replace HK:=Aside0.mk (KeepBut.trans (kp_ HK) hk (.inl rfl));replace HB:=Aside0.mk (hb);replace HI0:=Aside0.mk (hi);(try clear hb);(try clear hk);(try clear hi);obtain⟨hcz7_0,hcz7_1,hcz7_2,hcz7_3,hcz7_4,hcz7_5,hcz7_6,hcz7_7,hcz7_8,hfz7_0,hfz7_1,hfz7_2,hfz7_3,hfz7_4,hfz7_5,hfz7_6,hfz7_7,hfz7_8⟩:=cs56_ HI0)|(go_at_call 21;(with_reducible refine(rule_fail_g.calls _ _ _ _ _ A5.out).mono ?_);rintro e w' ⟨rfl,hb⟩;exact And.intro rfl (And.intro rfl (below_step (bs56_ HB HI0) hb))))

/-! ### rule_reader_next: function 30 -/
def rule_reader_next.f (k:Nat) (s0_0:ByteArray) (s0_1:Int) (s0_2:Int) (s0_3:Bool) (s0_4:Bool) (s0_5:Bool) (s0_6:Bool) (s0_7:Bool) (s0_8:Bool) (a1:ByteArray):Option (Bool × ByteArray × Int × Int × Bool × Bool × Bool × Bool × Bool × Bool):=(rule_reader_word.f k s0_0 s0_1 s0_2 s0_3 s0_4 s0_5 s0_6 s0_7 s0_8).bind fun bt164=>(if bt164.1.toList=a1.toList then (some (true,bt164.2.1,wrap64 (bt164.2.2.1+(a1.size:Int)),bt164.2.2.2.1,bt164.2.2.2.2.1,bt164.2.2.2.2.2.1,bt164.2.2.2.2.2.2.1,bt164.2.2.2.2.2.2.2.1,bt164.2.2.2.2.2.2.2.2.1,bt164.2.2.2.2.2.2.2.2.2)) else (some (false,bt164.2.1,bt164.2.2.1,bt164.2.2.2.1,bt164.2.2.2.2.1,bt164.2.2.2.2.2.1,bt164.2.2.2.2.2.2.1,bt164.2.2.2.2.2.2.2.1,bt164.2.2.2.2.2.2.2.2.1,bt164.2.2.2.2.2.2.2.2.2)))
set_option maxHeartbeats 64000000 in
set_option maxRecDepth 100000 in
theorem rule_reader_next.calls (k:Nat) (g:Nat) (s0_0:ByteArray) (s0_1:Int) (s0_2:Int) (s0_3:Bool) (s0_4:Bool) (s0_5:Bool) (s0_6:Bool) (s0_7:Bool) (s0_8:Bool) (a1:ByteArray) (r1:Bool) (r2:ByteArray) (r3:Int) (r4:Int) (r5:Bool) (r6:Bool) (r7:Bool) (r8:Bool) (r9:Bool) (r10:Bool) (w0 w:World) (hI:IsS56 w0 w g s0_0 s0_1 s0_2 s0_3 s0_4 s0_5 s0_6 s0_7 s0_8) (hB:Below w0.heap.size w0 w) (h:rule_reader_next.f k s0_0 s0_1 s0_2 s0_3 s0_4 s0_5 s0_6 s0_7 s0_8 a1=some (r1,r2,r3,r4,r5,r6,r7,r8,r9,r10)) :
  Calls Tryd.prog 30 #[.pointer (some ⟨g,0,none⟩),.string a1] w fun e w'=>e= .returned (.bool r1)∧IsS56 w0 w' g r2 r3 r4 r5 r6 r7 r8 r9 r10∧Below w0.heap.size w0 w'∧KeepBut w w' g none:=by
 have HI0:=Aside0.mk hI
 have HK:=Aside0.mk (KeepBut.refl w g none)
 have HL:=Aside0.mk hB.size
 clear hI
 have HW0:=Aside0.mk hB.size
 have HB:=Aside0.mk hB
 clear hB
 have H:((rule_reader_word.f k s0_0 s0_1 s0_2 s0_3 s0_4 s0_5 s0_6 s0_7 s0_8).bind fun bt164=>(if bt164.1.toList=a1.toList then (some (true,bt164.2.1,wrap64 (bt164.2.2.1+(a1.size:Int)),bt164.2.2.2.1,bt164.2.2.2.2.1,bt164.2.2.2.2.2.1,bt164.2.2.2.2.2.2.1,bt164.2.2.2.2.2.2.2.1,bt164.2.2.2.2.2.2.2.2.1,bt164.2.2.2.2.2.2.2.2.2)) else (some (false,bt164.2.1,bt164.2.2.1,bt164.2.2.2.1,bt164.2.2.2.2.1,bt164.2.2.2.2.2.1,bt164.2.2.2.2.2.2.1,bt164.2.2.2.2.2.2.2.1,bt164.2.2.2.2.2.2.2.2.1,bt164.2.2.2.2.2.2.2.2.2))))=some (r1,r2,r3,r4,r5,r6,r7,r8,r9,r10):=h
 clear h
 replace H:=Option.bind_eq_some_iff.mp H
 obtain⟨⟨t164,t165,t166,t167,t168,t169,t170,t171,t172,t173⟩,A30,H⟩:=H
 dsimp only at H
 have A3:=Aside0.mk A30
 clear A30
 by_cases c4:t164.toList=a1.toList
 ·rw[if_pos c4] at H
  have c4b0:(t164.toList==a1.toList)=true:=beq_iff_eq.mpr c4
  have c4b1:(t164.toList !=a1.toList)=false:=bne_eq_false_iff_eq.mpr c4
  clear c4
  simp only[Option.some.injEq,Prod.mk.injEq] at H
  obtain⟨rfl,rfl,rfl,rfl,rfl,rfl,rfl,rfl,rfl,rfl⟩:=H
  go_enter Tryd.func30,Tryd.ntmps30
  go_wp2_with (first|((with_reducible refine gate_callee (f:=27) rfl ?_);refine gl_ (some 6) Tryd.func27 #[.pointer (some ⟨g,0,none⟩)] ?_;(with_reducible refine(rule_reader_word.calls _ _ _ _ _ _ _ _ _ _ _ _ _ _ _ _ _ _ _ _ _ w0 _ ?side1 ?side2 A3.out).mono ?_);(case side1=>exact is56_ HI0);(case side2=>exact bs56_ HB HI0);rintro e w5 ⟨rfl,hi,hb,hk⟩;refine⟨_,rfl,?_⟩;replace HK:=Aside0.mk (KeepBut.trans (kp_ HK) hk (.inl rfl));replace HB:=Aside0.mk (hb);replace HI0:=Aside0.mk (hi);(try clear hb);(try clear hk);(try clear hi);obtain⟨hcz6_0,hcz6_1,hcz6_2,hcz6_3,hcz6_4,hcz6_5,hcz6_6,hcz6_7,hcz6_8,hfz6_0,hfz6_1,hfz6_2,hfz6_3,hfz6_4,hfz6_5,hfz6_6,hfz6_7,hfz6_8⟩:=cs56_ HI0))
  go_ret
  exact⟨ew_,is56_ HI0,bs56_ HB HI0,kp_ HK⟩
 ·rw[if_neg c4] at H
  have c4b0:(t164.toList==a1.toList)=false:=beq_eq_false_iff_ne.mpr c4
  have c4b1:(t164.toList !=a1.toList)=true:=bne_iff_ne.mpr c4
  simp only[Option.some.injEq,Prod.mk.injEq] at H
  obtain⟨rfl,rfl,rfl,rfl,rfl,rfl,rfl,rfl,rfl,rfl⟩:=H
  go_enter Tryd.func30,Tryd.ntmps30
  go_wp2_with (first|((with_reducible refine gate_callee (f:=27) rfl ?_);refine gl_ (some 6) Tryd.func27 #[.pointer (some ⟨g,0,none⟩)] ?_;(with_reducible refine(rule_reader_word.calls _ _ _ _ _ _ _ _ _ _ _ _ _ _ _ _ _ _ _ _ _ w0 _ ?side1 ?side2 A3.out).mono ?_);(case side1=>exact is56_ HI0);(case side2=>exact bs56_ HB HI0);rintro e w7 ⟨rfl,hi,hb,hk⟩;refine⟨_,rfl,?_⟩;replace HK:=Aside0.mk (KeepBut.trans (kp_ HK) hk (.inl rfl));replace HB:=Aside0.mk (hb);replace HI0:=Aside0.mk (hi);(try clear hb);(try clear hk);(try clear hi)))
  go_ret
  exact⟨ew_,is56_ HI0,bs56_ HB HI0,kp_ HK⟩

/-! ### stringslite_Index: function 56 -/
def stringslite_Index.f (a b:ByteArray):Option Int:=if h:b.size=1 then some (Lib.indexByte a.data.toList (b[0]'(by omega))) else none
theorem stringslite_Index.one (b:ByteArray) (h:b.size=1):b=⟨#[b[0]'(by omega)]⟩:=by
  obtain⟨d⟩:=b
  have hd:d.size=1:=h
  congr 1
  apply Array.ext
  · exact hd
  · intro i h1 h2
    have:i=0:=by omega
    subst this
    rfl
theorem stringslite_Index.calls (a0 a1:ByteArray) (r:Int) (w:World) (h:stringslite_Index.f a0 a1=some r) :
    Calls Tryd.prog 56 #[.string a0,.string a1] w fun e w'=>e= .returned (.int .i64 r)∧Drawn0 w w':=by
  unfold stringslite_Index.f at h
  split at h
  · rename_i h1
    obtain rfl:=Option.some.inj h
    have c:=Tryd.stringslite_Index_one a0 (a1[0]'(by omega)) w
    rw[← stringslite_Index.one a1 h1] at c
    refine c.mono ?_
    rintro e w' ⟨rfl,rfl⟩
    exact⟨rfl,Drawn0.refl _⟩
  · cases h

/-! ### strings_Index: function 54 -/
def strings_Index.f (a0:ByteArray) (a1:ByteArray):Option (Int):=(stringslite_Index.f a0 a1).bind fun t174=>(some t174)
set_option maxHeartbeats 64000000 in
set_option maxRecDepth 100000 in
theorem strings_Index.calls (a0:ByteArray) (a1:ByteArray) (r:Int) (w:World) (h:strings_Index.f a0 a1=some r) :
    Calls Tryd.prog 54 #[.string a0,.string a1] w fun e w'=>e= .returned (.int .i64 r)∧Drawn0 w w':=by
  have H:((stringslite_Index.f a0 a1).bind fun t174=>(some t174))=some r:=h
  clear h
  replace H:=Option.bind_eq_some_iff.mp H
  obtain⟨t174,A30,H⟩:=H
  have A3:=Aside0.mk A30
  clear A30
  obtain rfl:=Option.some.inj H
  go_enter Tryd.func54,Tryd.ntmps54
  go_wp2_with (first|((with_reducible refine gate_callee (f:=56) rfl ?_);refine gl_ (some 7) Tryd.func56 #[.string a0,.string a1] ?_;(with_reducible refine(stringslite_Index.calls _ _ _ _ A3.out).mono ?_);rintro e w' ⟨rfl,⟨nd,rfl⟩⟩;refine⟨_,rfl,?_⟩))
  go_ret
  exact⟨by first|rfl|(simp;done)|(simp[*];done)|(simp;first|exact given_isEmpty _|exact(given_isEmpty _).symm)|(unfold wrap64;omega)|(congr 1;unfold wrap64;omega),by repeat(first|exact Drawn0.refl _|apply Drawn0.step)⟩

/-! ### strings_Contains: function 45 -/
def strings_Contains.f (a0:ByteArray) (a1:ByteArray):Option (Bool):=(strings_Index.f a0 a1).bind fun t175=>(some (decide (t175≥0)))
set_option maxHeartbeats 64000000 in
set_option maxRecDepth 100000 in
theorem strings_Contains.calls (a0:ByteArray) (a1:ByteArray) (r:Bool) (w:World) (h:strings_Contains.f a0 a1=some r) :
    Calls Tryd.prog 45 #[.string a0,.string a1] w fun e w'=>e= .returned (.bool r)∧Drawn0 w w':=by
  have H:((strings_Index.f a0 a1).bind fun t175=>(some (decide (t175≥0))))=some r:=h
  clear h
  replace H:=Option.bind_eq_some_iff.mp H
  obtain⟨t175,A30,H⟩:=H
  have A3:=Aside0.mk A30
  clear A30
  obtain rfl:=Option.some.inj H
  go_enter Tryd.func45,Tryd.ntmps45
  go_wp2_with (first|((with_reducible refine gate_callee (f:=54) rfl ?_);refine gl_ (some 7) Tryd.func54 #[.string a0,.string a1] ?_;(with_reducible refine(strings_Index.calls _ _ _ _ A3.out).mono ?_);rintro e w' ⟨rfl,⟨nd,rfl⟩⟩;refine⟨_,rfl,?_⟩))
  go_ret
  exact⟨by first|rfl|(simp;done)|(simp[*];done)|(simp;first|exact given_isEmpty _|exact(given_isEmpty _).symm)|(unfold wrap64;omega)|(congr 1;unfold wrap64;omega),by repeat(first|exact Drawn0.refl _|apply Drawn0.step)⟩

/-! ### strconv_Atoi: function 55 -/
def strconv_Atoi.f (s:ByteArray):Option (Int × Option Int):=if s.size≤18 then (Lib.atoi s.data.toList).map (fun n:Int=>(n,(none:Option Int))) else none
theorem strconv_Atoi.calls (a0:ByteArray) (r1:Int) (r2:Option Int) (w:World) (h:strconv_Atoi.f a0=some (r1,r2)) :
    Calls Tryd.prog 55 #[.string a0] w fun e w'=>e= .returned (.tuple #[.int .i64 r1,errW r2])∧Below w.heap.size w w':=by
  unfold strconv_Atoi.f at h
  split at h
  · rename_i hc
    obtain⟨n,hn,he⟩:=Option.map_eq_some_iff.1 h
    have e1:=congrArg Prod.fst he
    have e2:=congrArg Prod.snd he
    dsimp only at e1 e2
    subst e1 e2
    refine(Tryd.strconv_Atoi a0 n hc hn w).mono ?_
    rintro e w' ⟨rfl,t,rfl⟩
    exact⟨rfl,Lib.bytesWorld_below _ _ _⟩
  · cases h

end Go.Proofs.YtcokjmnkieakiaaDoor.P
