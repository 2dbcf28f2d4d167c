-- written by a program of this session (wip/p2)
import Derived.Test.YtbhhfpjiacfofaaDoorPx0
namespace Go.Proofs.YtbhhfpjiacfofaaDoor.P
open Go.RowKit Go.Proofs.YtbhhfpjiacfofaaDoorW.PrintWords Go.Proofs.YtbhhfpjiacfofaaDoorW.PrintLast Go.Proofs.YtbhhfpjiacfofaaDoorW.PrintMore
attribute [local go_sem] max2_int min2_int max_two min_two max_three min_three max_four min_four   -- for this text's walks alone
set_option linter.unusedVariables false
set_option linter.unusedSimpArgs false

/-- A state of type 63 at block g of W; what its slices lead to came in by w0. -/
def IsS63 (w0 W:World) (g:Nat) (f0:ByteArray) (f1:Int):Prop:=W.heap[g]? = some (.cells #[.string f0,.int .i64 f1] 63 (0,0))∧w0.heap.size≤g
theorem IsS63.grown {w0 W:World} {g:Nat} {f0:ByteArray} {f1:Int} {W1:World} {row:Option Nat} (h:IsS63 w0 W g f0 f1) (hw:W.grownBy W1 row) (hne:some g≠row):IsS63 w0 W1 g f0 f1:=by
 obtain⟨hb,hg⟩:=h
 exact⟨blk_grown hb hw hne,hg⟩
theorem IsS63.own_neN {w0 W:World} {g:Nat} {f0:ByteArray} {f1:Int} {α:Type} {d:Kd α} {e:Nat} {base:Nat} {ok:Nat→Prop} {v:Value} {xs:List α} (h:IsS63 w0 W g f0 f1) (ho:Kd.N d e W base ok v xs) (ht:e≠63):some g≠v.ownBlock:=by
 obtain⟨hb,hg⟩:=h
 exact Kd.N_ne ho hb ht
theorem IsS63.fresh {w0 W:World} {g:Nat} {f0:ByteArray} {f1:Int} (h:IsS63 w0 W g f0 f1):∀k,W.heap.size≤k→k≠g:=by
 obtain⟨hb,hg⟩:=h
 exact Kd.freshB hb
theorem IsS63.kept {w0 W:World} {g:Nat} {f0:ByteArray} {f1:Int} {W1:World} {S:Nat→Prop} (h:IsS63 w0 W g f0 f1) (hk:Kept W W1 S) (hne:¬S g):IsS63 w0 W1 g f0 f1:=by
 obtain⟨hb,hg⟩:=h
 exact⟨blk_kept hb hk hne,hg⟩
theorem IsS63.below {w0 W:World} {g:Nat} {f0:ByteArray} {f1:Int} {W1:World} (h:IsS63 w0 W g f0 f1) (hw:Below W.heap.size W W1):IsS63 w0 W1 g f0 f1:=h.grown (grown_of_below hw none) (by simp)
theorem IsS63.alloc {w0 W:World} {g:Nat} {f0:ByteArray} {f1:Int} (h:IsS63 w0 W g f0 f1) (o:Obj):IsS63 w0 (W.alloc o) g f0 f1:=h.below (below_alloc (Below.refl _ _) o)
theorem IsS63.drewN {w0 W:World} {g:Nat} {f0:ByteArray} {f1:Int} (h:IsS63 w0 W g f0 f1) (m:Nat):IsS63 w0 (W.drewN m) g f0 f1:=h
theorem IsS63.drew {w0 W:World} {g:Nat} {f0:ByteArray} {f1:Int} (h:IsS63 w0 W g f0 f1):IsS63 w0 W.drew g f0 f1:=h
theorem IsS63.at_ {w0 W:World} {g:Nat} {f0:ByteArray} {f1:Int} {w':World} {m:Nat} (hq:W.drewN m=w') (h:IsS63 w0 W g f0 f1):IsS63 w0 w' g f0 f1:=by subst hq;exact IsS63.drewN h m
theorem IsS63.apart {w0 W:World} {g:Nat} {f0:ByteArray} {f1:Int} {α:Type} {d:Kd α} {e:Nat} {base:Nat} {ok:Nat→Prop} {v:Value} {xs:List α} (h:IsS63 w0 W g f0 f1) (ho:d.R e W base ok v xs) (ht:∀q,q∈e::d.E→q≠63):d.R e W base (fun k=>ok k∧k≠g) v xs:=by
 obtain⟨hb,hg⟩:=h
 exact Kd.R_types ho hb ht
theorem IsS63.own_ne {w0 W:World} {g:Nat} {f0:ByteArray} {f1:Int} {α:Type} {d:Kd α} {e:Nat} {base:Nat} {ok:Nat→Prop} {v:Value} {xs:List α} (h:IsS63 w0 W g f0 f1) (ho:d.R e W base ok v xs) (ht:e≠63):some g≠v.ownBlock:=by
 obtain⟨hb,hg⟩:=h
 exact Kd.R_ne ho hb ht
theorem IsS63.apartQ {w0 W:World} {g:Nat} {f0:ByteArray} {f1:Int} {α:Type} {d:Kd α} {e:Nat} {base:Nat} {ok:Nat→Prop} {v:Value} {xs:List α} (h:IsS63 w0 W g f0 f1) (ho:d.Q e W base ok v xs) (ht:∀q,q∈e::d.E→q≠63):d.Q e W base (fun k=>ok k∧k≠g) v xs:=by
 obtain⟨hb,hg⟩:=h
 exact Kd.Q_types ho hb ht
theorem IsS63.own_neQ {w0 W:World} {g:Nat} {f0:ByteArray} {f1:Int} {α:Type} {d:Kd α} {e:Nat} {base:Nat} {ok:Nat→Prop} {v:Value} {xs:List α} (h:IsS63 w0 W g f0 f1) (ho:d.Q e W base ok v xs) (ht:e≠63):some g≠v.ownBlock:=by
 obtain⟨hb,hg⟩:=h
 exact Kd.Q_ne ho hb ht
theorem IsS63.apartS {w0 W:World} {g:Nat} {f0:ByteArray} {f1:Int} {α:Type} {d:Kd α} {e:Nat} {base:Nat} {ok:Nat→Prop} {v:Value} {xs:List α} (h:IsS63 w0 W g f0 f1) (ho:d.S e W base ok v xs) (ht:∀q,q∈e::d.E→q≠63):d.S e W base (fun k=>ok k∧k≠g) v xs:=by
 obtain⟨hb,hg⟩:=h
 exact Kd.S_types ho hb ht
theorem IsS63.own_neS {w0 W:World} {g:Nat} {f0:ByteArray} {f1:Int} {α:Type} {d:Kd α} {e:Nat} {base:Nat} {ok:Nat→Prop} {v:Value} {xs:List α} (h:IsS63 w0 W g f0 f1) (ho:d.S e W base ok v xs) (ht:e≠63):some g≠v.ownBlock:=by
 obtain⟨hb,hg⟩:=h
 exact Kd.S_ne ho hb ht
theorem IsS63.lt {w0 W:World} {g:Nat} {f0:ByteArray} {f1:Int} (h:IsS63 w0 W g f0 f1):g<W.heap.size:=by
 obtain⟨hb,hg⟩:=h
 exact blk_lt hb
theorem IsS63.ge {w0 W:World} {g:Nat} {f0:ByteArray} {f1:Int} (h:IsS63 w0 W g f0 f1):w0.heap.size≤g:=by
 obtain⟨hb,hg⟩:=h
 exact hg
theorem IsS63.ne_blk {w0 W:World} {g:Nat} {f0:ByteArray} {f1:Int} {a:Nat} {cs:Array Value} {t:TypeId} {fr:Nat × Nat} (h:IsS63 w0 W g f0 f1) (hb2:W.heap[a]? = some (.cells cs t fr)) (ht:t≠63):g≠a:=by
 obtain⟨hb,hg⟩:=h
 rintro rfl
 rw[hb] at hb2
 injection hb2 with hb2
 injection hb2 with _ ht2
 exact ht ht2.symm
theorem IsS63.far {w0 W:World} {g:Nat} {f0:ByteArray} {f1:Int} {p:Addr} (h:IsS63 w0 W g f0 f1) (hne:g≠p.block) (u:Value):IsS63 w0 (W.setCell p u) g f0 f1:=by
 obtain⟨hb,hg⟩:=h
 exact⟨blk_far hb hne u,hg⟩
theorem cellS63_0 {W:World} {g:Nat} {f0:ByteArray} {f1:Int} (h:W.heap[g]? = some (.cells #[.string f0,.int .i64 f1] 63 (0,0))):W.cell? ⟨g,0,none⟩=some (.string f0):=(blk_cell h 0).trans rfl
theorem IsS63.set_0 {w0 W:World} {g:Nat} {f0:ByteArray} {f1:Int} (h:IsS63 w0 W g f0 f1) (x:ByteArray):IsS63 w0 (W.setCell ⟨g,0,none⟩ (.string x)) g x f1:=by
 obtain⟨hb,hg⟩:=h
 exact⟨by simpa using blk_set hb 0 (.string x),hg⟩
theorem cellS63_1 {W:World} {g:Nat} {f0:ByteArray} {f1:Int} (h:W.heap[g]? = some (.cells #[.string f0,.int .i64 f1] 63 (0,0))):W.cell? ⟨g,1,none⟩=some (.int .i64 f1):=(blk_cell h 1).trans rfl
theorem IsS63.set_1 {w0 W:World} {g:Nat} {f0:ByteArray} {f1:Int} (h:IsS63 w0 W g f0 f1) (x:Int):IsS63 w0 (W.setCell ⟨g,1,none⟩ (.int .i64 x)) g f0 x:=by
 obtain⟨hb,hg⟩:=h
 exact⟨by simpa using blk_set hb 1 (.int .i64 x),hg⟩
theorem is63_ {w0 W0 W:World} {g:Nat} {f0 h0:ByteArray} {f1 h1:Int} (h:Aside0 (IsS63 w0 W0 g f0 f1)) (hr:IsS63 w0 W0 g f0 f1→IsS63 w0 W g h0 h1:=by intro h_;repeat(first|(with_reducible first|exact h_|apply IsS63.alloc|apply IsS63.drewN|apply IsS63.drew|apply IsS63.set_0|apply IsS63.set_1|refine IsS63.far ?_ (Aside0.out (by assumption)) _|(apply IsS63.far;case hne=>exact Aside0.out (by assumption)))|exact h_)):IsS63 w0 W g h0 h1:=hr h.out
theorem bs63_ {w0 W0 W1 W:World} {g:Nat} {f0:ByteArray} {f1:Int} (h:Aside0 (Below w0.heap.size w0 W0)) (hi:Aside0 (IsS63 w0 W1 g f0 f1)) (hr:Below w0.heap.size w0 W0→Below w0.heap.size w0 W:=by intro h_;repeat(first|(with_reducible first|exact h_|apply below_alloc|apply pw_below_drewN|apply below_drew1|refine below_set ?_ (IsS63.ge (Aside0.out (by assumption)))|refine below_set ?_ (Aside0.out (by assumption)))|exact h_)):Below w0.heap.size w0 W:=hr h.out
theorem cs63_ {w0 W:World} {g:Nat} {f0:ByteArray} {f1:Int} (h:Aside0 (IsS63 w0 W g f0 f1)):W.cell? ⟨g,0,none⟩=some (.string f0)∧W.cell? ⟨g,1,none⟩=some (.int .i64 f1)∧W.frozen? ⟨g,0,none⟩=false∧W.frozen? ⟨g,1,none⟩=false:=⟨cellS63_0 h.out.1,cellS63_1 h.out.1,blk_frozen h.out.1 0,blk_frozen h.out.1 1⟩
theorem IsS63.new (w0 W:World) (f0:ByteArray) (f1:Int) (hB:Below w0.heap.size w0 W):IsS63 w0 (W.alloc (.cells #[.string f0,.int .i64 f1] 63)) W.heap.size f0 f1:=⟨by simpa using heap_alloc_new W _,hB.size⟩

/-! ### sample_reader_blanks: function 17 -/
def sample_reader_blanks.l0:Nat→ByteArray→Int→Option (ByteArray × Int)
 | 0,_,_=>none
 | k+1,x1000,x1001=>if x1001<(x1000.size:Int) then (if 0≤x1001 then (if (bt x1000 x1001)=32 then (sample_reader_blanks.l0 k x1000 (wrap64 (x1001+1))) else (some (x1000,x1001))) else (none)) else (some (x1000,x1001))
def sample_reader_blanks.f (k:Nat) (s0_0:ByteArray) (s0_1:Int):Option (ByteArray × Int):=sample_reader_blanks.l0 k s0_0 s0_1
set_option maxHeartbeats 64000000 in
set_option maxRecDepth 100000 in
theorem sample_reader_blanks.calls (k:Nat) (g:Nat) (s0_0:ByteArray) (s0_1:Int) (r1:ByteArray) (r2:Int) (w0 w:World) (hI:IsS63 w0 w g s0_0 s0_1) (hB:Below w0.heap.size w0 w) (h:sample_reader_blanks.f k s0_0 s0_1=some (r1,r2)) :
  Calls Tryd.prog 17 #[.pointer (some ⟨g,0,none⟩)] w fun e w'=>e= .returned (.tuple #[])∧IsS63 w0 w' g r1 r2∧Below w0.heap.size w0 w'∧KeepBut w w' g none:=by
 have HI0:=Aside0.mk hI
 have HK:=Aside0.mk (KeepBut.refl w g none)
 have HL:=Aside0.mk hB.size
 clear hI
 have HW0:=Aside0.mk hB.size
 have HB:=Aside0.mk hB
 clear hB
 have H:=h
 clear h
 unfold sample_reader_blanks.f at H
 have H':=Aside0.mk H
 clear H
 go_enter Tryd.func17,Tryd.ntmps17
 go_wp2
 repeat(go_quiet (fail);try go_wp2)
 go_loopg [] k (fun kq w'=>∃(x1001_1:Int),Aside0 (sample_reader_blanks.l0 kq s0_0 x1001_1=some (r1,r2))∧Aside0 (kq≤k)∧Aside0 (IsS63 w0 w' g s0_0 x1001_1)∧Aside0 (KeepBut w w' g none)∧Aside0 (Below w0.heap.size w0 w'))
 case atStart=>exact⟨(s0_1),H',⟨Nat.le_refl _⟩,⟨is63_ HI0⟩,⟨kp_ HK⟩,⟨bs63_ HB HI0⟩⟩
 clear H'
 obtain⟨x1001_1,HA,HK1,HI0,HK,HB⟩:=hrel
 cases gk with
 | zero=>exact absurd HA.out (by simp[sample_reader_blanks.l0])
 | succ k1=>?_
 have H:=HA.out
 clear HA
 simp only[sample_reader_blanks.l0] at H
 by_cases c2:x1001_1<(s0_0.size:Int)
 ·rw[if_pos c2] at H
  have c2b0:=decide_eq_true c2
  clear c2
  replace H:=ifn_ H
  obtain⟨c3,H⟩:=H
  have c3b0:decide (0≤x1001_1)=true:=decide_eq_true c3
  clear c3
  by_cases c5:(bt s0_0 x1001_1)=32
  ·rw[if_pos c5] at H
   have c5b0:((bt s0_0 x1001_1)==32)=true:=beq_iff_eq.mpr c5
   have c5b1:((bt s0_0 x1001_1) !=32)=false:=bne_eq_false_iff_eq.mpr c5
   clear c5
   have H':=Aside0.mk H
   clear H
   obtain⟨hcz6_0,hcz6_1,hfz6_0,hfz6_1⟩:=cs63_ HI0
   have p4:0≤(x1001_1:Int):=od_
   have q4:x1001_1<(s0_0.size:Int):=od_
   have hx4:=bt_at s0_0 x1001_1
   replace p4:=eq_true p4
   replace q4:=eq_true q4
   go_wp2
   repeat(go_quiet (fail);try go_wp2)
   go_roundg k1
   case measure=>have:=HK1.out;omega
   case rel=>exact⟨(wrap64 (x1001_1+1)),H',⟨by have:=HK1.out;omega⟩,⟨is63_ HI0⟩,⟨kp_ HK⟩,⟨bs63_ HB HI0⟩⟩
  rw[if_neg c5] at H
  have c5b0:((bt s0_0 x1001_1)==32)=false:=beq_eq_false_iff_ne.mpr c5
  have c5b1:((bt s0_0 x1001_1) !=32)=true:=bne_iff_ne.mpr c5
  simp only[Option.some.injEq,Prod.mk.injEq] at H
  obtain⟨rfl,rfl⟩:=H
  obtain⟨hcz7_0,hcz7_1,hfz7_0,hfz7_1⟩:=cs63_ HI0
  have p4:0≤(x1001_1:Int):=od_
  have q4:x1001_1<(s0_0.size:Int):=od_
  have hx4:=bt_at s0_0 x1001_1
  replace p4:=eq_true p4
  replace q4:=eq_true q4
  go_wp2
  repeat(go_quiet (fail);try go_wp2)
  first|go_end0|((try simp only[Exit.inBlock,Exit.then]);refine bodyPost_ret (results_none rfl _ _ _) rfl ?_)
  exact⟨ew_,is63_ HI0,bs63_ HB HI0,kp_ HK⟩
 rw[if_neg c2] at H
 have c2b0:=decide_eq_false c2
 clear c2
 simp only[Option.some.injEq,Prod.mk.injEq] at H
 obtain⟨rfl,rfl⟩:=H
 obtain⟨hcz8_0,hcz8_1,hfz8_0,hfz8_1⟩:=cs63_ HI0
 go_wp2
 repeat(go_quiet (fail);try go_wp2)
 first|go_end0|((try simp only[Exit.inBlock,Exit.then]);refine bodyPost_ret (results_none rfl _ _ _) rfl ?_)
 exact⟨ew_,is63_ HI0,bs63_ HB HI0,kp_ HK⟩

/-! ### stringslite_HasPrefix: function 48 -/
def stringslite_HasPrefix.f (a0:ByteArray) (a1:ByteArray):Option (Bool):=if (a0.size:Int)≥(a1.size:Int) then (if 0≤(a1.size:Int) then (if (a1.size:Int)≤(a0.size:Int) then (some ((a0.extract 0 ((a1.size:Int):Int).toNat).toList==a1.toList)) else (none)) else (none)) else (some false)
set_option maxHeartbeats 64000000 in
set_option maxRecDepth 100000 in
theorem stringslite_HasPrefix.calls (a0:ByteArray) (a1:ByteArray) (r:Bool) (w:World) (h:stringslite_HasPrefix.f a0 a1=some r) :
    Calls Tryd.prog 48 #[.string a0,.string a1] w fun e w'=>e= .returned (.bool r)∧Drawn0 w w':=by
  have H:=h
  clear h
  unfold stringslite_HasPrefix.f at H
  by_cases c3:(a0.size:Int)≥(a1.size:Int)
  · rw[if_pos c3] at H
    have c3b0:decide ((a1.size:Int)≤(a0.size:Int))=true:=decide_eq_true c3
    have c3b1:decide (a1.size≤a0.size)=true:=decide_eq_true (Int.ofNat_le.mp c3)
    clear c3
    replace H:=ifn_ H
    obtain⟨c4,H⟩:=H
    have c4b0:=eq_true c4
    have c4b1:decide (0≤(a1.size:Int))=true:=decide_eq_true c4
    clear c4
    replace H:=ifn_ H
    obtain⟨c5,H⟩:=H
    have c5b0:=eq_true c5
    have c5b1:decide ((a1.size:Int)≤(a0.size:Int))=true:=decide_eq_true c5
    clear c5
    obtain rfl:=Option.some.inj H
    go_enter Tryd.func48,Tryd.ntmps48
    go_wp2
    go_ret
    exact⟨by first|rfl|(simp;done)|(simp[*];done)|(simp;first|exact given_isEmpty _|exact(given_isEmpty _).symm)|(unfold wrap64;omega)|(congr 1;unfold wrap64;omega),by repeat(first|exact Drawn0.refl _|apply Drawn0.step)⟩
  rw[if_neg c3] at H
  have c3b0:decide ((a1.size:Int)≤(a0.size:Int))=false:=decide_eq_false c3
  have c3b1:decide (a1.size≤a0.size)=false:=decide_eq_false (fun h=>c3 (Int.ofNat_le.mpr h))
  clear c3
  obtain rfl:=Option.some.inj H
  go_enter Tryd.func48,Tryd.ntmps48
  go_wp2
  go_ret
  exact⟨by first|rfl|(simp;done)|(simp[*];done)|(simp;first|exact given_isEmpty _|exact(given_isEmpty _).symm)|(unfold wrap64;omega)|(congr 1;unfold wrap64;omega),by repeat(first|exact Drawn0.refl _|apply Drawn0.step)⟩

/-! ### strings_HasPrefix: function 39 -/
def strings_HasPrefix.f (a0:ByteArray) (a1:ByteArray):Option (Bool):=(stringslite_HasPrefix.f a0 a1).bind fun t101=>(some t101)
set_option maxHeartbeats 64000000 in
set_option maxRecDepth 100000 in
theorem strings_HasPrefix.calls (a0:ByteArray) (a1:ByteArray) (r:Bool) (w:World) (h:strings_HasPrefix.f a0 a1=some r) :
    Calls Tryd.prog 39 #[.string a0,.string a1] w fun e w'=>e= .returned (.bool r)∧Drawn0 w w':=by
  have H:=h
  clear h
  unfold strings_HasPrefix.f at H
  replace H:=Option.bind_eq_some_iff.mp H
  obtain⟨t101,A30,H⟩:=H
  have A3:=Aside0.mk A30
  clear A30
  obtain rfl:=Option.some.inj H
  go_enter Tryd.func39,Tryd.ntmps39
  go_wp2_with (first|((with_reducible refine gate_callee (f:=48) rfl ?_);refine gl_ (some 7) Tryd.func48 #[.string a0,.string a1] ?_;(with_reducible refine(stringslite_HasPrefix.calls _ _ _ _ A3.out).mono ?_);rintro e w' ⟨rfl,⟨nd,rfl⟩⟩;refine⟨_,rfl,?_⟩))
  go_ret
  exact⟨by first|rfl|(simp;done)|(simp[*];done)|(simp;first|exact given_isEmpty _|exact(given_isEmpty _).symm)|(unfold wrap64;omega)|(congr 1;unfold wrap64;omega),by repeat(first|exact Drawn0.refl _|apply Drawn0.step)⟩

/-! ### sample_reader_take: function 26 -/
def sample_reader_take.f (k:Nat) (s0_0:ByteArray) (s0_1:Int) (a1:ByteArray):Option (Bool × ByteArray × Int):=(sample_reader_blanks.f k s0_0 s0_1).bind fun bt102=>(if 0≤bt102.2 then (if bt102.2≤(bt102.1.size:Int) then ((strings_HasPrefix.f (bt102.1.extract (bt102.2:Int).toNat bt102.1.size) a1).bind fun t104=>(if t104=true then (some (true,bt102.1,wrap64 (bt102.2+(a1.size:Int)))) else (some (false,bt102.1,bt102.2)))) else (none)) else (none))
set_option maxHeartbeats 64000000 in
set_option maxRecDepth 100000 in
theorem sample_reader_take.calls (k:Nat) (g:Nat) (s0_0:ByteArray) (s0_1:Int) (a1:ByteArray) (r1:Bool) (r2:ByteArray) (r3:Int) (w0 w:World) (hI:IsS63 w0 w g s0_0 s0_1) (hB:Below w0.heap.size w0 w) (h:sample_reader_take.f k s0_0 s0_1 a1=some (r1,r2,r3)) :
  Calls Tryd.prog 26 #[.pointer (some ⟨g,0,none⟩),.string a1] w fun e w'=>e= .returned (.bool r1)∧IsS63 w0 w' g r2 r3∧Below w0.heap.size w0 w'∧KeepBut w w' g none:=by
 have HI0:=Aside0.mk hI
 have HK:=Aside0.mk (KeepBut.refl w g none)
 have HL:=Aside0.mk hB.size
 clear hI
 have HW0:=Aside0.mk hB.size
 have HB:=Aside0.mk hB
 clear hB
 have H:=h
 clear h
 unfold sample_reader_take.f at H
 replace H:=Option.bind_eq_some_iff.mp H
 obtain⟨⟨t102,t103⟩,A30,H⟩:=H
 dsimp only at H
 have A3:=Aside0.mk A30
 clear A30
 replace H:=ifn_ H
 obtain⟨c4,H⟩:=H
 have c4b0:=eq_true c4
 have c4b1:decide (0≤t103)=true:=decide_eq_true c4
 clear c4
 replace H:=ifn_ H
 obtain⟨c5,H⟩:=H
 have c5b0:=eq_true c5
 have c5b1:decide (t103≤(t102.size:Int))=true:=decide_eq_true c5
 clear c5
 replace H:=Option.bind_eq_some_iff.mp H
 obtain⟨t104,A60,H⟩:=H
 have A6:=Aside0.mk A60
 clear A60
 by_cases c7:t104=true
 ·subst c7
  rw[if_pos rfl] at H
  simp only[Option.some.injEq,Prod.mk.injEq] at H
  obtain⟨rfl,rfl,rfl⟩:=H
  go_enter Tryd.func26,Tryd.ntmps26
  go_wp2_with (first|(go_at_call 17;(with_reducible refine(sample_reader_blanks.calls _ _ _ _ _ _ w0 _ ?side1 ?side2 A3.out).mono ?_);(case side1=>exact is63_ HI0);(case side2=>exact bs63_ HB HI0);rintro e w8 ⟨rfl,hi,hb,hk⟩;replace HK:=Aside0.mk (KeepBut.trans (kp_ HK) hk (.inl rfl));replace HB:=Aside0.mk (hb);replace HI0:=Aside0.mk (hi);(try clear hb);(try clear hk);(try clear hi);obtain⟨hcz9_0,hcz9_1,hfz9_0,hfz9_1⟩:=cs63_ HI0)|(go_at_call 39;(with_reducible refine(strings_HasPrefix.calls _ _ _ _ A6.out).mono ?_);rintro e w' ⟨rfl,⟨nd,rfl⟩⟩;(try first|exact⟨rfl,_,World.drewN_drewN _ _ _⟩|exact⟨rfl,_,Eq.trans (World.drewN_drewN _ _ _) (congrArg (World.drewN _) (Nat.add_assoc _ _ _))⟩)))
  repeat(go_quiet (first|(go_at_call 17;(with_reducible refine(sample_reader_blanks.calls _ _ _ _ _ _ w0 _ ?side1 ?side2 A3.out).mono ?_);(case side1=>exact is63_ HI0);(case side2=>exact bs63_ HB HI0);rintro e w8 ⟨rfl,hi,hb,hk⟩;replace HK:=Aside0.mk (KeepBut.trans (kp_ HK) hk (.inl rfl));replace HB:=Aside0.mk (hb);replace HI0:=Aside0.mk (hi);(try clear hb);(try clear hk);(try clear hi);obtain⟨hcz9_0,hcz9_1,hfz9_0,hfz9_1⟩:=cs63_ HI0)|(go_at_call 39;(with_reducible refine(strings_HasPrefix.calls _ _ _ _ A6.out).mono ?_);rintro e w' ⟨rfl,⟨nd,rfl⟩⟩;(try first|exact⟨rfl,_,World.drewN_drewN _ _ _⟩|exact⟨rfl,_,Eq.trans (World.drewN_drewN _ _ _) (congrArg (World.drewN _) (Nat.add_assoc _ _ _))⟩)));try go_wp2_with (first|(go_at_call 17;(with_reducible refine(sample_reader_blanks.calls _ _ _ _ _ _ w0 _ ?side1 ?side2 A3.out).mono ?_);(case side1=>exact is63_ HI0);(case side2=>exact bs63_ HB HI0);rintro e w8 ⟨rfl,hi,hb,hk⟩;replace HK:=Aside0.mk (KeepBut.trans (kp_ HK) hk (.inl rfl));replace HB:=Aside0.mk (hb);replace HI0:=Aside0.mk (hi);(try clear hb);(try clear hk);(try clear hi);obtain⟨hcz9_0,hcz9_1,hfz9_0,hfz9_1⟩:=cs63_ HI0)|(go_at_call 39;(with_reducible refine(strings_HasPrefix.calls _ _ _ _ A6.out).mono ?_);rintro e w' ⟨rfl,⟨nd,rfl⟩⟩;(try first|exact⟨rfl,_,World.drewN_drewN _ _ _⟩|exact⟨rfl,_,Eq.trans (World.drewN_drewN _ _ _) (congrArg (World.drewN _) (Nat.add_assoc _ _ _))⟩))))
  go_ret
  exact⟨ew_,is63_ HI0,bs63_ HB HI0,kp_ HK⟩
 replace c7:=Bool.eq_false_iff.mpr c7
 subst c7
 rw[if_neg (show ¬(false=true) by decide)] at H
 simp only[Option.some.injEq,Prod.mk.injEq] at H
 obtain⟨rfl,rfl,rfl⟩:=H
 go_enter Tryd.func26,Tryd.ntmps26
 go_wp2_with (first|(go_at_call 17;(with_reducible refine(sample_reader_blanks.calls _ _ _ _ _ _ w0 _ ?side1 ?side2 A3.out).mono ?_);(case side1=>exact is63_ HI0);(case side2=>exact bs63_ HB HI0);rintro e w10 ⟨rfl,hi,hb,hk⟩;replace HK:=Aside0.mk (KeepBut.trans (kp_ HK) hk (.inl rfl));replace HB:=Aside0.mk (hb);replace HI0:=Aside0.mk (hi);(try clear hb);(try clear hk);(try clear hi);obtain⟨hcz11_0,hcz11_1,hfz11_0,hfz11_1⟩:=cs63_ HI0)|(go_at_call 39;(with_reducible refine(strings_HasPrefix.calls _ _ _ _ A6.out).mono ?_);rintro e w' ⟨rfl,⟨nd,rfl⟩⟩;(try first|exact⟨rfl,_,World.drewN_drewN _ _ _⟩|exact⟨rfl,_,Eq.trans (World.drewN_drewN _ _ _) (congrArg (World.drewN _) (Nat.add_assoc _ _ _))⟩)))
 repeat(go_quiet (first|(go_at_call 17;(with_reducible refine(sample_reader_blanks.calls _ _ _ _ _ _ w0 _ ?side1 ?side2 A3.out).mono ?_);(case side1=>exact is63_ HI0);(case side2=>exact bs63_ HB HI0);rintro e w10 ⟨rfl,hi,hb,hk⟩;replace HK:=Aside0.mk (KeepBut.trans (kp_ HK) hk (.inl rfl));replace HB:=Aside0.mk (hb);replace HI0:=Aside0.mk (hi);(try clear hb);(try clear hk);(try clear hi);obtain⟨hcz11_0,hcz11_1,hfz11_0,hfz11_1⟩:=cs63_ HI0)|(go_at_call 39;(with_reducible refine(strings_HasPrefix.calls _ _ _ _ A6.out).mono ?_);rintro e w' ⟨rfl,⟨nd,rfl⟩⟩;(try first|exact⟨rfl,_,World.drewN_drewN _ _ _⟩|exact⟨rfl,_,Eq.trans (World.drewN_drewN _ _ _) (congrArg (World.drewN _) (Nat.add_assoc _ _ _))⟩)));try go_wp2_with (first|(go_at_call 17;(with_reducible refine(sample_reader_blanks.calls _ _ _ _ _ _ w0 _ ?side1 ?side2 A3.out).mono ?_);(case side1=>exact is63_ HI0);(case side2=>exact bs63_ HB HI0);rintro e w10 ⟨rfl,hi,hb,hk⟩;replace HK:=Aside0.mk (KeepBut.trans (kp_ HK) hk (.inl rfl));replace HB:=Aside0.mk (hb);replace HI0:=Aside0.mk (hi);(try clear hb);(try clear hk);(try clear hi);obtain⟨hcz11_0,hcz11_1,hfz11_0,hfz11_1⟩:=cs63_ HI0)|(go_at_call 39;(with_reducible refine(strings_HasPrefix.calls _ _ _ _ A6.out).mono ?_);rintro e w' ⟨rfl,⟨nd,rfl⟩⟩;(try first|exact⟨rfl,_,World.drewN_drewN _ _ _⟩|exact⟨rfl,_,Eq.trans (World.drewN_drewN _ _ _) (congrArg (World.drewN _) (Nat.add_assoc _ _ _))⟩))))
 go_ret
 exact⟨ew_,is63_ HI0,bs63_ HB HI0,kp_ HK⟩

/-! ### num_Is: function 21 -/
def num_Is.l0:Nat→ByteArray→Int→Int→Option (Bool)
 | 0,_,_,_=>none
 | k+1,x0,x5,x6=>if x6<x5 then (if 0≤x6 then (if x6<(x0.size:Int) then (if (bt x0 x6)<48 then (some false) else (if (bt x0 x6)>57 then (some false) else (num_Is.l0 k x0 x5 (wrap64 (x6+1))))) else (none)) else (none)) else (some true)
def num_Is.f (k:Nat) (a0:ByteArray):Option (Bool):=num_Is.l0 k a0 (a0.size:Int) 0
set_option maxHeartbeats 64000000 in
set_option maxRecDepth 100000 in
theorem num_Is.calls (k:Nat) (a0:ByteArray) (r:Bool) (w:World) (h:num_Is.f k a0=some r) :
  Calls Tryd.prog 21 #[.string a0] w fun e w'=>e= .returned (.bool r)∧Drawn0 w w':=by
 have H:=h
 clear h
 unfold num_Is.f at H
 have H':=Aside0.mk H
 clear H
 go_enter Tryd.func21,Tryd.ntmps21
 go_wp2
 go_loopg [6] k (fun kq v6 w'=>∃(x6_1:Int),v6= .int .i64 x6_1∧Aside0 (num_Is.l0 kq a0 (a0.size:Int) x6_1=some r)∧Aside0 (kq≤k)∧Drawn0 w w')
 case atStart=>exact⟨(0),eq_,H',⟨Nat.le_refl _⟩,by repeat(first|exact Drawn0.refl _|apply Drawn0.step)⟩
 clear H'
 obtain⟨x6_1,rfl,HA,HK1,⟨m1,rfl⟩⟩:=hrel
 cases gk with
 | zero=>exact absurd HA.out (by simp[num_Is.l0])
 | succ k1=>?_
 have H:=HA.out
 clear HA
 simp only[num_Is.l0] at H
 by_cases c2:x6_1<(a0.size:Int)
 ·rw[if_pos c2] at H
  have c2b0:=decide_eq_true c2
  clear c2
  replace H:=ifn_ H
  obtain⟨c3,H⟩:=H
  have c3b0:decide (0≤x6_1)=true:=decide_eq_true c3
  clear c3
  replace H:=ifn_ H
  obtain⟨c4,H⟩:=H
  have c4b0:decide (x6_1<(a0.size:Int))=true:=decide_eq_true c4
  clear c4
  by_cases c6:(bt a0 x6_1)<48
  ·rw[if_pos c6] at H
   have c6b0:=decide_eq_true c6
   clear c6
   obtain rfl:=Option.some.inj H
   have p5:0≤(x6_1:Int):=od_
   have q5:x6_1<(a0.size:Int):=od_
   have hx5:=bt_at a0 x6_1
   replace p5:=eq_true p5
   replace q5:=eq_true q5
   go_wp2
   go_ret
   exact⟨by first|rfl|(simp;done)|(simp[*];done)|(simp;first|exact given_isEmpty _|exact(given_isEmpty _).symm)|(unfold wrap64;omega)|(congr 1;unfold wrap64;omega),by repeat(first|exact Drawn0.refl _|apply Drawn0.step)⟩
  rw[if_neg c6] at H
  have c6b0:=decide_eq_false c6
  clear c6
  by_cases c8:(bt a0 x6_1)>57
  ·rw[if_pos c8] at H
   have c8b0:decide (57<(bt a0 x6_1))=true:=decide_eq_true c8
   clear c8
   obtain rfl:=Option.some.inj H
   have p5:0≤(x6_1:Int):=od_
   have q5:x6_1<(a0.size:Int):=od_
   have hx5:=bt_at a0 x6_1
   replace p5:=eq_true p5
   replace q5:=eq_true q5
   have p7:0≤(x6_1:Int):=od_
   have q7:x6_1<(a0.size:Int):=od_
   have hx7:=bt_at a0 x6_1
   replace p7:=eq_true p7
   replace q7:=eq_true q7
   go_wp2
   go_ret
   exact⟨by first|rfl|(simp;done)|(simp[*];done)|(simp;first|exact given_isEmpty _|exact(given_isEmpty _).symm)|(unfold wrap64;omega)|(congr 1;unfold wrap64;omega),by repeat(first|exact Drawn0.refl _|apply Drawn0.step)⟩
  rw[if_neg c8] at H
  have c8b0:decide (57<(bt a0 x6_1))=false:=decide_eq_false c8
  clear c8
  have H':=Aside0.mk H
  clear H
  have p5:0≤(x6_1:Int):=od_
  have q5:x6_1<(a0.size:Int):=od_
  have hx5:=bt_at a0 x6_1
  replace p5:=eq_true p5
  replace q5:=eq_true q5
  have p7:0≤(x6_1:Int):=od_
  have q7:x6_1<(a0.size:Int):=od_
  have hx7:=bt_at a0 x6_1
  replace p7:=eq_true p7
  replace q7:=eq_true q7
  go_wp2
  go_roundg k1
  case measure=>have:=HK1.out;omega
  case rel=>exact⟨(wrap64 (x6_1+1)),eq_,H',⟨by have:=HK1.out;omega⟩,by repeat(first|exact Drawn0.refl _|apply Drawn0.step)⟩
 rw[if_neg c2] at H
 have c2b0:=decide_eq_false c2
 clear c2
 obtain rfl:=Option.some.inj H
 go_wp2
 go_ret
 exact⟨by first|rfl|(simp;done)|(simp[*];done)|(simp;first|exact given_isEmpty _|exact(given_isEmpty _).symm)|(unfold wrap64;omega)|(congr 1;unfold wrap64;omega),by repeat(first|exact Drawn0.refl _|apply Drawn0.step)⟩

/-! ### strings_TrimLeft: function 46 -/
def strings_TrimLeft.f (a b:ByteArray):Option ByteArray:=if h:b.size=1 then (if (b[0]'(by omega)).toNat<128 then some ⟨(Lib.trimLeftB a.data.toList (b[0]'(by omega))).toArray⟩ else none) else none
theorem strings_TrimLeft.one (b:ByteArray) (h:b.size=1):b=⟨#[b[0]'(by omega)]⟩:=by
  obtain⟨d⟩:=b
  have hd:d.size=1:=h
  congr 1
  apply Array.ext
  · exact hd
  · intro i h1 h2
    have:i=0:=by omega
    subst this
    rfl
theorem strings_TrimLeft.calls (a0 a1:ByteArray) (r:ByteArray) (w:World) (h:strings_TrimLeft.f a0 a1=some r) :
    Calls Tryd.prog 46 #[.string a0,.string a1] w fun e w'=>e= .returned (.string r)∧Drawn0 w w':=by
  unfold strings_TrimLeft.f at h
  split at h
  · rename_i h1
    split at h
    · rename_i hc
      obtain rfl:=Option.some.inj h
      have c:=Tryd.strings_TrimLeft_one a0 (a1[0]'(by omega)) hc w
      rw[← strings_TrimLeft.one a1 h1] at c
      refine c.mono ?_
      rintro e w' ⟨rfl,rfl⟩
      exact⟨rfl,Drawn0.refl _⟩
    · cases h
  · cases h

/-! ### num_Trim: function 35 -/
def num_Trim.f (k:Nat) (a0:ByteArray):Option (ByteArray):=(num_Is.f k a0).bind fun t105=>(if t105=true then ((strings_TrimLeft.f a0 (⟨#[48]⟩:ByteArray)).bind fun t106=>(some t106)) else (some (⟨#[]⟩:ByteArray)))
set_option maxHeartbeats 64000000 in
set_option maxRecDepth 100000 in
theorem num_Trim.calls (k:Nat) (a0:ByteArray) (r:ByteArray) (w:World) (h:num_Trim.f k a0=some r) :
    Calls Tryd.prog 35 #[.string a0] w fun e w'=>e= .returned (.string r)∧Drawn0 w w':=by
  have H:=h
  clear h
  unfold num_Trim.f at H
  replace H:=Option.bind_eq_some_iff.mp H
  obtain⟨t105,A20,H⟩:=H
  have A2:=Aside0.mk A20
  clear A20
  by_cases c3:t105=true
  · subst c3
    rw[if_pos rfl] at H
    replace H:=Option.bind_eq_some_iff.mp H
    obtain⟨t106,A40,H⟩:=H
    have A4:=Aside0.mk A40
    clear A40
    obtain rfl:=Option.some.inj H
    go_enter Tryd.func35,Tryd.ntmps35
    go_wp2_with (first|((with_reducible refine gate_callee (f:=21) rfl ?_);refine gl_ (some 4) Tryd.func21 #[.string a0] ?_;(with_reducible refine(num_Is.calls _ _ _ _ A2.out).mono ?_);rintro e w' ⟨rfl,⟨nd,rfl⟩⟩;refine⟨_,rfl,?_⟩)|((with_reducible refine gate_callee (f:=46) rfl ?_);refine gl_ (some 7) Tryd.func46 #[.string a0,.string (⟨#[48]⟩:ByteArray)] ?_;(with_reducible refine(strings_TrimLeft.calls _ _ _ _ A4.out).mono ?_);rintro e w' ⟨rfl,⟨nd,rfl⟩⟩;refine⟨_,rfl,?_⟩))
    go_ret
    exact⟨by first|rfl|(simp;done)|(simp[*];done)|(simp;first|exact given_isEmpty _|exact(given_isEmpty _).symm)|(unfold wrap64;omega)|(congr 1;unfold wrap64;omega),by repeat(first|exact Drawn0.refl _|apply Drawn0.step)⟩
  replace c3:=Bool.eq_false_iff.mpr c3
  subst c3
  rw[if_neg (show ¬(false=true) by decide)] at H
  obtain rfl:=Option.some.inj H
  go_enter Tryd.func35,Tryd.ntmps35
  go_wp2_with (first|((with_reducible refine gate_callee (f:=21) rfl ?_);refine gl_ (some 4) Tryd.func21 #[.string a0] ?_;(with_reducible refine(num_Is.calls _ _ _ _ A2.out).mono ?_);rintro e w' ⟨rfl,⟨nd,rfl⟩⟩;refine⟨_,rfl,?_⟩))
  go_ret
  exact⟨by first|rfl|(simp;done)|(simp[*];done)|(simp;first|exact given_isEmpty _|exact(given_isEmpty _).symm)|(unfold wrap64;omega)|(congr 1;unfold wrap64;omega),by repeat(first|exact Drawn0.refl _|apply Drawn0.step)⟩

/-! ### num_Int: function 22 -/
theorem num_Int.below_bytes (B:Nat) (w W:World) (u:ByteArray) (h:Below B w W) (hB:B≤W.heap.size):Below B w (Lib.bytesWorld W 5 u) :=
  h.trans ⟨rfl,rfl,rfl,by rw[Lib.bytesWorld_size];omega,fun k hk=>Lib.bytesWorld_at_old _ _ _ k (by omega)⟩
theorem num_Int.ret_ {k:IntKind} {a b:Int} (h:a=b):Value.int k a= .int k b:=by rw[h]
def num_Int.step (n:Int) (c:UInt8):Int:=wrap64 (wrap64 (10*n)+((c.toNat:Int)-48)%256)
def num_Int.go (l:List UInt8):Int:=l.foldl num_Int.step 0
theorem num_Int.go_take (s:ByteArray) (k:Nat) (h:k<s.size):num_Int.go (s.data.toList.take (k+1))=num_Int.step (num_Int.go (s.data.toList.take k)) (s.data.toList.getD k 0):=by
  unfold num_Int.go
  have h':k<s.data.toList.length:=by simpa using h
  rw[List.take_succ_eq_append_getElem h',List.foldl_append]
  simp only[List.foldl_cons,List.foldl_nil,List.getD_eq_getElem?_getD,List.getElem?_eq_getElem h',Option.getD_some]
def num_Int.f (k:Nat) (a0:ByteArray):Option (Int × Bool):=(num_Is.f k a0).bind fun t=>if t=true then (num_Trim.f k a0).bind fun u=>(if 18<u.size then some (0,false) else some (num_Int.go u.data.toList,true)) else some (0,false)
set_option maxHeartbeats 1000000 in
theorem num_Int.calls (k:Nat) (a0:ByteArray) (r1:Int) (r2:Bool) (w:World) (h:num_Int.f k a0=some (r1,r2)) :
    Calls Tryd.prog 22 #[.string a0] w fun e w'=>e= .returned (.tuple #[.int .i64 r1,.bool r2])∧Below w.heap.size w w':=by
  unfold num_Int.f at h
  replace h:=Option.bind_eq_some_iff.mp h
  obtain⟨t,h1,h⟩:=h
  have h1':=Aside0.mk h1
  clear h1
  cases t with
  | false =>
    rw[if_neg (by decide)] at h
    simp only[Option.some.injEq,Prod.mk.injEq] at h
    obtain⟨rfl,rfl⟩:=h
    go_enter Tryd.func22,Tryd.ntmps22
    go_wp2_with (go_at_call 21;refine(num_Is.calls k a0 _ _ h1'.out).mono ?_;rintro e w' ⟨rfl,⟨m,rfl⟩⟩)
    go_ret2
    exact⟨rfl,pw_below_drewN (Below.refl _ _) m⟩
  | true =>
    rw[if_pos rfl] at h
    replace h:=Option.bind_eq_some_iff.mp h
    obtain⟨u,h2,h⟩:=h
    have h2':=Aside0.mk h2
    clear h2
    by_cases h18:18<u.size
    · rw[if_pos h18] at h
      simp only[Option.some.injEq,Prod.mk.injEq] at h
      obtain⟨rfl,rfl⟩:=h
      have d18:decide ((18:Int)<(u.size:Int))=true:=decide_eq_true (by omega)
      clear h18
      go_enter Tryd.func22,Tryd.ntmps22
      go_wp2_with (first|(go_at_call 21;refine(num_Is.calls k a0 _ _ h1'.out).mono ?_;rintro e w' ⟨rfl,⟨m,rfl⟩⟩)|(go_at_call 35;refine(num_Trim.calls k a0 _ _ h2'.out).mono ?_;rintro e w' ⟨rfl,⟨m,rfl⟩⟩))
      go_ret2
      exact⟨rfl,by repeat(first|exact Below.refl _ _|apply pw_below_drewN)⟩
    · rw[if_neg h18] at h
      simp only[Option.some.injEq,Prod.mk.injEq] at h
      obtain⟨rfl,rfl⟩:=h
      have d18:decide ((18:Int)<(u.size:Int))=false:=decide_eq_false (by omega)
      clear h18
      have hcv:=fun w:World=>Lib.run_convert_string_bytes (P:=Tryd.prog) w 9 87 5 u Tryd.underlying9 Tryd.underlying87 Tryd.underlying5
      go_enter Tryd.func22,Tryd.ntmps22
      go_wp2_with (first|(go_at_call 21;refine(num_Is.calls k a0 _ _ h1'.out).mono ?_;rintro e w' ⟨rfl,⟨m,rfl⟩⟩)|(go_at_call 35;refine(num_Trim.calls k a0 _ _ h2'.out).mono ?_;rintro e w' ⟨rfl,⟨m',rfl⟩⟩))
      have hu:u.size≤18:=by have:=of_decide_eq_false d18;omega
      rename_i q _ _
      obtain⟨W,hW⟩:∃W,Lib.bytesWorld (w.drewN (m+q+m')) 5 u=W:=⟨_,rfl⟩
      have hcell:∀j,j<u.size→W.cell? ⟨w.heap.size,j,none⟩=some (.int .u8 (u.data.toList.getD j 0).toNat):=by
        intro j hj
        rw[← hW]
        exact Lib.bytesWorld_cell (w.drewN _) 5 u j hj
      have hB:Below w.heap.size w W:=by
        rw[← hW]
        exact num_Int.below_bytes _ _ _ _ (pw_below_drewN (Below.refl _ _) _) (Nat.le_refl _)
      rw[hW]
      clear hW hcv d18
      go_loop [4,20] (fun n i=>∃j:Nat,j≤u.size∧i= .int .i64 j∧n= .int .i64 (num_Int.go (u.data.toList.take j))) (fun _ i=>u.size-(intOf i).toNat)
      case atStart=>exact⟨0,Nat.zero_le _,rfl,rfl⟩
      case round =>
        obtain⟨j,hj,rfl,rfl⟩:=hrel
        by_cases hlt:j<u.size
        · have hc:=hcell j hlt
          have hg:=Aside0.mk (num_Int.go_take u j hlt)
          obtain⟨c,hcc⟩:∃c:UInt8,u.data.toList.getD j 0=c:=⟨_,rfl⟩
          rw[hcc] at hc hg
          clear hcc
          have hd:decide (j<u.size)=true:=decide_eq_true hlt
          have hHB:=Aside0.mk hB
          have hlt':=Aside0.mk hlt
          clear hcell hB hd
          go_wp2
          go_round
          case rel=>exact⟨j+1,by have:=hlt'.out;omega,by have:=hlt'.out;go_num,by rw[hg.out];exact num_Int.ret_ (by unfold num_Int.step;try simp only[i64_w])⟩
          case measure=>have:=hlt'.out;simp[intOf];omega
        · have hHB:=Aside0.mk hB
          clear hcell hB
          go_wp2
          go_ret2
          exact⟨by rw[List.take_of_length_le (by simp;omega)];rfl,hHB.out⟩

/-! ### stringslite_Index: function 63 -/
def stringslite_Index.f (a b:ByteArray):Option Int:=if h:b.size=1 then some (Lib.indexByte a.data.toList (b[0]'(by omega))) else none
theorem stringslite_Index.one (b:ByteArray) (h:b.size=1):b=⟨#[b[0]'(by omega)]⟩:=by
  obtain⟨d⟩:=b
  have hd:d.size=1:=h
  congr 1
  apply Array.ext
  · exact hd
  · intro i h1 h2
    have:i=0:=by omega
    subst this
    rfl
theorem stringslite_Index.calls (a0 a1:ByteArray) (r:Int) (w:World) (h:stringslite_Index.f a0 a1=some r) :
    Calls Tryd.prog 63 #[.string a0,.string a1] w fun e w'=>e= .returned (.int .i64 r)∧Drawn0 w w':=by
  unfold stringslite_Index.f at h
  split at h
  · rename_i h1
    obtain rfl:=Option.some.inj h
    have c:=Tryd.stringslite_Index_one a0 (a1[0]'(by omega)) w
    rw[← stringslite_Index.one a1 h1] at c
    refine c.mono ?_
    rintro e w' ⟨rfl,rfl⟩
    exact⟨rfl,Drawn0.refl _⟩
  · cases h

/-! ### stringslite_Cut: function 50 -/
def stringslite_Cut.f (a0:ByteArray) (a1:ByteArray):Option (ByteArray × ByteArray × Bool):=(stringslite_Index.f a0 a1).bind fun t107=>(if t107≥0 then (if 0≤t107 then (if t107≤(a0.size:Int) then (if 0≤(wrap64 (t107+(a1.size:Int))) then (if (wrap64 (t107+(a1.size:Int)))≤(a0.size:Int) then (some (a0.extract 0 (t107:Int).toNat,a0.extract ((wrap64 (t107+(a1.size:Int))):Int).toNat a0.size,true)) else (none)) else (none)) else (none)) else (none)) else (some (a0,(⟨#[]⟩:ByteArray),false)))
set_option maxHeartbeats 64000000 in
set_option maxRecDepth 100000 in
theorem stringslite_Cut.calls (a0:ByteArray) (a1:ByteArray) (r1:ByteArray) (r2:ByteArray) (r3:Bool) (w:World) (h:stringslite_Cut.f a0 a1=some (r1,r2,r3)) :
  Calls Tryd.prog 50 #[.string a0,.string a1] w fun e w'=>e= .returned (.tuple #[.string r1,.string r2,.bool r3])∧Drawn0 w w':=by
 have H:=h
 clear h
 unfold stringslite_Cut.f at H
 replace H:=Option.bind_eq_some_iff.mp H
 obtain⟨t107,A30,H⟩:=H
 have A3:=Aside0.mk A30
 clear A30
 by_cases c4:t107≥0
 ·rw[if_pos c4] at H
  have c4b0:decide (0≤t107)=true:=decide_eq_true c4
  clear c4
  replace H:=ifn_ H
  obtain⟨c5,H⟩:=H
  have c5b0:=eq_true c5
  have c5b1:decide (0≤t107)=true:=decide_eq_true c5
  clear c5
  replace H:=ifn_ H
  obtain⟨c6,H⟩:=H
  have c6b0:=eq_true c6
  have c6b1:decide (t107≤(a0.size:Int))=true:=decide_eq_true c6
  clear c6
  obtain⟨ji7,hji7⟩:∃j_:Int,(wrap64 (t107+(a1.size:Int)))=j_:=⟨_,rfl⟩
  replace H:(if 0≤(ji7) then (if (ji7)≤(a0.size:Int) then (some (a0.extract 0 (t107:Int).toNat,a0.extract ((ji7):Int).toNat a0.size,true)) else (none)) else (none))=some (r1,r2,r3):=by first|(rw[hji7] at H;exact H)|(simp only[hji7] at H ⊢;exact H)
  (try rw[hji7] at A3)
  have hji7w:(IntKind.i64.wrap (t107+(a1.size:Int)))=ji7:=(i64_w _).trans hji7
  replace H:=ifn_ H
  obtain⟨c8,H⟩:=H
  have c8b0:=eq_true c8
  have c8b1:decide (0≤(ji7))=true:=decide_eq_true c8
  clear c8
  replace H:=ifn_ H
  obtain⟨c9,H⟩:=H
  have c9b0:=eq_true c9
  have c9b1:decide ((ji7)≤(a0.size:Int))=true:=decide_eq_true c9
  clear c9
  simp only[Option.some.injEq,Prod.mk.injEq] at H
  obtain⟨rfl,rfl,rfl⟩:=H
  go_enter Tryd.func50,Tryd.ntmps50
  go_wp2_with (first|(go_at_call 63;(with_reducible refine(stringslite_Index.calls _ _ _ _ A3.out).mono ?_);rintro e w' ⟨rfl,⟨nd,rfl⟩⟩;(try first|exact⟨rfl,_,World.drewN_drewN _ _ _⟩|exact⟨rfl,_,Eq.trans (World.drewN_drewN _ _ _) (congrArg (World.drewN _) (Nat.add_assoc _ _ _))⟩)))
  repeat(go_quiet (first|(go_at_call 63;(with_reducible refine(stringslite_Index.calls _ _ _ _ A3.out).mono ?_);rintro e w' ⟨rfl,⟨nd,rfl⟩⟩;(try first|exact⟨rfl,_,World.drewN_drewN _ _ _⟩|exact⟨rfl,_,Eq.trans (World.drewN_drewN _ _ _) (congrArg (World.drewN _) (Nat.add_assoc _ _ _))⟩)));try go_wp2_with (first|(go_at_call 63;(with_reducible refine(stringslite_Index.calls _ _ _ _ A3.out).mono ?_);rintro e w' ⟨rfl,⟨nd,rfl⟩⟩;(try first|exact⟨rfl,_,World.drewN_drewN _ _ _⟩|exact⟨rfl,_,Eq.trans (World.drewN_drewN _ _ _) (congrArg (World.drewN _) (Nat.add_assoc _ _ _))⟩))))
  go_ret3
  exact⟨by first|rfl|(simp;done)|(simp only[← hji7] <;> (first|rfl|simp))|(simp[*];done),by repeat(first|exact Drawn0.refl _|apply Drawn0.step)⟩
 rw[if_neg c4] at H
 have c4b0:decide (0≤t107)=false:=decide_eq_false c4
 clear c4
 simp only[Option.some.injEq,Prod.mk.injEq] at H
 obtain⟨rfl,rfl,rfl⟩:=H
 go_enter Tryd.func50,Tryd.ntmps50
 go_wp2_with (first|(go_at_call 63;(with_reducible refine(stringslite_Index.calls _ _ _ _ A3.out).mono ?_);rintro e w' ⟨rfl,⟨nd,rfl⟩⟩;(try first|exact⟨rfl,_,World.drewN_drewN _ _ _⟩|exact⟨rfl,_,Eq.trans (World.drewN_drewN _ _ _) (congrArg (World.drewN _) (Nat.add_assoc _ _ _))⟩)))
 repeat(go_quiet (first|(go_at_call 63;(with_reducible refine(stringslite_Index.calls _ _ _ _ A3.out).mono ?_);rintro e w' ⟨rfl,⟨nd,rfl⟩⟩;(try first|exact⟨rfl,_,World.drewN_drewN _ _ _⟩|exact⟨rfl,_,Eq.trans (World.drewN_drewN _ _ _) (congrArg (World.drewN _) (Nat.add_assoc _ _ _))⟩)));try go_wp2_with (first|(go_at_call 63;(with_reducible refine(stringslite_Index.calls _ _ _ _ A3.out).mono ?_);rintro e w' ⟨rfl,⟨nd,rfl⟩⟩;(try first|exact⟨rfl,_,World.drewN_drewN _ _ _⟩|exact⟨rfl,_,Eq.trans (World.drewN_drewN _ _ _) (congrArg (World.drewN _) (Nat.add_assoc _ _ _))⟩))))
 go_ret3
 exact⟨by first|rfl|(simp;done)|(simp[*];done)|(simp;first|exact given_isEmpty _|exact(given_isEmpty _).symm)|(unfold wrap64;omega)|(congr 1;unfold wrap64;omega),by repeat(first|exact Drawn0.refl _|apply Drawn0.step)⟩

/-! ### strings_Cut: function 42 -/
def strings_Cut.f (a0:ByteArray) (a1:ByteArray):Option (ByteArray × ByteArray × Bool):=(stringslite_Cut.f a0 a1).bind fun bt108=>(some (bt108.1,bt108.2.1,bt108.2.2))
set_option maxHeartbeats 64000000 in
set_option maxRecDepth 100000 in
theorem strings_Cut.calls (a0:ByteArray) (a1:ByteArray) (r1:ByteArray) (r2:ByteArray) (r3:Bool) (w:World) (h:strings_Cut.f a0 a1=some (r1,r2,r3)) :
    Calls Tryd.prog 42 #[.string a0,.string a1] w fun e w'=>e= .returned (.tuple #[.string r1,.string r2,.bool r3])∧Drawn0 w w':=by
  have H:=h
  clear h
  unfold strings_Cut.f at H
  replace H:=Option.bind_eq_some_iff.mp H
  obtain⟨⟨t108,t109,t110⟩,A30,H⟩:=H
  dsimp only at H
  have A3:=Aside0.mk A30
  clear A30
  simp only[Option.some.injEq,Prod.mk.injEq] at H
  obtain⟨rfl,rfl,rfl⟩:=H
  go_enter Tryd.func42,Tryd.ntmps42
  go_wp2_with (first|((with_reducible refine gate_callee (f:=50) rfl ?_);refine gl_ (some 9) Tryd.func50 #[.string a0,.string a1] ?_;(with_reducible refine(stringslite_Cut.calls _ _ _ _ _ _ A3.out).mono ?_);rintro e w' ⟨rfl,⟨nd,rfl⟩⟩;refine⟨_,rfl,?_⟩))
  go_ret3
  exact⟨by first|rfl|(simp;done)|(simp[*];done)|(simp;first|exact given_isEmpty _|exact(given_isEmpty _).symm)|(unfold wrap64;omega)|(congr 1;unfold wrap64;omega),by repeat(first|exact Drawn0.refl _|apply Drawn0.step)⟩

/-! ### sample_plain: function 31 -/
def sample_plain.f (k:Nat) (a0:ByteArray):Option (ByteArray × Int × Bool):=(strings_Cut.f a0 (⟨#[46]⟩:ByteArray)).bind fun bt111=>(if bt111.1.size+bt111.2.1.size≤9223372036854775807 then ((num_Is.f k (bt111.1++bt111.2.1)).bind fun t114=>(some (bt111.1++bt111.2.1,(bt111.2.1.size:Int),t114))) else (none))
set_option maxHeartbeats 64000000 in
set_option maxRecDepth 100000 in
theorem sample_plain.calls (k:Nat) (a0:ByteArray) (r1:ByteArray) (r2:Int) (r3:Bool) (w:World) (h:sample_plain.f k a0=some (r1,r2,r3)) :
    Calls Tryd.prog 31 #[.string a0] w fun e w'=>e= .returned (.tuple #[.string r1,.int .i64 r2,.bool r3])∧Drawn0 w w':=by
  have H:=h
  clear h
  unfold sample_plain.f at H
  replace H:=Option.bind_eq_some_iff.mp H
  obtain⟨⟨t111,t112,t113⟩,A20,H⟩:=H
  dsimp only at H
  have A2:=Aside0.mk A20
  clear A20
  replace H:=ifn_ H
  obtain⟨c3,H⟩:=H
  have c3b0:=eq_true c3
  have c3b1:decide (t111.size+t112.size≤9223372036854775807)=true:=decide_eq_true c3
  try have c3b2:=eq_false (Nat.not_lt.2 c3)
  replace H:=Option.bind_eq_some_iff.mp H
  obtain⟨t114,A40,H⟩:=H
  have A4:=Aside0.mk A40
  clear A40
  simp only[Option.some.injEq,Prod.mk.injEq] at H
  obtain⟨rfl,rfl,rfl⟩:=H
  go_enter Tryd.func31,Tryd.ntmps31
  go_wp2_with (first|((with_reducible refine gate_callee (f:=42) rfl ?_);refine gl_ (some 10) Tryd.func42 #[.string a0,.string (⟨#[46]⟩:ByteArray)] ?_;(with_reducible refine(strings_Cut.calls _ _ _ _ _ _ A2.out).mono ?_);rintro e w' ⟨rfl,⟨nd,rfl⟩⟩;refine⟨_,rfl,?_⟩)|((with_reducible refine gate_callee (f:=21) rfl ?_);refine gl_ (some 22) Tryd.func21 #[.string (t111++t112)] ?_;(with_reducible refine(num_Is.calls _ _ _ _ A4.out).mono ?_);rintro e w' ⟨rfl,⟨nd,rfl⟩⟩;refine⟨_,rfl,?_⟩))
  go_ret3
  exact⟨by first|rfl|(simp;done)|(simp[*];done)|(simp;first|exact given_isEmpty _|exact(given_isEmpty _).symm)|(unfold wrap64;omega)|(congr 1;unfold wrap64;omega),by repeat(first|exact Drawn0.refl _|apply Drawn0.step)⟩

/-! ### num_text: function 38 -/
def num_text.l0:Nat→List Int→List Int→List Int→Int→Int→Option (ByteArray)
 | 0,_,_,_,_,_=>none
 | k+1,x0,x3,x9,x10,x11=>if x11<x10 then (if 0≤x11 then (if x11<(x9.length:Int) then (if 0≤(wrap64 ((wrap64 ((x0.length:Int)-1))-x11)) then (if (wrap64 ((wrap64 ((x0.length:Int)-1))-x11))<(x3.length:Int) then (num_text.l0 k x0 (x3.set ((wrap64 ((wrap64 ((x0.length:Int)-1))-x11)):Int).toNat (rd x9 x11)) x9 x10 (wrap64 (x11+1))) else (none)) else (none)) else (none)) else (none)) else ((num_Trim.f k (strOfNums x3)).bind fun t120=>(some t120))
def num_text.f (k:Nat) (l0:List Int):Option (ByteArray):=if 0≤(l0.length:Int) then (if ((l0.length:Int):Int).toNat≤281474976710656 then (num_text.l0 k l0 (List.replicate ((l0.length:Int):Int).toNat 0) l0 (l0.length:Int) 0) else (none)) else (none)
set_option maxHeartbeats 64000000 in
set_option maxRecDepth 100000 in
theorem num_text.calls (k:Nat) (A0:Option Addr) (c0:Nat) (l0:List Int) (r:ByteArray) (w:World) (hr0:Kd.C (Kd.int .u8) w A0 l0.length l0) (hc0:l0.length≤c0) (h:num_text.f k l0=some r) :
  Calls Tryd.prog 38 #[.slice A0 l0.length c0] w fun e w'=>e= .returned (.string r)∧Below w.heap.size w w':=by
 have HR0:=Aside0.mk hr0
 have HC0:=Aside0.mk hc0
 clear hr0 hc0
 have HB:=Aside0.mk (Below.refl w.heap.size w)
 have H:=h
 clear h
 unfold num_text.f at H
 replace H:=ifn_ H
 obtain⟨c2,H⟩:=H
 have c2b0:=eq_true c2
 have c2b1:decide (0≤(l0.length:Int))=true:=decide_eq_true c2
 clear c2
 replace H:=ifn_ H
 obtain⟨c3,H⟩:=H
 have c3b0:=eq_true c3
 have c3b1:decide (((l0.length:Int):Int).toNat≤281474976710656)=true:=decide_eq_true c3
 clear c3
 obtain⟨y115,hy115⟩:∃y_:List Int,y_=(List.replicate ((l0.length:Int):Int).toNat 0):=⟨_,rfl⟩
 replace H:(num_text.l0 k l0 y115 l0 (l0.length:Int) 0)=some r:=by first|(rw[hy115];with_reducible exact H)|(have H2_:=(Option.bind_some _ _).symm.trans H;rw[hy115];with_reducible exact H2_)|(have H2_:=(Option.bind_some _ _).symm.trans H;with_reducible exact H2_)|with_reducible exact H|(rw[hy115];exact H)|exact H
 have Ny115:=Aside0.mk hy115
 clear hy115
 have H':=Aside0.mk H
 clear H
 go_enter Tryd.func38,Tryd.ntmps38
 go_wp2_with (first|((with_reducible refine gate_dst (N:=8) rfl ?_);refine Kd.R_make (Kd.int .u8) _ 5 rfl (N:=8) rfl 87 _ _ rfl (l0.length:Int) rfl rfl Tryd.underlying87 (.int .u8 0) 1 info5 rfl (by decide) (by omega) 0 (ok:=fun _=>True) (okp:=fun _=>True) rfl (fun _ hk=>hk) trivial (od_) (Nat.le_trans (Nat.mul_le_mul_right _ (od_:(l0.length:Int).toNat≤281474976710656)) (by omega)) (Below.refl _ _) (Nat.le_refl _) ?_;intro v116 w4 ho5 hb hg_ hnew_;clear hg_ hnew_;(first|rw[← Ny115.out] at ho5|(simp only[Int.reduceToNat] at ho5;rw[← Ny115.out] at ho5));have HO117:=Aside0.mk (Kd.R_lower ho5 (below_size (bl_ HB).out));replace HB:=Aside0.mk (below_step (bl_ HB).out hb);clear hb ho5))
 go_loopg [11] k (fun kq v11 w'=>∃(x3_1:List Int) (x11_1:Int),v11= .int .i64 x11_1∧Aside0 (num_text.l0 kq l0 x3_1 l0 (l0.length:Int) x11_1=some r)∧Aside0 (kq≤k)∧Aside0 (Kd.R (Kd.int .u8) 5 w' w.heap.size (fun _=>True) v116 x3_1)∧Aside0 (Below w.heap.size w w'))
 case atStart=>exact⟨(y115),(0),eq_,H',⟨Nat.le_refl _⟩,⟨kdR_ HO117.out⟩,(bl_ HB)⟩
 clear H'
 obtain⟨x3_1,x11_1,rfl,HA,HK1,HO_3,HB⟩:=hrel
 cases gk with
 | zero=>exact absurd HA.out (by simp[num_text.l0])
 | succ k1=>?_
 have H:=HA.out
 clear HA
 simp only[num_text.l0] at H
 by_cases c6:x11_1<(l0.length:Int)
 ·rw[if_pos c6] at H
  have c6b0:=decide_eq_true c6
  clear c6
  replace H:=ifn_ H
  obtain⟨c7,H⟩:=H
  have c7b0:decide (0≤x11_1)=true:=decide_eq_true c7
  clear c7
  replace H:=ifn_ H
  obtain⟨c8,H⟩:=H
  have c8b0:decide (x11_1<(l0.length:Int))=true:=decide_eq_true c8
  clear c8
  obtain⟨ji9,hji9⟩:∃j_:Int,(wrap64 ((wrap64 ((l0.length:Int)-1))-x11_1))=j_:=⟨_,rfl⟩
  replace H:(if 0≤(ji9) then (if (ji9)<(x3_1.length:Int) then (num_text.l0 k1 l0 (x3_1.set ((ji9):Int).toNat (rd l0 x11_1)) l0 (l0.length:Int) (wrap64 (x11_1+1))) else (none)) else (none))=some r:=by first|(rw[hji9] at H;exact H)|(simp only[hji9] at H ⊢;exact H)
  have hji9w:(IntKind.i64.wrap ((wrap64 ((l0.length:Int)-1))-x11_1))=ji9:=(i64_w _).trans hji9
  replace H:=ifn_ H
  obtain⟨c10,H⟩:=H
  have c10b0:decide (0≤(ji9))=true:=decide_eq_true c10
  clear c10
  replace H:=ifn_ H
  obtain⟨c11,H⟩:=H
  have c11b0:decide ((ji9)<(x3_1.length:Int))=true:=decide_eq_true c11
  clear c11
  obtain⟨y119,hy119⟩:∃y_:List Int,y_=(x3_1.set ((ji9):Int).toNat (rd l0 x11_1)):=⟨_,rfl⟩
  replace H:(num_text.l0 k1 l0 y119 l0 (l0.length:Int) (wrap64 (x11_1+1)))=some r:=by first|(rw[hy119];with_reducible exact H)|(have H2_:=(Option.bind_some _ _).symm.trans H;rw[hy119];with_reducible exact H2_)|(have H2_:=(Option.bind_some _ _).symm.trans H;with_reducible exact H2_)|with_reducible exact H|(rw[hy119];exact H)|exact H
  have Ny119:=Aside0.mk hy119
  clear hy119
  have H':=Aside0.mk H
  clear H
  have p118:0≤(x11_1:Int):=od_
  have q118:x11_1<(l0.length:Int):=od_
  obtain⟨ad118,e118,hx118_0⟩:=Kd.at_int HR0.out x11_1 p118 q118
  cases e118
  replace hx118_0:=hbc_ HB hx118_0
  replace p118:=eq_true p118
  replace q118:=eq_true q118
  have p12:0≤((ji9):Int):=od_
  have q12:((ji9):Int)<((x3_1.length:Int):Int):=od_
  obtain⟨go12,co12,eo12,gb12,gl12,cl12,HG12⟩:=Kd.R_form HO_3.out (by omega)
  (first|cases eo12|(injection eo12 with ea_ en_ ec_;(first|subst ea_|(injection ea_ with ea_;subst ea_));subst ec_;clear en_))
  have GB12:=Aside0.mk gb12
  have GG12:=Aside0.mk HG12
  clear gb12 gl12 HG12
  obtain⟨hx12_0,hf12_0⟩:=Kd.R_celln 0 HO_3.out ((ji9):Int) p12 q12
  replace p12:=eq_true p12
  replace q12:=eq_true q12
  have HP13:=Kd.R_putg HO_3.out ((ji9):Int) (rd l0 x11_1)
  go_wp2_with (first|((with_reducible refine gate_store (t:=5) (p:=23) rfl ?_);refine store_event (t:=5) (p:=23) (v:=?vo_w14) (w1:=(wr.setCell ⟨go12,((ji9):Int).toNat,none⟩ (.int .u8 (rd l0 x11_1)))) ?hg ?ho ?hn ?hr ?_;(case ho=>rfl);(case hg=>rfl);(case hn=>rfl);(case hr=>first|(go_simp;done)|(go_simp;rfl));intro w14 hw;have hg:wr.grownBy w14 (some go12):=(by rw[hw];exact HP13.2);have hp_:Kd.R (Kd.int .u8) 5 w14 w.heap.size (fun _=>True) (.slice (some ⟨go12,0,none⟩) x3_1.length co12) y119:=(by rw[hw,Ny119.out];exact HP13.1);clear HP13;have n0_:=Aside0.mk (hp_);have n1_:=Aside0.mk ((by rw[hw];exact below_set (HB.out) GB12.out:Below w.heap.size w w14));clear HO_3;clear HB;revert n0_ n1_;intro HO_3 HB;clear hg hw hp_))
  go_roundg k1
  case measure=>have:=HK1.out;omega
  case rel=>exact⟨(y119),(wrap64 (x11_1+1)),eq_,H',⟨by have:=HK1.out;omega⟩,⟨kdR_ HO_3.out⟩,(bl_ HB)⟩
 rw[if_neg c6] at H
 have c6b0:=decide_eq_false c6
 clear c6
 replace H:=Option.bind_eq_some_iff.mp H
 obtain⟨t120,A150,H⟩:=H
 have A15:=Aside0.mk A150
 clear A150
 obtain rfl:=Option.some.inj H
 have hcv16:=own_string (P:=Tryd.prog) Tryd.underlying87 Tryd.underlying5 Tryd.underlying9 (Kd.own_of_R HO_3.out)
 go_wp2_with (first|((with_reducible refine gate_callee (f:=35) rfl ?_);refine gl_ (some 27) Tryd.func35 #[.string (strOfNums x3_1)] ?_;(with_reducible refine(num_Trim.calls _ _ _ _ A15.out).mono ?_);rintro e w' ⟨rfl,⟨nd,rfl⟩⟩;refine⟨_,rfl,?_⟩))
 go_ret
 exact⟨ew_,(bl_ HB).out⟩

/-! ### num_all: function 43 -/
def num_all.l0:Nat→List ByteArray→Int→Int→Option (Bool)
 | 0,_,_,_=>none
 | k+1,x5,x6,x7=>if x7<x6 then (if 0≤x7 then (if x7<(x5.length:Int) then ((num_Is.f k (rdOf ByteArray.empty x5 x7)).bind fun t122=>(if t122=true then (num_all.l0 k x5 x6 (wrap64 (x7+1))) else (some false))) else (none)) else (none)) else (some true)
def num_all.f (k:Nat) (l0:List ByteArray):Option (Bool):=num_all.l0 k l0 (l0.length:Int) 0
set_option maxHeartbeats 64000000 in
set_option maxRecDepth 100000 in
theorem num_all.calls (k:Nat) (A0:Option Addr) (c0:Nat) (l0:List ByteArray) (r:Bool) (w:World) (hr0:Kd.C Kd.string w A0 l0.length l0) (hc0:l0.length≤c0) (h:num_all.f k l0=some r) :
  Calls Tryd.prog 43 #[.slice A0 l0.length c0] w fun e w'=>e= .returned (.bool r)∧Drawn0 w w':=by
 have HR0:=Aside0.mk hr0
 have HC0:=Aside0.mk hc0
 clear hr0 hc0
 have H:=h
 clear h
 unfold num_all.f at H
 have H':=Aside0.mk H
 clear H
 go_enter Tryd.func43,Tryd.ntmps43
 go_wp2
 go_loopg [7] k (fun kq v7 w'=>∃(x7_1:Int),v7= .int .i64 x7_1∧Aside0 (num_all.l0 kq l0 (l0.length:Int) x7_1=some r)∧Aside0 (kq≤k)∧Drawn0 w w')
 case atStart=>exact⟨(0),eq_,H',⟨Nat.le_refl _⟩,by repeat(first|exact Drawn0.refl _|apply Drawn0.step)⟩
 clear H'
 obtain⟨x7_1,rfl,HA,HK1,⟨m1,rfl⟩⟩:=hrel
 cases gk with
 | zero=>exact absurd HA.out (by simp[num_all.l0])
 | succ k1=>?_
 have H:=HA.out
 clear HA
 simp only[num_all.l0] at H
 by_cases c2:x7_1<(l0.length:Int)
 ·rw[if_pos c2] at H
  have c2b0:=decide_eq_true c2
  clear c2
  replace H:=ifn_ H
  obtain⟨c3,H⟩:=H
  have c3b0:decide (0≤x7_1)=true:=decide_eq_true c3
  clear c3
  replace H:=ifn_ H
  obtain⟨c4,H⟩:=H
  have c4b0:decide (x7_1<(l0.length:Int))=true:=decide_eq_true c4
  clear c4
  replace H:=Option.bind_eq_some_iff.mp H
  obtain⟨t122,A50,H⟩:=H
  have A5:=Aside0.mk A50
  clear A50
  by_cases c6:t122=true
  ·subst c6
   rw[if_pos rfl] at H
   have H':=Aside0.mk H
   clear H
   have p121:0≤(x7_1:Int):=od_
   have q121:x7_1<(l0.length:Int):=od_
   obtain⟨ad121,e121,hx121_0⟩:=Kd.at_string HR0.out x7_1 p121 q121
   cases e121
   replace p121:=eq_true p121
   replace q121:=eq_true q121
   go_wp2_with (first|((with_reducible refine gate_callee (f:=21) rfl ?_);refine gl_ (some 12) Tryd.func21 #[.string (rdOf ByteArray.empty l0 x7_1)] ?_;(with_reducible refine(num_Is.calls _ _ _ _ A5.out).mono ?_);rintro e w' ⟨rfl,⟨nd,rfl⟩⟩;refine⟨_,rfl,?_⟩))
   go_roundg k1
   case measure=>have:=HK1.out;omega
   case rel=>exact⟨(wrap64 (x7_1+1)),eq_,H',⟨by have:=HK1.out;omega⟩,by repeat(first|exact Drawn0.refl _|apply Drawn0.step)⟩
  replace c6:=Bool.eq_false_iff.mpr c6
  subst c6
  rw[if_neg (show ¬(false=true) by decide)] at H
  obtain rfl:=Option.some.inj H
  have p121:0≤(x7_1:Int):=od_
  have q121:x7_1<(l0.length:Int):=od_
  obtain⟨ad121,e121,hx121_0⟩:=Kd.at_string HR0.out x7_1 p121 q121
  cases e121
  replace p121:=eq_true p121
  replace q121:=eq_true q121
  go_wp2_with (first|((with_reducible refine gate_callee (f:=21) rfl ?_);refine gl_ (some 12) Tryd.func21 #[.string (rdOf ByteArray.empty l0 x7_1)] ?_;(with_reducible refine(num_Is.calls _ _ _ _ A5.out).mono ?_);rintro e w' ⟨rfl,⟨nd,rfl⟩⟩;refine⟨_,rfl,?_⟩))
  go_ret
  exact⟨by first|rfl|(simp;done)|(simp[*];done)|(simp;first|exact given_isEmpty _|exact(given_isEmpty _).symm)|(unfold wrap64;omega)|(congr 1;unfold wrap64;omega),by repeat(first|exact Drawn0.refl _|apply Drawn0.step)⟩
 rw[if_neg c2] at H
 have c2b0:=decide_eq_false c2
 clear c2
 obtain rfl:=Option.some.inj H
 go_wp2
 go_ret
 exact⟨by first|rfl|(simp;done)|(simp[*];done)|(simp;first|exact given_isEmpty _|exact(given_isEmpty _).symm)|(unfold wrap64;omega)|(congr 1;unfold wrap64;omega),by repeat(first|exact Drawn0.refl _|apply Drawn0.step)⟩

/-! ### num_at: function 44 -/
def num_at.f (a0:ByteArray) (a1:Int):Option (Int):=if a1≥(a0.size:Int) then (some 0) else (if 0≤(wrap64 ((wrap64 ((a0.size:Int)-1))-a1)) then (if (wrap64 ((wrap64 ((a0.size:Int)-1))-a1))<(a0.size:Int) then (some (((bt a0 (wrap64 ((wrap64 ((a0.size:Int)-1))-a1)))-48)%256)) else (none)) else (none))
set_option maxHeartbeats 64000000 in
set_option maxRecDepth 100000 in
theorem num_at.calls (a0:ByteArray) (a1:Int) (r:Int) (w:World) (h:num_at.f a0 a1=some r) :
    Calls Tryd.prog 44 #[.string a0,.int .i64 a1] w fun e w'=>e= .returned (.int .i64 r)∧Drawn0 w w':=by
  have H:=h
  clear h
  unfold num_at.f at H
  by_cases c3:a1≥(a0.size:Int)
  · rw[if_pos c3] at H
    have c3b0:decide ((a0.size:Int)≤a1)=true:=decide_eq_true c3
    clear c3
    obtain rfl:=Option.some.inj H
    go_enter Tryd.func44,Tryd.ntmps44
    go_wp2
    go_ret
    exact⟨by first|rfl|(simp;done)|(simp[*];done)|(simp;first|exact given_isEmpty _|exact(given_isEmpty _).symm)|(unfold wrap64;omega)|(congr 1;unfold wrap64;omega),by repeat(first|exact Drawn0.refl _|apply Drawn0.step)⟩
  rw[if_neg c3] at H
  have c3b0:decide ((a0.size:Int)≤a1)=false:=decide_eq_false c3
  clear c3
  obtain⟨ji4,hji4⟩:∃j_:Int,(wrap64 ((wrap64 ((a0.size:Int)-1))-a1))=j_:=⟨_,rfl⟩
  replace H:(if 0≤(ji4) then (if (ji4)<(a0.size:Int) then (some (((bt a0 (ji4))-48)%256)) else (none)) else (none))=some r:=by first|(rw[hji4] at H;exact H)|(simp only[hji4] at H ⊢;exact H)
  have hji4w:(IntKind.i64.wrap ((wrap64 ((a0.size:Int)-1))-a1))=ji4:=(i64_w _).trans hji4
  replace H:=ifn_ H
  obtain⟨c5,H⟩:=H
  have c5b0:decide (0≤(ji4))=true:=decide_eq_true c5
  clear c5
  replace H:=ifn_ H
  obtain⟨c6,H⟩:=H
  have c6b0:decide ((ji4)<(a0.size:Int))=true:=decide_eq_true c6
  clear c6
  obtain rfl:=Option.some.inj H
  have p7:0≤((ji4):Int):=od_
  have q7:(ji4)<(a0.size:Int):=od_
  have hx7:=bt_at a0 (ji4)
  replace p7:=eq_true p7
  replace q7:=eq_true q7
  go_enter Tryd.func44,Tryd.ntmps44
  go_wp2
  go_ret
  exact⟨by first|rfl|(simp;done)|(simp only[← hji4] <;> (first|rfl|simp))|(simp[*];done),by repeat(first|exact Drawn0.refl _|apply Drawn0.step)⟩

/-! ### cmp_Compare_int: function 61 -/
def cmp_Compare_int.f (a b:Int):Option Int:=some (Lib.compareInt a b)
theorem cmp_Compare_int.calls (a0 a1:Int) (r:Int) (w:World) (h:cmp_Compare_int.f a0 a1=some r) :
    Calls Tryd.prog 61 #[.int .i64 a0,.int .i64 a1] w fun e w'=>e= .returned (.int .i64 r)∧Drawn0 w w':=by
  obtain rfl:=Option.some.inj h
  refine(Tryd.cmp_Compare_int a0 a1 w).mono ?_
  rintro e w' ⟨rfl,rfl⟩
  exact⟨rfl,Drawn0.refl _⟩

/-! ### strings_Compare: function 62 -/
def strings_Compare.f (a b:ByteArray):Option Int:=some (Lib.compareBytes a.data.toList b.data.toList)
theorem strings_Compare.calls (a0 a1:ByteArray) (r:Int) (w:World) (h:strings_Compare.f a0 a1=some r) :
    Calls Tryd.prog 62 #[.string a0,.string a1] w fun e w'=>e= .returned (.int .i64 r)∧Drawn0 w w':=by
  obtain rfl:=Option.some.inj h
  refine(Tryd.strings_Compare a0 a1 w).mono ?_
  rintro e w' ⟨rfl,rfl⟩
  exact⟨rfl,Drawn0.refl _⟩

end Go.Proofs.YtbhhfpjiacfofaaDoor.P
