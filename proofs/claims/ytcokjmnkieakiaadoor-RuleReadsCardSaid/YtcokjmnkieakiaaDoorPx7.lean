-- written by a program of this session (wip/p2)
import Derived.Test.YtcokjmnkieakiaaDoorPx0
import Derived.Test.YtcokjmnkieakiaaDoorPx2
import Derived.Test.YtcokjmnkieakiaaDoorPx5
import Derived.Test.YtcokjmnkieakiaaDoorPx6
namespace Go.Proofs.YtcokjmnkieakiaaDoor.P
open Go.RowKit Go.Proofs.YtcokjmnkieakiaaDoorW.PrintWords Go.Proofs.YtcokjmnkieakiaaDoorW.PrintLast Go.Proofs.YtcokjmnkieakiaaDoorW.PrintMore
attribute [local go_sem] max2_int min2_int max_two min_two max_three min_three max_four min_four   -- for this text's walks alone
set_option linter.unusedVariables false
set_option linter.unusedSimpArgs false

/-! ### rule_reader_rule_g: function 19 -/
mutual
def rule_reader_rule_g.j0:Nat→Int→ByteArray→Int→Int→Bool→Bool→Bool→Bool→Bool→Bool→Option (Int × Int)
 | 0,_,_,_,_,_,_,_,_,_,_=>none
 | k+1,x5,x1000,x1001,x1002,x1003,x1004,x1005,x1006,x1007,x1008=>if x5=5 then (none) else (orf_ ((rule_reader_all_g.f k x1000 x1001 x1002 x1003 x1004 x1005 x1006 x1007 x1008).bind fun bt778=>(some (bt778.1,bt778.2))) ((rule_reader_all.f k x1000 x1001 x1002 x1003 x1004 x1005 x1006 x1007 x1008).bind fun bt726=>(if ([]:List (List (S36))).length<5864062014805 then (rule_reader_rule_g.l0 k bt726.2.1 bt726.2.2.1 bt726.2.2.2.1 bt726.2.2.2.2.1 bt726.2.2.2.2.2.1 bt726.2.2.2.2.2.2.1 bt726.2.2.2.2.2.2.2.1 bt726.2.2.2.2.2.2.2.2.1 bt726.2.2.2.2.2.2.2.2.2 x5 (([]:List (List (S36)))++[bt726.1]) (⟨#[]⟩:ByteArray)) else (none))))
def rule_reader_rule_g.l0:Nat→ByteArray→Int→Int→Bool→Bool→Bool→Bool→Bool→Bool→Int→List (List (S36))→ByteArray→Option (Int × Int)
 | 0,_,_,_,_,_,_,_,_,_,_,_,_=>none
 | k+1,x1000,x1001,x1002,x1003,x1004,x1005,x1006,x1007,x1008,x716000,x716001,x716002=>(rule_reader_next.f k x1000 x1001 x1002 x1003 x1004 x1005 x1006 x1007 x1008 (⟨#[111,114]⟩:ByteArray)).bind fun bt741=>(if bt741.1=true then (orf_ ((rule_reader_all_g.f k bt741.2.1 bt741.2.2.1 bt741.2.2.2.1 bt741.2.2.2.2.1 bt741.2.2.2.2.2.1 bt741.2.2.2.2.2.2.1 bt741.2.2.2.2.2.2.2.1 bt741.2.2.2.2.2.2.2.2.1 bt741.2.2.2.2.2.2.2.2.2).bind fun bt766=>(some (bt766.1,bt766.2))) ((rule_reader_all.f k bt741.2.1 bt741.2.2.1 bt741.2.2.2.1 bt741.2.2.2.2.1 bt741.2.2.2.2.2.1 bt741.2.2.2.2.2.2.1 bt741.2.2.2.2.2.2.2.1 bt741.2.2.2.2.2.2.2.2.1 bt741.2.2.2.2.2.2.2.2.2).bind fun bt751=>(if x716001.length<5864062014805 then (rule_reader_rule_g.l0 k bt751.2.1 bt751.2.2.1 bt751.2.2.2.1 bt751.2.2.2.2.1 bt751.2.2.2.2.2.1 bt751.2.2.2.2.2.2.1 bt751.2.2.2.2.2.2.2.1 bt751.2.2.2.2.2.2.2.2.1 bt751.2.2.2.2.2.2.2.2.2 x716000 (x716001++[bt751.1]) x716002) else (none)))) else (none))
end
def rule_reader_rule_g.f (k:Nat) (s0_0:ByteArray) (s0_1:Int) (s0_2:Int) (s0_3:Bool) (s0_4:Bool) (s0_5:Bool) (s0_6:Bool) (s0_7:Bool) (s0_8:Bool):Option (Int × Int):=(rule_reader_word.f k s0_0 s0_1 s0_2 s0_3 s0_4 s0_5 s0_6 s0_7 s0_8).bind fun bt688=>((rule_CatOf.f k bt688.1).bind fun bt698=>(if bt698.2=true then (if 0≤bt698.1 then (if bt698.1<6 then (if rdOf false [bt688.2.2.2.2.1,bt688.2.2.2.2.2.1,bt688.2.2.2.2.2.2.1,bt688.2.2.2.2.2.2.2.1,bt688.2.2.2.2.2.2.2.2.1,bt688.2.2.2.2.2.2.2.2.2] bt698.1=true then ((rule_fail_g.f 7 bt688.2.2.1).bind fun bt700=>(some (bt700.1,bt700.2))) else (orf_ ((rule_reader_want_g.f k bt688.2.1 (wrap64 (bt688.2.2.1+(bt688.1.size:Int))) bt688.2.2.2.1 (if bt698.1=0 then true else bt688.2.2.2.2.1) (if bt698.1=1 then true else bt688.2.2.2.2.2.1) (if bt698.1=2 then true else bt688.2.2.2.2.2.2.1) (if bt698.1=3 then true else bt688.2.2.2.2.2.2.2.1) (if bt698.1=4 then true else bt688.2.2.2.2.2.2.2.2.1) (if bt698.1=5 then true else bt688.2.2.2.2.2.2.2.2.2) (⟨#[58]⟩:ByteArray)).bind fun bt713=>(some (bt713.1,bt713.2))) ((rule_reader_want.f k bt688.2.1 (wrap64 (bt688.2.2.1+(bt688.1.size:Int))) bt688.2.2.2.1 (if bt698.1=0 then true else bt688.2.2.2.2.1) (if bt698.1=1 then true else bt688.2.2.2.2.2.1) (if bt698.1=2 then true else bt688.2.2.2.2.2.2.1) (if bt698.1=3 then true else bt688.2.2.2.2.2.2.2.1) (if bt698.1=4 then true else bt688.2.2.2.2.2.2.2.2.1) (if bt698.1=5 then true else bt688.2.2.2.2.2.2.2.2.2) (⟨#[58]⟩:ByteArray)).bind fun bt704=>(rule_reader_rule_g.j0 k bt698.1 bt704.1 bt704.2.1 bt704.2.2.1 bt704.2.2.2.1 bt704.2.2.2.2.1 bt704.2.2.2.2.2.1 bt704.2.2.2.2.2.2.1 bt704.2.2.2.2.2.2.2.1 bt704.2.2.2.2.2.2.2.2)))) else (none)) else (none)) else ((rule_fail_g.f 1 bt688.2.2.1).bind fun bt702=>(some (bt702.1,bt702.2)))))
def rule_reader_rule_g.T13:Bool × List (List Nat × List Nat):=(true,[([],[]),([0],[0]),([],[]),([2],[2]),([3],[3]),([1,4,3],[1,4]),([0,1,2,3,4,5],[]),([6,5,5,0,1,2,3,4,5],[5,6])])
def rule_reader_rule_g.B13:List Nat:=[0,1,0,4,12,31,63,127]
theorem rule_reader_rule_g.tab13:rtab .any (opsOf Tryd.f19 13)=rule_reader_rule_g.T13:=by kernel_rfl
theorem rule_reader_rule_g.bits13:waitsOk rule_reader_rule_g.T13.2 rule_reader_rule_g.B13=true:=by kernel_rfl
def rule_reader_rule_g.T15:Bool × List (List Nat × List Nat):=(true,[([],[]),([0],[0]),([],[]),([2],[2]),([3],[3]),([1,4,3],[1,4]),([0,1,2,3,4,5],[]),([6,5,5,0,1,2,3,4,5],[5,6])])
def rule_reader_rule_g.B15:List Nat:=[0,1,0,4,12,31,63,127]
theorem rule_reader_rule_g.tab15:rtab .any (opsOf Tryd.f19 15)=rule_reader_rule_g.T15:=by kernel_rfl
theorem rule_reader_rule_g.bits15:waitsOk rule_reader_rule_g.T15.2 rule_reader_rule_g.B15=true:=by kernel_rfl
set_option maxHeartbeats 64000000 in
set_option maxRecDepth 100000 in
theorem rule_reader_rule_g.calls (k:Nat) (g:Nat) (s0_0:ByteArray) (s0_1:Int) (s0_2:Int) (s0_3:Bool) (s0_4:Bool) (s0_5:Bool) (s0_6:Bool) (s0_7:Bool) (s0_8:Bool) (r1:Int) (r2:Int) (w0 w:World) (hI:IsS56 w0 w g s0_0 s0_1 s0_2 s0_3 s0_4 s0_5 s0_6 s0_7 s0_8) (hB:Below w0.heap.size w0 w) (h:rule_reader_rule_g.f k s0_0 s0_1 s0_2 s0_3 s0_4 s0_5 s0_6 s0_7 s0_8=some (r1,r2)) :
  Calls Tryd.prog 19 #[.pointer (some ⟨g,0,none⟩)] w fun e w'=>e= .panicked [{v:= .iface 52 (.agg #[.int .i64 r1,.int .i64 r2]),recovered:=false}]∧Below w0.heap.size w0 w':=by
 have hu32:=Tryd.underlying32
 have HI0:=Aside0.mk hI
 have HK:=Aside0.mk (KeepBut.refl w g none)
 have HL:=Aside0.mk hB.size
 clear hI
 have HW0:=Aside0.mk hB.size
 have HB:=Aside0.mk hB
 clear hB
 have H:((rule_reader_word.f k s0_0 s0_1 s0_2 s0_3 s0_4 s0_5 s0_6 s0_7 s0_8).bind fun bt688=>((rule_CatOf.f k bt688.1).bind fun bt698=>(if bt698.2=true then (if 0≤bt698.1 then (if bt698.1<6 then (if rdOf false [bt688.2.2.2.2.1,bt688.2.2.2.2.2.1,bt688.2.2.2.2.2.2.1,bt688.2.2.2.2.2.2.2.1,bt688.2.2.2.2.2.2.2.2.1,bt688.2.2.2.2.2.2.2.2.2] bt698.1=true then ((rule_fail_g.f 7 bt688.2.2.1).bind fun bt700=>(some (bt700.1,bt700.2))) else (orf_ ((rule_reader_want_g.f k bt688.2.1 (wrap64 (bt688.2.2.1+(bt688.1.size:Int))) bt688.2.2.2.1 (if bt698.1=0 then true else bt688.2.2.2.2.1) (if bt698.1=1 then true else bt688.2.2.2.2.2.1) (if bt698.1=2 then true else bt688.2.2.2.2.2.2.1) (if bt698.1=3 then true else bt688.2.2.2.2.2.2.2.1) (if bt698.1=4 then true else bt688.2.2.2.2.2.2.2.2.1) (if bt698.1=5 then true else bt688.2.2.2.2.2.2.2.2.2) (⟨#[58]⟩:ByteArray)).bind fun bt713=>(some (bt713.1,bt713.2))) ((rule_reader_want.f k bt688.2.1 (wrap64 (bt688.2.2.1+(bt688.1.size:Int))) bt688.2.2.2.1 (if bt698.1=0 then true else bt688.2.2.2.2.1) (if bt698.1=1 then true else bt688.2.2.2.2.2.1) (if bt698.1=2 then true else bt688.2.2.2.2.2.2.1) (if bt698.1=3 then true else bt688.2.2.2.2.2.2.2.1) (if bt698.1=4 then true else bt688.2.2.2.2.2.2.2.2.1) (if bt698.1=5 then true else bt688.2.2.2.2.2.2.2.2.2) (⟨#[58]⟩:ByteArray)).bind fun bt704=>(rule_reader_rule_g.j0 k bt698.1 bt704.1 bt704.2.1 bt704.2.2.1 bt704.2.2.2.1 bt704.2.2.2.2.1 bt704.2.2.2.2.2.1 bt704.2.2.2.2.2.2.1 bt704.2.2.2.2.2.2.2.1 bt704.2.2.2.2.2.2.2.2)))) else (none)) else (none)) else ((rule_fail_g.f 1 bt688.2.2.1).bind fun bt702=>(some (bt702.1,bt702.2))))))=some (r1,r2):=h
 clear h
 replace H:=Option.bind_eq_some_iff.mp H
 obtain⟨⟨t688,t689,t690,t691,t692,t693,t694,t695,t696,t697⟩,A20,H⟩:=H
 dsimp only at H
 have A2:=Aside0.mk A20
 clear A20
 replace H:=Option.bind_eq_some_iff.mp H
 obtain⟨⟨t698,t699⟩,A30,H⟩:=H
 dsimp only at H
 have A3:=Aside0.mk A30
 clear A30
 by_cases c4:t699=true
 ·subst c4
  have H1:(if 0≤t698 then (if t698<6 then (if rdOf false [t692,t693,t694,t695,t696,t697] t698=true then ((rule_fail_g.f 7 t690).bind fun bt700=>(some (bt700.1,bt700.2))) else (orf_ ((rule_reader_want_g.f k t689 (wrap64 (t690+(t688.size:Int))) t691 (if t698=0 then true else t692) (if t698=1 then true else t693) (if t698=2 then true else t694) (if t698=3 then true else t695) (if t698=4 then true else t696) (if t698=5 then true else t697) (⟨#[58]⟩:ByteArray)).bind fun bt713=>(some (bt713.1,bt713.2))) ((rule_reader_want.f k t689 (wrap64 (t690+(t688.size:Int))) t691 (if t698=0 then true else t692) (if t698=1 then true else t693) (if t698=2 then true else t694) (if t698=3 then true else t695) (if t698=4 then true else t696) (if t698=5 then true else t697) (⟨#[58]⟩:ByteArray)).bind fun bt704=>(rule_reader_rule_g.j0 k t698 bt704.1 bt704.2.1 bt704.2.2.1 bt704.2.2.2.1 bt704.2.2.2.2.1 bt704.2.2.2.2.2.1 bt704.2.2.2.2.2.2.1 bt704.2.2.2.2.2.2.2.1 bt704.2.2.2.2.2.2.2.2)))) else (none)) else (none))=some (r1,r2):=by rw[if_pos rfl] at H;exact H
  clear H
  have H:=H1
  clear H1
  replace H:=ifn_ H
  obtain⟨c5,H⟩:=H
  have c5b0:decide (0≤t698)=true:=decide_eq_true c5
  clear c5
  replace H:=ifn_ H
  obtain⟨c6,H⟩:=H
  have c6b0:decide (t698<6)=true:=decide_eq_true c6
  clear c6
  obtain⟨bq7,hbq7⟩:∃b_:Bool,b_=(rdOf false [t692,t693,t694,t695,t696,t697] t698):=⟨_,rfl⟩
  replace H:(if bq7=true then ((rule_fail_g.f 7 t690).bind fun bt700=>(some (bt700.1,bt700.2))) else (orf_ ((rule_reader_want_g.f k t689 (wrap64 (t690+(t688.size:Int))) t691 (if t698=0 then true else t692) (if t698=1 then true else t693) (if t698=2 then true else t694) (if t698=3 then true else t695) (if t698=4 then true else t696) (if t698=5 then true else t697) (⟨#[58]⟩:ByteArray)).bind fun bt713=>(some (bt713.1,bt713.2))) ((rule_reader_want.f k t689 (wrap64 (t690+(t688.size:Int))) t691 (if t698=0 then true else t692) (if t698=1 then true else t693) (if t698=2 then true else t694) (if t698=3 then true else t695) (if t698=4 then true else t696) (if t698=5 then true else t697) (⟨#[58]⟩:ByteArray)).bind fun bt704=>(rule_reader_rule_g.j0 k t698 bt704.1 bt704.2.1 bt704.2.2.1 bt704.2.2.2.1 bt704.2.2.2.2.1 bt704.2.2.2.2.2.1 bt704.2.2.2.2.2.2.1 bt704.2.2.2.2.2.2.2.1 bt704.2.2.2.2.2.2.2.2))))=some (r1,r2):=by rw[← hbq7] at H;exact H
  have Nbq7:=Aside0.mk hbq7
  clear hbq7
  by_cases c8:bq7=true
  ·subst c8
   have H1:((rule_fail_g.f 7 t690).bind fun bt700=>(some (bt700.1,bt700.2)))=some (r1,r2):=by rw[if_pos rfl] at H;exact H
   clear H
   have H:=H1
   clear H1
   replace H:=Option.bind_eq_some_iff.mp H
   obtain⟨⟨t700,t701⟩,A90,H⟩:=H
   dsimp only at H
   have A9:=Aside0.mk A90
   clear A90
   simp only[Option.some.injEq,Prod.mk.injEq] at H
   obtain⟨rfl,rfl⟩:=H
   go_enter Tryd.func19,Tryd.ntmps19
   go_wp2_with (first|((with_reducible refine gate_dst (N:=2) rfl ?_);refine be_ 2 #[.int .i64 0,.slice none 0 0,.string (⟨#[]⟩:ByteArray)] 32 ?_;intro gb687 hg w10 hbox hb;have n0_:=Aside0.mk (IsS56.below (is56_ HI0) hb);have n1_:=Aside0.mk (KeepBut.trans (kp_ HK) (KeepBut.of_below hb g none) (.inl rfl));have n2_:=Aside0.mk (below_step (bs56_ HB HI0) hb);have n3_:=Aside0.mk (hbox);have n4_:=Aside0.mk ((by rw[hg];exact(keep_size (w:=w) (g:=g) (row:=none) (kp_ HK)):w.heap.size≤gb687));have n5_:=Aside0.mk ((Nat.le_trans HW0.out (by rw[hg];exact(keep_size (w:=w) (g:=g) (row:=none) (kp_ HK)):w.heap.size≤gb687):w0.heap.size≤gb687));have n6_:=Aside0.mk ((by rw[hg];exact Nat.ne_of_lt (IsS56.lt (show IsS56 w0 _ g s0_0 s0_1 s0_2 s0_3 s0_4 s0_5 s0_6 s0_7 s0_8 from is56_ HI0)):g≠gb687));have n7_:=Aside0.mk ((by rw[hg];exact Nat.ne_of_gt (IsS56.lt (show IsS56 w0 _ g s0_0 s0_1 s0_2 s0_3 s0_4 s0_5 s0_6 s0_7 s0_8 from is56_ HI0)):gb687≠g));clear HI0;clear HK;clear HB;have HI0:=n0_;have HK:=n1_;have HB:=n2_;have BK687:=n3_;have GW687:=n4_;have GE687:=n5_;have NB0_687:=n6_;have NB687_0:=n7_;clear n0_ n1_ n2_ n3_ n4_ n5_ n6_ n7_;clear hb hbox hg)|((with_reducible refine gate_callee (f:=27) rfl ?_);refine gl_ (some 9) Tryd.func27 #[.pointer (some ⟨g,0,none⟩)] ?_;(with_reducible refine(rule_reader_word.calls _ _ _ _ _ _ _ _ _ _ _ _ _ _ _ _ _ _ _ _ _ w0 _ ?side1 ?side2 A2.out).mono ?_);(case side1=>exact is56_ HI0);(case side2=>exact bs56_ HB HI0);rintro e w11 ⟨rfl,hi,hb,hk⟩;refine⟨_,rfl,?_⟩;have n0_:=Aside0.mk (KeepBut.blk hk (bk_ BK687).out NB687_0.out (by simp));have n1_:=Aside0.mk (KeepBut.trans (kp_ HK) hk (.inl rfl));have n2_:=Aside0.mk (hb);have n3_:=Aside0.mk (hi);clear BK687;clear HK;clear HB;clear HI0;have BK687:=n0_;have HK:=n1_;have HB:=n2_;have HI0:=n3_;clear n0_ n1_ n2_ n3_;(try clear hb);(try clear hk);(try clear hi);obtain⟨hcz12_0,hcz12_1,hcz12_2,hcz12_3,hcz12_4,hcz12_5,hcz12_6,hcz12_7,hcz12_8,hfz12_0,hfz12_1,hfz12_2,hfz12_3,hfz12_4,hfz12_5,hfz12_6,hfz12_7,hfz12_8⟩:=cs56_ HI0)|((with_reducible refine gate_callee (f:=11) rfl ?_);refine gl_ (some 16) Tryd.func11 #[.string t688] ?_;(with_reducible refine(rule_CatOf.calls _ _ _ _ _ A3.out).mono ?_);rintro e w13 ⟨rfl,hb⟩;refine⟨_,rfl,?_⟩;have n0_:=Aside0.mk (IsS56.below (is56_ HI0) hb);have n1_:=bb_ BK687 hb;have n2_:=Aside0.mk (KeepBut.trans (kp_ HK) (KeepBut.of_below hb g none) (.inl rfl));have n3_:=Aside0.mk (below_step (bs56_ HB HI0) hb);clear HI0;clear BK687;clear HK;clear HB;have HI0:=n0_;have BK687:=n1_;have HK:=n2_;have HB:=n3_;clear n0_ n1_ n2_ n3_;(try clear hb);obtain⟨hcz14_0,hcz14_1,hcz14_2,hcz14_3,hcz14_4,hcz14_5,hcz14_6,hcz14_7,hcz14_8,hfz14_0,hfz14_1,hfz14_2,hfz14_3,hfz14_4,hfz14_5,hfz14_6,hfz14_7,hfz14_8⟩:=cs56_ HI0;have hpx15:0≤t698:=od_;have hqx15:t698<6:=od_;have hax15:=ax6_ t698 (od_) (od_);have hcx15:w13.cell? ⟨g,3+t698.toNat,none⟩=some (.bool (rdOf false [t692,t693,t694,t695,t696,t697] t698)):=(blk_cell HI0.out.1 (3+t698.toNat)).trans (by rcases hax15 with h_|h_|h_|h_|h_|h_ <;> (rw[h_];rfl));clear hax15;(try rw[← Nbq7.out] at hcx15))|(go_at_call 21;(with_reducible refine(rule_fail_g.calls _ _ _ _ _ A9.out).mono ?_);rintro e w' ⟨rfl,hb⟩;exact And.intro rfl (And.intro rfl (below_step (bs56_ HB HI0) hb))))
  ·replace c8:=Bool.eq_false_iff.mpr c8
   subst c8
   have H1:(orf_ ((rule_reader_want_g.f k t689 (wrap64 (t690+(t688.size:Int))) t691 (if t698=0 then true else t692) (if t698=1 then true else t693) (if t698=2 then true else t694) (if t698=3 then true else t695) (if t698=4 then true else t696) (if t698=5 then true else t697) (⟨#[58]⟩:ByteArray)).bind fun bt713=>(some (bt713.1,bt713.2))) ((rule_reader_want.f k t689 (wrap64 (t690+(t688.size:Int))) t691 (if t698=0 then true else t692) (if t698=1 then true else t693) (if t698=2 then true else t694) (if t698=3 then true else t695) (if t698=4 then true else t696) (if t698=5 then true else t697) (⟨#[58]⟩:ByteArray)).bind fun bt704=>(rule_reader_rule_g.j0 k t698 bt704.1 bt704.2.1 bt704.2.2.1 bt704.2.2.2.1 bt704.2.2.2.2.1 bt704.2.2.2.2.2.1 bt704.2.2.2.2.2.2.1 bt704.2.2.2.2.2.2.2.1 bt704.2.2.2.2.2.2.2.2)))=some (r1,r2):=by rw[if_neg (show ¬(false=true) by decide)] at H;exact H
   clear H
   have H:=H1
   clear H1
   have HC16:=Aside0.mk H
   clear H
   go_enter Tryd.func19,Tryd.ntmps19
   go_upto_region 10 with (first|((with_reducible refine gate_dst (N:=2) rfl ?_);refine be_ 2 #[.int .i64 0,.slice none 0 0,.string (⟨#[]⟩:ByteArray)] 32 ?_;intro gb687 hg w17 hbox hb;have n0_:=Aside0.mk (IsS56.below (is56_ HI0) hb);have n1_:=Aside0.mk (KeepBut.trans (kp_ HK) (KeepBut.of_below hb g none) (.inl rfl));have n2_:=Aside0.mk (below_step (bs56_ HB HI0) hb);have n3_:=Aside0.mk (hbox);have n4_:=Aside0.mk ((by rw[hg];exact(keep_size (w:=w) (g:=g) (row:=none) (kp_ HK)):w.heap.size≤gb687));have n5_:=Aside0.mk ((Nat.le_trans HW0.out (by rw[hg];exact(keep_size (w:=w) (g:=g) (row:=none) (kp_ HK)):w.heap.size≤gb687):w0.heap.size≤gb687));have n6_:=Aside0.mk ((by rw[hg];exact Nat.ne_of_lt (IsS56.lt (show IsS56 w0 _ g s0_0 s0_1 s0_2 s0_3 s0_4 s0_5 s0_6 s0_7 s0_8 from is56_ HI0)):g≠gb687));have n7_:=Aside0.mk ((by rw[hg];exact Nat.ne_of_gt (IsS56.lt (show IsS56 w0 _ g s0_0 s0_1 s0_2 s0_3 s0_4 s0_5 s0_6 s0_7 s0_8 from is56_ HI0)):gb687≠g));clear HI0;clear HK;clear HB;have HI0:=n0_;have HK:=n1_;have HB:=n2_;have BK687:=n3_;have GW687:=n4_;have GE687:=n5_;have NB0_687:=n6_;have NB687_0:=n7_;clear n0_ n1_ n2_ n3_ n4_ n5_ n6_ n7_;clear hb hbox hg)|((with_reducible refine gate_callee (f:=27) rfl ?_);refine gl_ (some 9) Tryd.func27 #[.pointer (some ⟨g,0,none⟩)] ?_;(with_reducible refine(rule_reader_word.calls _ _ _ _ _ _ _ _ _ _ _ _ _ _ _ _ _ _ _ _ _ w0 _ ?side1 ?side2 A2.out).mono ?_);(case side1=>exact is56_ HI0);(case side2=>exact bs56_ HB HI0);rintro e w18 ⟨rfl,hi,hb,hk⟩;refine⟨_,rfl,?_⟩;have n0_:=Aside0.mk (KeepBut.blk hk (bk_ BK687).out NB687_0.out (by simp));have n1_:=Aside0.mk (KeepBut.trans (kp_ HK) hk (.inl rfl));have n2_:=Aside0.mk (hb);have n3_:=Aside0.mk (hi);clear BK687;clear HK;clear HB;clear HI0;have BK687:=n0_;have HK:=n1_;have HB:=n2_;have HI0:=n3_;clear n0_ n1_ n2_ n3_;(try clear hb);(try clear hk);(try clear hi);obtain⟨hcz19_0,hcz19_1,hcz19_2,hcz19_3,hcz19_4,hcz19_5,hcz19_6,hcz19_7,hcz19_8,hfz19_0,hfz19_1,hfz19_2,hfz19_3,hfz19_4,hfz19_5,hfz19_6,hfz19_7,hfz19_8⟩:=cs56_ HI0)|((with_reducible refine gate_callee (f:=11) rfl ?_);refine gl_ (some 16) Tryd.func11 #[.string t688] ?_;(with_reducible refine(rule_CatOf.calls _ _ _ _ _ A3.out).mono ?_);rintro e w20 ⟨rfl,hb⟩;refine⟨_,rfl,?_⟩;have n0_:=Aside0.mk (IsS56.below (is56_ HI0) hb);have n1_:=bb_ BK687 hb;have n2_:=Aside0.mk (KeepBut.trans (kp_ HK) (KeepBut.of_below hb g none) (.inl rfl));have n3_:=Aside0.mk (below_step (bs56_ HB HI0) hb);clear HI0;clear BK687;clear HK;clear HB;have HI0:=n0_;have BK687:=n1_;have HK:=n2_;have HB:=n3_;clear n0_ n1_ n2_ n3_;(try clear hb);obtain⟨hcz21_0,hcz21_1,hcz21_2,hcz21_3,hcz21_4,hcz21_5,hcz21_6,hcz21_7,hcz21_8,hfz21_0,hfz21_1,hfz21_2,hfz21_3,hfz21_4,hfz21_5,hfz21_6,hfz21_7,hfz21_8⟩:=cs56_ HI0;have hpx22:0≤t698:=od_;have hqx22:t698<6:=od_;have hax22:=ax6_ t698 (od_) (od_);have hcx22:w20.cell? ⟨g,3+t698.toNat,none⟩=some (.bool (rdOf false [t692,t693,t694,t695,t696,t697] t698)):=(blk_cell HI0.out.1 (3+t698.toNat)).trans (by rcases hax22 with h_|h_|h_|h_|h_|h_ <;> (rw[h_];rfl));clear hax22;(try rw[← Nbq7.out] at hcx22);have hfx23:=blk_frozen HI0.out.1 (3+t698.toNat);have hqx23_0:0≤t698:=od_;have hqx23_1:t698<6:=od_;have hax23:=ax6_ t698 (od_) (od_);have hcx23:w20.cell? ⟨g,3+t698.toNat,none⟩=some (.bool (rdOf false [t692,t693,t694,t695,t696,t697] t698)):=(blk_cell HI0.out.1 (3+t698.toNat)).trans (by rcases hax23 with h_|h_|h_|h_|h_|h_ <;> (rw[h_];rfl));clear hax23)|((with_reducible refine gate_store (t:=4) (p:=37) rfl ?_);refine store_event (t:=4) (p:=37) (v:=?vo_w24) (w1:=(w20.setCell ⟨g,3+t698.toNat,none⟩ (.bool true))) ?hg ?ho ?hn ?hr ?_;(case ho=>rfl);(case hg=>rfl);(case hn=>rfl);(case hr=>first|(go_simp;done)|(go_simp;rfl));intro w24 hw;have n0_:Aside0 (w24.heap[gb687]? = some (.cells #[.int .i64 0,.slice none 0 0,.string (⟨#[]⟩:ByteArray)] 32 (0,0))):=⟨(by rw[hw];exact((bf_ BK687).out))⟩;have n1_:Aside0 (IsS56 w0 w24 g t689 t690 t691 (if t698=0 then true else t692) (if t698=1 then true else t693) (if t698=2 then true else t694) (if t698=3 then true else t695) (if t698=4 then true else t696) (if t698=5 then true else t697)):=⟨(by rw[hw];exact(is56_ HI0))⟩;have n2_:Aside0 (KeepBut w w24 g none):=⟨(by rw[hw];exact(kp_ HK))⟩;have n3_:Aside0 (Below w0.heap.size w0 w24):=⟨(by rw[hw];exact(bs56_ HB HI0))⟩;clear hw;clear BK687;clear HI0;clear HK;clear HB;have BK687:=n0_;have HI0:=n1_;have HK:=n2_;have HB:=n3_;clear n0_ n1_ n2_ n3_;obtain⟨hcz25_0,hcz25_1,hcz25_2,hcz25_3,hcz25_4,hcz25_5,hcz25_6,hcz25_7,hcz25_8,hfz25_0,hfz25_1,hfz25_2,hfz25_3,hfz25_4,hfz25_5,hfz25_6,hfz25_7,hfz25_8⟩:=cs56_ HI0))
   (try simp only[Act.put,List.setIfInBounds_toArray,List.set_cons_zero,List.set_cons_succ])
   go_cut [] (fun wc=>∃(kq:Nat) (x1000_15:ByteArray) (x1001_15:Int) (x1002_15:Int) (x1003_15:Bool) (x1004_15:Bool) (x1005_15:Bool) (x1006_15:Bool) (x1007_15:Bool) (x1008_15:Bool),Aside0 (rule_reader_rule_g.j0 kq t698 x1000_15 x1001_15 x1002_15 x1003_15 x1004_15 x1005_15 x1006_15 x1007_15 x1008_15=some (r1,r2))∧Aside0 (kq≤k)∧Aside0 (wc.heap[gb687]? = some (.cells #[.int .i64 0,(.slice none 0 0),.string (⟨#[]⟩:ByteArray)] 32 (0,0)))∧Aside0 (IsS56 w0 wc g x1000_15 x1001_15 x1002_15 x1003_15 x1004_15 x1005_15 x1006_15 x1007_15 x1008_15)∧Aside0 (KeepBut w wc g none)∧Aside0 (Below w0.heap.size w0 wc))
   case first =>
    have H:=HC16.out
    clear HC16
    rcases orf_or H with H|H
    ·skip
     replace H:=Option.bind_eq_some_iff.mp H
     obtain⟨⟨t713,t714⟩,A260,H⟩:=H
     dsimp only at H
     have A26:=Aside0.mk A260
     clear A260
     simp only[Option.some.injEq,Prod.mk.injEq] at H
     obtain⟨rfl,rfl⟩:=H
     go_wp2_with (first|(go_at_call 28;(with_reducible refine(rule_reader_want_g.calls _ _ _ _ _ _ _ _ _ _ _ _ _ _ w0 _ ?side1 ?side2 A26.out).mono ?_);(case side1=>exact is56_ HI0);(case side2=>exact bs56_ HB HI0);rintro e w' ⟨rfl,hb⟩;exact And.intro rfl (And.intro rfl hb)))
    ·skip
     replace H:=Option.bind_eq_some_iff.mp H
     obtain⟨⟨t704,t705,t706,t707,t708,t709,t710,t711,t712⟩,A270,H⟩:=H
     dsimp only at H
     have A27:=Aside0.mk A270
     clear A270
     have H':=Aside0.mk H
     clear H
     go_wp2_with (first|((with_reducible refine gate_callee (f:=28) rfl ?_);refine gl_ (some 48) Tryd.func28 #[.pointer (some ⟨g,0,none⟩),.string (⟨#[58]⟩:ByteArray)] ?_;(with_reducible refine(rule_reader_want.calls _ _ _ _ _ _ _ _ _ _ _ _ _ _ _ _ _ _ _ _ _ w0 _ ?side1 ?side2 A27.out).mono ?_);(case side1=>exact is56_ HI0);(case side2=>exact bs56_ HB HI0);rintro e w28 ⟨rfl,hi,hb,hk⟩;refine⟨_,rfl,?_⟩;have n0_:=Aside0.mk (KeepBut.blk hk (g':=gb687) (o:= .cells #[.int .i64 0,.slice none 0 0,.string (⟨#[]⟩:ByteArray)] 32 (0,0)) ((bf_ BK687).out) NB687_0.out (by simp));have n1_:=Aside0.mk (KeepBut.trans (kp_ HK) hk (.inl rfl));have n2_:=Aside0.mk (hb);have n3_:=Aside0.mk (hi);clear BK687;clear HK;clear HB;clear HI0;have BK687:=n0_;have HK:=n1_;have HB:=n2_;have HI0:=n3_;clear n0_ n1_ n2_ n3_;(try clear hb);(try clear hk);(try clear hi)))
     go_meet
     case rel=>exact⟨_,(t704),(t705),(t706),(t707),(t708),(t709),(t710),(t711),(t712),H',⟨by first|omega|exact Nat.le_refl _⟩,(bk_ BK687),⟨is56_ HI0⟩,⟨kp_ HK⟩,⟨bs56_ HB HI0⟩⟩
   case rest =>
    clear HC16
    obtain⟨kq,x1000_15,x1001_15,x1002_15,x1003_15,x1004_15,x1005_15,x1006_15,x1007_15,x1008_15,HA,HJ15,BK687,HI0,HK,HB⟩:=hcut
    cases kq with
    | zero=>exact absurd HA.out (by simp[rule_reader_rule_g.j0])
    | succ kj15 =>
     have H:=HA.out
     clear HA
     simp only[rule_reader_rule_g.j0] at H
     replace H:=ifp_ H
     obtain⟨c29,H⟩:=H
     have c29b0:(t698==5)=false:=beq_eq_false_iff_ne.mpr c29
     have c29b1:(t698 !=5)=true:=bne_iff_ne.mpr c29
     rcases orf_or H with H|H
     ·skip
      replace H:=Option.bind_eq_some_iff.mp H
      obtain⟨⟨t778,t779⟩,A300,H⟩:=H
      dsimp only at H
      have A30:=Aside0.mk A300
      clear A300
      simp only[Option.some.injEq,Prod.mk.injEq] at H
      obtain⟨rfl,rfl⟩:=H
      try go_wp2_with (first|((with_reducible refine gate_dst (N:=7) rfl ?_);refine be_ 7 #[.int .i64 0,.slice none 0 0,.string (⟨#[]⟩:ByteArray)] 32 ?_;intro gb715 hg w31 hbox hb;have n0_:=bb_ BK687 hb;have n1_:=Aside0.mk (IsS56.below (is56_ HI0) hb);have n2_:=Aside0.mk (KeepBut.trans (kp_ HK) (KeepBut.of_below hb g none) (.inl rfl));have n3_:=Aside0.mk (below_step (bs56_ HB HI0) hb);have n4_:=Aside0.mk (hbox);have n5_:=Aside0.mk ((by rw[hg];exact(keep_size (w:=w) (g:=g) (row:=none) (kp_ HK)):w.heap.size≤gb715));have n6_:=Aside0.mk ((Nat.le_trans HW0.out (by rw[hg];exact(keep_size (w:=w) (g:=g) (row:=none) (kp_ HK)):w.heap.size≤gb715):w0.heap.size≤gb715));have n7_:=na_ BK687 hg;have n8_:=nb_ BK687 hg;have n9_:=Aside0.mk ((by rw[hg];exact Nat.ne_of_lt (IsS56.lt (show IsS56 w0 _ g x1000_15 x1001_15 x1002_15 x1003_15 x1004_15 x1005_15 x1006_15 x1007_15 x1008_15 from is56_ HI0)):g≠gb715));have n10_:=Aside0.mk ((by rw[hg];exact Nat.ne_of_gt (IsS56.lt (show IsS56 w0 _ g x1000_15 x1001_15 x1002_15 x1003_15 x1004_15 x1005_15 x1006_15 x1007_15 x1008_15 from is56_ HI0)):gb715≠g));clear BK687;clear HI0;clear HK;clear HB;have BK687:=n0_;have HI0:=n1_;have HK:=n2_;have HB:=n3_;have BK715:=n4_;have GW715:=n5_;have GE715:=n6_;have NB687_715:=n7_;have NB715_687:=n8_;have NB0_715:=n9_;have NB715_0:=n10_;clear n0_ n1_ n2_ n3_ n4_ n5_ n6_ n7_ n8_ n9_ n10_;clear hb hbox hg;have hnb32:=NB715_687.out;have hnc32:=NB687_715.out;have hnb33:=NB715_0.out;have hnc33:=NB0_715.out;obtain⟨hcz34_0,hcz34_1,hcz34_2,hfz34_0,hfz34_1,hfz34_2⟩:=bo3_ BK715))
      obtain⟨w35,hWz1⟩:∃W_,W_=(((w31.setCell ⟨gb715,0,none⟩ (.int .i64 t698)).setCell ⟨gb715,1,none⟩ (.slice none 0 0)).setCell ⟨gb715,2,none⟩ (.string (⟨#[]⟩:ByteArray))):=⟨_,rfl⟩
      have n0_:=wh_ hWz1 (bf_ BK687)
      have n1_:Aside0 (w35.heap[gb715]? = some (.cells #[.int .i64 t698,.slice none 0 0,.string (⟨#[]⟩:ByteArray)] 32 (0,0))):=by rw[hWz1];exact⟨(bp_ BK715).out⟩
      have n2_:Aside0 (IsS56 w0 w35 g x1000_15 x1001_15 x1002_15 x1003_15 x1004_15 x1005_15 x1006_15 x1007_15 x1008_15):=by rw[hWz1];exact⟨is56_ HI0⟩
      have n3_:Aside0 (KeepBut w w35 g none):=by rw[hWz1];exact⟨kp_ HK⟩
      have n4_:Aside0 (Below w0.heap.size w0 w35):=by rw[hWz1];exact⟨bs56_ HB HI0⟩
      (try clear BK687)
      (try clear BK715)
      (try clear HI0)
      (try clear HK)
      (try clear HB)
      rw[← hWz1]
      clear hWz1
      have BK687:=n0_
      have BK715:=n1_
      have HI0:=n2_
      have HK:=n3_
      have HB:=n4_
      clear n0_ n1_ n2_ n3_ n4_
      replace BK687:=Aside0.mk (blk_drew BK687.out)
      replace BK715:=Aside0.mk (blk_drew BK715.out)
      replace HI0:=Aside0.mk (IsS56.drew HI0.out)
      replace HK:=Aside0.mk (keep_drew HK.out)
      replace HB:=Aside0.mk (below_drew1 HB.out)
      refine start_ (n:=8) (S:=fun w'=>w'.cell? ⟨gb715,0,none⟩=some (.int .i64 t698)∧w'.cell? ⟨gb715,1,none⟩=some (.slice none 0 0)∧w'.cell? ⟨gb715,2,none⟩=some (.string (⟨#[]⟩:ByteArray))) (ds:=[]) #[false,false,false,false,false,false,false,false] (by kernel_rfl) rfl rfl ⟨bc_ BK715 0,bc_ BK715 1,bc_ BK715 2⟩ (fun hHeld=>?_);refine with_tabW rule_reader_rule_g.tab13 rule_reader_rule_g.bits13 (fun HT_ HW_=>?_)
      generalize w35.drew=w36 at BK687 BK715 HI0 HK HB hHeld ⊢
      refine pu_ 0 53 #[true,false,false,false,false,false,false,false] HT_ ?_
      refine pu_ 2 55 #[true,false,true,false,false,false,false,false] HT_ ?_
      refine tk_ 1 54 #[true,true,true,false,false,false,false,false] HT_ HW_ hHeld rfl (by rintro w' ⟨s0,s1,s2⟩;go_simp;with_reducible rfl) ?_
      refine one_ (i:=3) (N:=some 56) #[true,true,true,true,false,false,false,false] rfl rfl (one_of HT_.out (by kernel_rfl)) (by decide) (fun K hK=>?_)
      refine gp_ Tryd.func29 (by kernel_rfl) rfl #[.pointer (some ⟨g,0,none⟩)] (by rfl) rfl rfl (by (try simp only[List.map_toArray,List.map_cons,List.map_nil]);first|done|rfl|(simp only[List.length_drop,List.length_take];rfl)|(have z_:∀s_:ByteArray,s_.size≤9223372036854775807→ -(s_.size:Int)=wrap64 (-(s_.size:Int)):=(fun s_ h_=>by unfold wrap64;omega);rw[← z_ _ (by omega)];rfl)|(simp only[ByteArray.size_append];rfl)) ?_
      with_reducible refine(rule_reader_all_g.calls _ _ _ _ _ _ _ _ _ _ _ _ _ w0 _ ?side1 ?side2 A30.out).mono ?_
      (case side1=>exact is56_ HI0)
      (case side2=>exact bs56_ HB HI0)
      rintro e w' ⟨rfl,hb⟩
      refine⟨_,rfl,?_⟩
      exact And.intro rfl (And.intro rfl hb)
      try go_wp2
     ·skip
      replace H:=Option.bind_eq_some_iff.mp H
      obtain⟨⟨t726,t729,t730,t731,t732,t733,t734,t735,t736,t737⟩,A370,H⟩:=H
      dsimp only at H
      have A37:=Aside0.mk A370
      clear A370
      replace H:=ifn_ H
      obtain⟨c38,H⟩:=H
      have LMc38:=Aside0.mk c38
      clear c38
      obtain⟨y738,hy738⟩:∃y_:List (List (S36)),y_=(([]:List (List (S36)))++[t726]):=⟨_,rfl⟩
      replace H:(rule_reader_rule_g.l0 kj15 t729 t730 t731 t732 t733 t734 t735 t736 t737 t698 y738 (⟨#[]⟩:ByteArray))=some (r1,r2):=by first|(rw[hy738];with_reducible exact H)|(have H2_:=(Option.bind_some _ _).symm.trans H;rw[hy738];with_reducible exact H2_)|(have H2_:=(Option.bind_some _ _).symm.trans H;with_reducible exact H2_)|with_reducible exact H|(rw[hy738];exact H)|exact H
      have Ny738:=Aside0.mk hy738
      clear hy738
      have H':=Aside0.mk H
      clear H
      try go_wp2_with (first|((with_reducible refine gate_dst (N:=7) rfl ?_);refine be_ 7 #[.int .i64 0,.slice none 0 0,.string (⟨#[]⟩:ByteArray)] 32 ?_;intro gb715 hg w39 hbox hb;have n0_:=bb_ BK687 hb;have n1_:=Aside0.mk (IsS56.below (is56_ HI0) hb);have n2_:=Aside0.mk (KeepBut.trans (kp_ HK) (KeepBut.of_below hb g none) (.inl rfl));have n3_:=Aside0.mk (below_step (bs56_ HB HI0) hb);have n4_:=Aside0.mk (hbox);have n5_:=Aside0.mk ((by rw[hg];exact(keep_size (w:=w) (g:=g) (row:=none) (kp_ HK)):w.heap.size≤gb715));have n6_:=Aside0.mk ((Nat.le_trans HW0.out (by rw[hg];exact(keep_size (w:=w) (g:=g) (row:=none) (kp_ HK)):w.heap.size≤gb715):w0.heap.size≤gb715));have n7_:=na_ BK687 hg;have n8_:=nb_ BK687 hg;have n9_:=Aside0.mk ((by rw[hg];exact Nat.ne_of_lt (IsS56.lt (show IsS56 w0 _ g x1000_15 x1001_15 x1002_15 x1003_15 x1004_15 x1005_15 x1006_15 x1007_15 x1008_15 from is56_ HI0)):g≠gb715));have n10_:=Aside0.mk ((by rw[hg];exact Nat.ne_of_gt (IsS56.lt (show IsS56 w0 _ g x1000_15 x1001_15 x1002_15 x1003_15 x1004_15 x1005_15 x1006_15 x1007_15 x1008_15 from is56_ HI0)):gb715≠g));clear BK687;clear HI0;clear HK;clear HB;have BK687:=n0_;have HI0:=n1_;have HK:=n2_;have HB:=n3_;have BK715:=n4_;have GW715:=n5_;have GE715:=n6_;have NB687_715:=n7_;have NB715_687:=n8_;have NB0_715:=n9_;have NB715_0:=n10_;clear n0_ n1_ n2_ n3_ n4_ n5_ n6_ n7_ n8_ n9_ n10_;clear hb hbox hg;have hnb40:=NB715_687.out;have hnc40:=NB687_715.out;have hnb41:=NB715_0.out;have hnc41:=NB0_715.out;obtain⟨hcz42_0,hcz42_1,hcz42_2,hfz42_0,hfz42_1,hfz42_2⟩:=bo3_ BK715))
      obtain⟨w43,hWz2⟩:∃W_,W_=(((w39.setCell ⟨gb715,0,none⟩ (.int .i64 t698)).setCell ⟨gb715,1,none⟩ (.slice none 0 0)).setCell ⟨gb715,2,none⟩ (.string (⟨#[]⟩:ByteArray))):=⟨_,rfl⟩
      have n0_:=wh_ hWz2 (bf_ BK687)
      have n1_:Aside0 (w43.heap[gb715]? = some (.cells #[.int .i64 t698,.slice none 0 0,.string (⟨#[]⟩:ByteArray)] 32 (0,0))):=by rw[hWz2];exact⟨(bp_ BK715).out⟩
      have n2_:Aside0 (IsS56 w0 w43 g x1000_15 x1001_15 x1002_15 x1003_15 x1004_15 x1005_15 x1006_15 x1007_15 x1008_15):=by rw[hWz2];exact⟨is56_ HI0⟩
      have n3_:Aside0 (KeepBut w w43 g none):=by rw[hWz2];exact⟨kp_ HK⟩
      have n4_:Aside0 (Below w0.heap.size w0 w43):=by rw[hWz2];exact⟨bs56_ HB HI0⟩
      (try clear BK687)
      (try clear BK715)
      (try clear HI0)
      (try clear HK)
      (try clear HB)
      rw[← hWz2]
      clear hWz2
      have BK687:=n0_
      have BK715:=n1_
      have HI0:=n2_
      have HK:=n3_
      have HB:=n4_
      clear n0_ n1_ n2_ n3_ n4_
      replace BK687:=Aside0.mk (blk_drew BK687.out)
      replace BK715:=Aside0.mk (blk_drew BK715.out)
      replace HI0:=Aside0.mk (IsS56.drew HI0.out)
      replace HK:=Aside0.mk (keep_drew HK.out)
      replace HB:=Aside0.mk (below_drew1 HB.out)
      refine start_ (n:=8) (S:=fun w'=>w'.cell? ⟨gb715,0,none⟩=some (.int .i64 t698)∧w'.cell? ⟨gb715,1,none⟩=some (.slice none 0 0)∧w'.cell? ⟨gb715,2,none⟩=some (.string (⟨#[]⟩:ByteArray))) (ds:=[7]) #[false,false,false,false,false,false,false,false] (by kernel_rfl) rfl rfl ⟨bc_ BK715 0,bc_ BK715 1,bc_ BK715 2⟩ (fun hHeld=>?_);refine with_tabW rule_reader_rule_g.tab13 rule_reader_rule_g.bits13 (fun HT_ HW_=>?_)
      generalize w43.drew=w44 at BK687 BK715 HI0 HK HB hHeld ⊢
      refine pu_ 0 53 #[true,false,false,false,false,false,false,false] HT_ ?_
      refine pu_ 2 55 #[true,false,true,false,false,false,false,false] HT_ ?_
      refine tk_ 1 54 #[true,true,true,false,false,false,false,false] HT_ HW_ hHeld rfl (by rintro w' ⟨s0,s1,s2⟩;go_simp;with_reducible rfl) ?_
      refine one_ (i:=3) (N:=some 56) #[true,true,true,true,false,false,false,false] rfl rfl (one_of HT_.out (by kernel_rfl)) (by decide) (fun K hK=>?_)
      refine gs_ Tryd.func29 #[.pointer (some ⟨g,0,none⟩)] ?_
      with_reducible refine(rule_reader_all.calls _ _ _ _ _ _ _ _ _ _ _ _ _ _ _ _ _ _ _ _ _ w0 _ ?side1 ?side2 A37.out).mono ?_
      (case side1=>exact is56_ HI0)
      (case side2=>exact bs56_ HB HI0)
      rintro e w45 ⟨v727,rfl,ho0,hi,hb,hk⟩
      refine⟨_,rfl,?_⟩
      have n0_:=Aside0.mk (KeepBut.blk hk (bk_ BK687).out NB687_0.out (by simp))
      have n1_:=Aside0.mk (KeepBut.blk hk (bk_ BK715).out NB715_0.out (by simp))
      have n2_:=Aside0.mk (Kd.N_lower (Kd.N_mono (ok':=fun k_=>k_≠gb687∧k_≠gb715∧k_≠g) ho0 (fun k_ hk_=>⟨(Kd.freshB (bk_ BK687).out k_ hk_),(Kd.freshB (bk_ BK715).out k_ hk_),(IsS56.fresh (is56_ HI0) k_ hk_)⟩)) (keep_size (w:=w) (g:=g) (row:=none) (kp_ HK)))
      have n3_:=Aside0.mk (KeepBut.trans (kp_ HK) hk (.inl rfl))
      have n4_:=Aside0.mk (hb)
      have n5_:=Aside0.mk (hi)
      clear BK687
      clear BK715
      clear HK
      clear HB
      clear HI0
      have BK687:=n0_
      have BK715:=n1_
      have HO728:=n2_
      have HK:=n3_
      have HB:=n4_
      have HI0:=n5_
      clear n0_ n1_ n2_ n3_ n4_ n5_
      (try clear hb)
      (try clear hb2)
      (try clear hk)
      (try clear hi)
      (try clear ho0)
      obtain⟨Ao47,co47,eo47⟩:=Kd.N_slice HO728.out
      (first|subst eo47|(injection eo47 with f1_ f2_ f3_;have f4_:=f1_.symm;have f5_:=f3_.symm;clear f1_ f2_ f3_;subst f4_;subst f5_))
      refine hK.out _ _ ⟨bc_ BK715 0,bc_ BK715 1,bc_ BK715 2⟩ (fun hHeld=>?_)
      clear hK K
      refine nm_ 56 ?_
      refine one_ (i:=4) (N:=some 57) #[true,true,true,true,true,false,false,false] rfl rfl (one_of HT_.out (by kernel_rfl)) (by decide) (fun K hK=>?_)
      refine value_ (w1:=?_) (v:=?_) (by rfl) rfl ?_ ?_
      rotate_left 2
      ·go_simp
       constructor
       ·rfl
       ·rfl
      refine hK.out _ _ ⟨(blk_cell (blk_alloc BK715.out _) 0).trans rfl,(blk_cell (blk_alloc BK715.out _) 1).trans rfl,(blk_cell (blk_alloc BK715.out _) 2).trans rfl⟩ (fun hHeld=>?_)
      clear hK K
      refine nm_ 57 ?_
      refine one_ (i:=5) (N:=some 58) #[true,true,true,true,true,true,false,false] rfl rfl (one_of HT_.out (by kernel_rfl)) (by decide) (fun K hK=>?_)
      refine Kd.N_append_step (Kd.slice 36 k36) w.heap.size (by rfl) (.tmp 54) (.tmp 57) 30 33 (.slice none 0 0) 24 rfl Tryd.underlying30 info33 rfl (by decide) (by omega) (.slice none 0 0) ([]:List (List (S36))) t726 [.slice Ao47 t726.length co47] (fun k_=>k_≠gb687∧k_≠gb715∧k_≠g) (fun k_=>((fun k_=>k_≠gb687∧k_≠gb715∧k_≠g)) k_∧some k_≠(.slice none 0 0:Value).ownBlock) rfl rfl ?aP (fun _ hk=>hk) ?aF ?aO (Below.refl _ _) ?aS ?aL ?_
      (case aP=>exact(Kd.FK_slice_mk (Kd.N_reads' (Kd.N_mono (ok':=(fun k_=>((fun k_=>k_≠gb687∧k_≠gb715∧k_≠g)) k_∧some k_≠(.slice none 0 0:Value).ownBlock)) (HO728.out) (fun k_ hk=>⟨⟨hk.1,⟨hk.2.1,hk.2.2⟩⟩,(by simp[Value.ownBlock])⟩))).2.1 (Kd.N_F (Kd.N_mono (ok':=(fun k_=>((fun k_=>k_≠gb687∧k_≠gb715∧k_≠g)) k_∧some k_≠(.slice none 0 0:Value).ownBlock)) (HO728.out) (fun k_ hk=>⟨⟨hk.1,⟨hk.2.1,hk.2.2⟩⟩,(by simp[Value.ownBlock])⟩)))))
      (case aF=>exact(fun k_ hk=>⟨Kd.freshB (bk_ BK687).out k_ hk,Kd.freshB (bk_ BK715).out k_ hk,IsS56.fresh (is56_ HI0) k_ hk⟩))
      (case aO=>exact((Kd.N_nil _ _ _ _ (fun k_=>k_≠gb687∧k_≠gb715∧k_≠g))))
      (case aS=>exact(keep_size (w:=w) (g:=g) (row:=none) (kp_ HK)))
      (case aL=>have:=LMc38.out;omega)
      intro v739 w46 ho hb hg hat
      rw[← Ny738.out] at ho
      have n0_:=Aside0.mk (blk_grown (bk_ BK687).out hg (by simp[Value.ownBlock]))
      have n1_:=Aside0.mk (IsS56.grown (is56_ HI0) hg (by simp[Value.ownBlock]))
      have n2_:=Aside0.mk (blk_grown (bk_ BK715).out hg (by simp[Value.ownBlock]))
      have n3_:=Aside0.mk (below_weaken (bs56_ HB HI0) HL.out hb)
      have n4_:=Aside0.mk (KeepBut.trans (kp_ HK) (KeepBut.of_grown hg g) (.inl (by simp[Value.ownBlock])))
      have n5_:=Aside0.mk (ho)
      clear BK687
      clear HI0
      clear BK715
      clear HB
      clear HK
      clear HO728
      have BK687:=n0_
      have HI0:=n1_
      have BK715:=n2_
      have HB:=n3_
      have HK:=n4_
      have HO740:=n5_
      clear n0_ n1_ n2_ n3_ n4_ n5_
      clear ho hb hg hat
      obtain⟨Ao48,co48,eo48⟩:=Kd.N_slice HO740.out
      (first|subst eo48|(injection eo48 with f1_ f2_ f3_;have f4_:=f1_.symm;have f5_:=f3_.symm;clear f1_ f2_ f3_;subst f4_;subst f5_))
      refine hK.out _ _ ⟨bc_ BK715 0,bc_ BK715 1,bc_ BK715 2⟩ (fun hHeld=>?_)
      clear hK K
      refine nm_ 58 ?_
      refine pu_ 6 59 #[true,true,true,true,true,true,true,false] HT_ ?_
      refine last_ (i:=7) (N:=none) #[true,true,true,true,true,true,true,true] rfl rfl (one_of HT_.out (by kernel_rfl)) (by decide) (fun K hK=>?_)
      have hs49:w46.cell? ⟨gb715,1,none⟩=some (.slice none 0 0):=bc_ BK715 1
      have hfs49:=blk_frozen BK715.out 1
      have hns49_0:=NB687_715.out
      have hms49_0:=NB715_687.out
      refine skip_ (w1:=?_) (by rfl) rfl ?_ ?_
      rotate_left
      ·go_simp
       rfl
      refine hK.out _ _ ?_
      clear hK K
      refine done_ (done_of HT_.out (by kernel_rfl)) ?_
      try go_wp2
      go_loopg [] kj15 (fun kq w'=>∃(x1000_2:ByteArray) (x1001_2:Int) (x1002_2:Int) (x1003_2:Bool) (x1004_2:Bool) (x1005_2:Bool) (x1006_2:Bool) (x1007_2:Bool) (x1008_2:Bool) (x716001_2:List (List (S36))) (u716001:Value),Aside0 (rule_reader_rule_g.l0 kq x1000_2 x1001_2 x1002_2 x1003_2 x1004_2 x1005_2 x1006_2 x1007_2 x1008_2 t698 x716001_2 (⟨#[]⟩:ByteArray)=some (r1,r2))∧Aside0 (kq≤kj15)∧Aside0 (Kd.N (Kd.slice 36 k36) 33 w' w.heap.size (fun k_=>k_≠gb687∧k_≠gb715∧k_≠g) u716001 x716001_2)∧Aside0 (w'.heap[gb687]? = some (.cells #[.int .i64 0,(.slice none 0 0),.string (⟨#[]⟩:ByteArray)] 32 (0,0)))∧Aside0 (w'.heap[gb715]? = some (.cells #[.int .i64 t698,u716001,.string (⟨#[]⟩:ByteArray)] 32 (0,0)))∧Aside0 (IsS56 w0 w' g x1000_2 x1001_2 x1002_2 x1003_2 x1004_2 x1005_2 x1006_2 x1007_2 x1008_2)∧Aside0 (KeepBut w w' g none)∧Aside0 (Below w0.heap.size w0 w'))
      case atStart=>exact⟨(t729),(t730),(t731),(t732),(t733),(t734),(t735),(t736),(t737),(y738),(.slice Ao48 y738.length co48),H',⟨Nat.le_refl _⟩,⟨kdN_ (Kd.N_mono (Kd.N_far (Kd.N_mono HO740.out (fun k_ hk=>(⟨hk,hk.2.1⟩:_∧k_≠gb715))) (fun _ hk=>hk.2) _) (fun _ hk=>⟨hk.1.1,⟨hk.1.2.1,hk.1.2.2⟩⟩))⟩,⟨(bf_ BK687).out⟩,⟨(bp_ BK715).out⟩,⟨is56_ HI0⟩,⟨kp_ HK⟩,⟨bs56_ HB HI0⟩⟩
      case round =>
       clear H'
       obtain⟨x1000_2,x1001_2,x1002_2,x1003_2,x1004_2,x1005_2,x1006_2,x1007_2,x1008_2,x716001_2,u716001,HA,HK2,HO_716001,BK687,BK715,HI0,HK,HB⟩:=hrel
       cases gk with
       | zero=>exact absurd HA.out (by simp[rule_reader_rule_g.l0])
       | succ k2 =>
        have H:=HA.out
        clear HA
        simp only[rule_reader_rule_g.l0] at H
        replace H:=Option.bind_eq_some_iff.mp H
        obtain⟨⟨t741,t742,t743,t744,t745,t746,t747,t748,t749,t750⟩,A500,H⟩:=H
        dsimp only at H
        have A50:=Aside0.mk A500
        clear A500
        by_cases c51:t741=true
        ·subst c51
         have H1:(orf_ ((rule_reader_all_g.f k2 t742 t743 t744 t745 t746 t747 t748 t749 t750).bind fun bt766=>(some (bt766.1,bt766.2))) ((rule_reader_all.f k2 t742 t743 t744 t745 t746 t747 t748 t749 t750).bind fun bt751=>(if x716001_2.length<5864062014805 then (rule_reader_rule_g.l0 k2 bt751.2.1 bt751.2.2.1 bt751.2.2.2.1 bt751.2.2.2.2.1 bt751.2.2.2.2.2.1 bt751.2.2.2.2.2.2.1 bt751.2.2.2.2.2.2.2.1 bt751.2.2.2.2.2.2.2.2.1 bt751.2.2.2.2.2.2.2.2.2 t698 (x716001_2++[bt751.1]) (⟨#[]⟩:ByteArray)) else (none))))=some (r1,r2):=by rw[if_pos rfl] at H;exact H
         clear H
         have H:=H1
         clear H1
         rcases orf_or H with H|H
         ·skip
          replace H:=Option.bind_eq_some_iff.mp H
          obtain⟨⟨t766,t767⟩,A520,H⟩:=H
          dsimp only at H
          have A52:=Aside0.mk A520
          clear A520
          simp only[Option.some.injEq,Prod.mk.injEq] at H
          obtain⟨rfl,rfl⟩:=H
          try go_wp2_with (first|((with_reducible refine gate_callee (f:=30) rfl ?_);refine gl_ (some 61) Tryd.func30 #[.pointer (some ⟨g,0,none⟩),.string (⟨#[111,114]⟩:ByteArray)] ?_;(with_reducible refine(rule_reader_next.calls _ _ _ _ _ _ _ _ _ _ _ _ _ _ _ _ _ _ _ _ _ _ w0 _ ?side1 ?side2 A50.out).mono ?_);(case side1=>exact is56_ HI0);(case side2=>exact bs56_ HB HI0);rintro e w53 ⟨rfl,hi,hb,hk⟩;refine⟨_,rfl,?_⟩;have n0_:=Aside0.mk (Kd.N_mono (Kd.N_keep (Kd.N_mono (ok:=fun k_=>(k_≠gb687∧(k_≠gb715∧k_≠g))) (krN_ HO_716001) (fun k_ hk_=>(⟨hk_,hk_.2.2⟩:_∧k_≠g))) hk (fun _ h=>h.2)) (fun _ h=>h.1));have n1_:=Aside0.mk (KeepBut.blk hk (bk_ BK687).out NB687_0.out (by simp));have n2_:=Aside0.mk (KeepBut.blk hk (bk_ BK715).out NB715_0.out (by simp));have n3_:=Aside0.mk (KeepBut.trans (kp_ HK) hk (.inl rfl));have n4_:=Aside0.mk (hb);have n5_:=Aside0.mk (hi);clear HO_716001;clear BK687;clear BK715;clear HK;clear HB;clear HI0;have HO_716001:=n0_;have BK687:=n1_;have BK715:=n2_;have HK:=n3_;have HB:=n4_;have HI0:=n5_;clear n0_ n1_ n2_ n3_ n4_ n5_;(try clear hb);(try clear hk);(try clear hi)))
          replace HO_716001:=Aside0.mk (Kd.N_drew HO_716001.out)
          replace BK687:=Aside0.mk (blk_drew BK687.out)
          replace BK715:=Aside0.mk (blk_drew BK715.out)
          replace HI0:=Aside0.mk (IsS56.drew HI0.out)
          replace HK:=Aside0.mk (keep_drew HK.out)
          replace HB:=Aside0.mk (below_drew1 HB.out)
          refine start_ (n:=8) (S:=fun w'=>w'.cell? ⟨gb715,0,none⟩=some (.int .i64 t698)∧w'.cell? ⟨gb715,1,none⟩=some (u716001)∧w'.cell? ⟨gb715,2,none⟩=some (.string (⟨#[]⟩:ByteArray))) (ds:=[]) #[false,false,false,false,false,false,false,false] (by kernel_rfl) rfl rfl ⟨bc_ BK715 0,bc_ BK715 1,bc_ BK715 2⟩ (fun hHeld=>?_);refine with_tabW rule_reader_rule_g.tab15 rule_reader_rule_g.bits15 (fun HT_ HW_=>?_)
          generalize w53.drew=w54 at HO_716001 BK687 BK715 HI0 HK HB hHeld ⊢
          refine pu_ 0 62 #[true,false,false,false,false,false,false,false] HT_ ?_
          refine pu_ 2 64 #[true,false,true,false,false,false,false,false] HT_ ?_
          refine tk_ 1 63 #[true,true,true,false,false,false,false,false] HT_ HW_ hHeld rfl (by rintro w' ⟨s0,s1,s2⟩;go_simp;with_reducible rfl) ?_
          refine one_ (i:=3) (N:=some 65) #[true,true,true,true,false,false,false,false] rfl rfl (one_of HT_.out (by kernel_rfl)) (by decide) (fun K hK=>?_)
          refine gp_ Tryd.func29 (by kernel_rfl) rfl #[.pointer (some ⟨g,0,none⟩)] (by rfl) rfl rfl (by (try simp only[List.map_toArray,List.map_cons,List.map_nil]);first|done|rfl|(simp only[List.length_drop,List.length_take];rfl)|(have z_:∀s_:ByteArray,s_.size≤9223372036854775807→ -(s_.size:Int)=wrap64 (-(s_.size:Int)):=(fun s_ h_=>by unfold wrap64;omega);rw[← z_ _ (by omega)];rfl)|(simp only[ByteArray.size_append];rfl)) ?_
          with_reducible refine(rule_reader_all_g.calls _ _ _ _ _ _ _ _ _ _ _ _ _ w0 _ ?side1 ?side2 A52.out).mono ?_
          (case side1=>exact is56_ HI0)
          (case side2=>exact bs56_ HB HI0)
          rintro e w' ⟨rfl,hb⟩
          refine⟨_,rfl,?_⟩
          exact And.intro rfl (And.intro rfl hb)
          try go_wp2
         ·skip
          replace H:=Option.bind_eq_some_iff.mp H
          obtain⟨⟨t751,t754,t755,t756,t757,t758,t759,t760,t761,t762⟩,A550,H⟩:=H
          dsimp only at H
          have A55:=Aside0.mk A550
          clear A550
          replace H:=ifn_ H
          obtain⟨c56,H⟩:=H
          have LMc56:=Aside0.mk c56
          clear c56
          obtain⟨y763,hy763⟩:∃y_:List (List (S36)),y_=(x716001_2++[t751]):=⟨_,rfl⟩
          replace H:(rule_reader_rule_g.l0 k2 t754 t755 t756 t757 t758 t759 t760 t761 t762 t698 y763 (⟨#[]⟩:ByteArray))=some (r1,r2):=by first|(rw[hy763];with_reducible exact H)|(have H2_:=(Option.bind_some _ _).symm.trans H;rw[hy763];with_reducible exact H2_)|(have H2_:=(Option.bind_some _ _).symm.trans H;with_reducible exact H2_)|with_reducible exact H|(rw[hy763];exact H)|exact H
          have Ny763:=Aside0.mk hy763
          clear hy763
          have H':=Aside0.mk H
          clear H
          try go_wp2_with (first|((with_reducible refine gate_callee (f:=30) rfl ?_);refine gl_ (some 61) Tryd.func30 #[.pointer (some ⟨g,0,none⟩),.string (⟨#[111,114]⟩:ByteArray)] ?_;(with_reducible refine(rule_reader_next.calls _ _ _ _ _ _ _ _ _ _ _ _ _ _ _ _ _ _ _ _ _ _ w0 _ ?side1 ?side2 A50.out).mono ?_);(case side1=>exact is56_ HI0);(case side2=>exact bs56_ HB HI0);rintro e w57 ⟨rfl,hi,hb,hk⟩;refine⟨_,rfl,?_⟩;have n0_:=Aside0.mk (Kd.N_mono (Kd.N_keep (Kd.N_mono (ok:=fun k_=>(k_≠gb687∧(k_≠gb715∧k_≠g))) (krN_ HO_716001) (fun k_ hk_=>(⟨hk_,hk_.2.2⟩:_∧k_≠g))) hk (fun _ h=>h.2)) (fun _ h=>h.1));have n1_:=Aside0.mk (KeepBut.blk hk (bk_ BK687).out NB687_0.out (by simp));have n2_:=Aside0.mk (KeepBut.blk hk (bk_ BK715).out NB715_0.out (by simp));have n3_:=Aside0.mk (KeepBut.trans (kp_ HK) hk (.inl rfl));have n4_:=Aside0.mk (hb);have n5_:=Aside0.mk (hi);clear HO_716001;clear BK687;clear BK715;clear HK;clear HB;clear HI0;have HO_716001:=n0_;have BK687:=n1_;have BK715:=n2_;have HK:=n3_;have HB:=n4_;have HI0:=n5_;clear n0_ n1_ n2_ n3_ n4_ n5_;(try clear hb);(try clear hk);(try clear hi)))
          replace HO_716001:=Aside0.mk (Kd.N_drew HO_716001.out)
          replace BK687:=Aside0.mk (blk_drew BK687.out)
          replace BK715:=Aside0.mk (blk_drew BK715.out)
          replace HI0:=Aside0.mk (IsS56.drew HI0.out)
          replace HK:=Aside0.mk (keep_drew HK.out)
          replace HB:=Aside0.mk (below_drew1 HB.out)
          refine start_ (n:=8) (S:=fun w'=>w'.cell? ⟨gb715,0,none⟩=some (.int .i64 t698)∧w'.cell? ⟨gb715,1,none⟩=some (u716001)∧w'.cell? ⟨gb715,2,none⟩=some (.string (⟨#[]⟩:ByteArray))) (ds:=[7]) #[false,false,false,false,false,false,false,false] (by kernel_rfl) rfl rfl ⟨bc_ BK715 0,bc_ BK715 1,bc_ BK715 2⟩ (fun hHeld=>?_);refine with_tabW rule_reader_rule_g.tab15 rule_reader_rule_g.bits15 (fun HT_ HW_=>?_)
          generalize w57.drew=w58 at HO_716001 BK687 BK715 HI0 HK HB hHeld ⊢
          refine pu_ 0 62 #[true,false,false,false,false,false,false,false] HT_ ?_
          refine pu_ 2 64 #[true,false,true,false,false,false,false,false] HT_ ?_
          refine tk_ 1 63 #[true,true,true,false,false,false,false,false] HT_ HW_ hHeld rfl (by rintro w' ⟨s0,s1,s2⟩;go_simp;with_reducible rfl) ?_
          refine one_ (i:=3) (N:=some 65) #[true,true,true,true,false,false,false,false] rfl rfl (one_of HT_.out (by kernel_rfl)) (by decide) (fun K hK=>?_)
          refine gs_ Tryd.func29 #[.pointer (some ⟨g,0,none⟩)] ?_
          with_reducible refine(rule_reader_all.calls _ _ _ _ _ _ _ _ _ _ _ _ _ _ _ _ _ _ _ _ _ w0 _ ?side1 ?side2 A55.out).mono ?_
          (case side1=>exact is56_ HI0)
          (case side2=>exact bs56_ HB HI0)
          rintro e w59 ⟨v752,rfl,ho0,hi,hb,hk⟩
          refine⟨_,rfl,?_⟩
          have n0_:=Aside0.mk (Kd.N_mono (Kd.N_told (Kd.N_oldK (Kd.N_mono (ok:=fun k_=>(k_≠gb687∧(k_≠gb715∧k_≠g))) (krN_ HO_716001) (fun k_ hk_=>(⟨hk_,hk_.2.2⟩:_∧k_≠g))) hk) (Kd.N_base ho0)) (fun _ h_=>h_.1))
          have n1_:=Aside0.mk (KeepBut.blk hk (bk_ BK687).out NB687_0.out (by simp))
          have n2_:=Aside0.mk (KeepBut.blk hk (bk_ BK715).out NB715_0.out (by simp))
          have n3_:=Aside0.mk (Kd.N_lower (Kd.N_mono (ok':=fun k_=>some k_≠(u716001:Value).ownBlock∧k_≠gb687∧k_≠gb715∧k_≠g) ho0 (fun k_ hk_=>⟨(Kd.fresh' (Kd.N_lt (krN_ HO_716001)) k_ hk_),(Kd.freshB (bk_ BK687).out k_ hk_),(Kd.freshB (bk_ BK715).out k_ hk_),(IsS56.fresh (is56_ HI0) k_ hk_)⟩)) (keep_size (w:=w) (g:=g) (row:=none) (kp_ HK)))
          have n4_:=Aside0.mk (KeepBut.trans (kp_ HK) hk (.inl rfl))
          have n5_:=Aside0.mk (hb)
          have n6_:=Aside0.mk (hi)
          clear HO_716001
          clear BK687
          clear BK715
          clear HK
          clear HB
          clear HI0
          have HO_716001:=n0_
          have BK687:=n1_
          have BK715:=n2_
          have HO753:=n3_
          have HK:=n4_
          have HB:=n5_
          have HI0:=n6_
          clear n0_ n1_ n2_ n3_ n4_ n5_ n6_
          (try clear hb)
          (try clear hb2)
          (try clear hk)
          (try clear hi)
          (try clear ho0)
          obtain⟨Ao61,co61,eo61⟩:=Kd.N_slice HO753.out
          (first|subst eo61|(injection eo61 with f1_ f2_ f3_;have f4_:=f1_.symm;have f5_:=f3_.symm;clear f1_ f2_ f3_;subst f4_;subst f5_))
          refine hK.out _ _ ⟨bc_ BK715 0,bc_ BK715 1,bc_ BK715 2⟩ (fun hHeld=>?_)
          clear hK K
          refine nm_ 65 ?_
          refine one_ (i:=4) (N:=some 66) #[true,true,true,true,true,false,false,false] rfl rfl (one_of HT_.out (by kernel_rfl)) (by decide) (fun K hK=>?_)
          refine value_ (w1:=?_) (v:=?_) (by rfl) rfl ?_ ?_
          rotate_left 2
          ·go_simp
           constructor
           ·rfl
           ·rfl
          refine hK.out _ _ ⟨(blk_cell (blk_alloc BK715.out _) 0).trans rfl,(blk_cell (blk_alloc BK715.out _) 1).trans rfl,(blk_cell (blk_alloc BK715.out _) 2).trans rfl⟩ (fun hHeld=>?_)
          clear hK K
          refine nm_ 66 ?_
          refine one_ (i:=5) (N:=some 67) #[true,true,true,true,true,true,false,false] rfl rfl (one_of HT_.out (by kernel_rfl)) (by decide) (fun K hK=>?_)
          refine Kd.N_append_step (Kd.slice 36 k36) w.heap.size (by rfl) (.tmp 63) (.tmp 66) 30 33 (.slice none 0 0) 24 rfl Tryd.underlying30 info33 rfl (by decide) (by omega) u716001 x716001_2 t751 [.slice Ao61 t751.length co61] (fun k_=>k_≠gb687∧k_≠gb715∧k_≠g) (fun k_=>((fun k_=>k_≠gb687∧k_≠gb715∧k_≠g)) k_∧some k_≠(u716001:Value).ownBlock) rfl rfl ?aP (fun _ hk=>hk) ?aF ?aO (Below.refl _ _) ?aS ?aL ?_
          (case aP=>exact(Kd.FK_slice_mk (Kd.N_reads' (Kd.N_mono (ok':=(fun k_=>((fun k_=>k_≠gb687∧k_≠gb715∧k_≠g)) k_∧some k_≠(u716001:Value).ownBlock)) (HO753.out) (fun k_ hk=>⟨⟨hk.2.1,⟨hk.2.2.1,hk.2.2.2⟩⟩,hk.1⟩))).2.1 (Kd.N_F (Kd.N_mono (ok':=(fun k_=>((fun k_=>k_≠gb687∧k_≠gb715∧k_≠g)) k_∧some k_≠(u716001:Value).ownBlock)) (HO753.out) (fun k_ hk=>⟨⟨hk.2.1,⟨hk.2.2.1,hk.2.2.2⟩⟩,hk.1⟩)))))
          (case aF=>exact(fun k_ hk=>⟨Kd.freshB (bk_ BK687).out k_ hk,Kd.freshB (bk_ BK715).out k_ hk,IsS56.fresh (is56_ HI0) k_ hk⟩))
          (case aO=>exact(kdN_ (Kd.N_mono HO_716001.out (fun _ hk=>⟨hk.1.1,⟨hk.1.2.1,hk.1.2.2⟩⟩))))
          (case aS=>exact(keep_size (w:=w) (g:=g) (row:=none) (kp_ HK)))
          (case aL=>have:=LMc56.out;omega)
          intro v764 w60 ho hb hg hat
          rw[← Ny763.out] at ho
          have n0_:=Aside0.mk (blk_grown (bk_ BK687).out hg (Kd.N_ne HO_716001.out BK687.out (by decide)))
          have n1_:=Aside0.mk (blk_grown (bk_ BK715).out hg (Kd.N_ne HO_716001.out BK715.out (by decide)))
          have n2_:=Aside0.mk (IsS56.grown (is56_ HI0) hg (IsS56.own_neN HI0.out HO_716001.out (by decide)))
          have n3_:=Aside0.mk (below_weaken (bs56_ HB HI0) HL.out hb)
          have n4_:=Aside0.mk (KeepBut.trans (kp_ HK) (KeepBut.of_grown hg g) (Kd.N_base2 HO_716001.out))
          have n5_:=Aside0.mk (ho)
          clear BK687
          clear BK715
          clear HI0
          clear HB
          clear HK
          clear HO_716001
          clear HO753
          have BK687:=n0_
          have BK715:=n1_
          have HI0:=n2_
          have HB:=n3_
          have HK:=n4_
          have HO765:=n5_
          clear n0_ n1_ n2_ n3_ n4_ n5_
          clear ho hb hg hat
          obtain⟨Ao62,co62,eo62⟩:=Kd.N_slice HO765.out
          (first|subst eo62|(injection eo62 with f1_ f2_ f3_;have f4_:=f1_.symm;have f5_:=f3_.symm;clear f1_ f2_ f3_;subst f4_;subst f5_))
          refine hK.out _ _ ⟨bc_ BK715 0,bc_ BK715 1,bc_ BK715 2⟩ (fun hHeld=>?_)
          clear hK K
          refine nm_ 67 ?_
          refine pu_ 6 68 #[true,true,true,true,true,true,true,false] HT_ ?_
          refine last_ (i:=7) (N:=none) #[true,true,true,true,true,true,true,true] rfl rfl (one_of HT_.out (by kernel_rfl)) (by decide) (fun K hK=>?_)
          have hs63:w60.cell? ⟨gb715,1,none⟩=some (u716001):=bc_ BK715 1
          have hfs63:=blk_frozen BK715.out 1
          have hns63_0:=NB687_715.out
          have hms63_0:=NB715_687.out
          refine skip_ (w1:=?_) (by rfl) rfl ?_ ?_
          rotate_left
          ·go_simp
           rfl
          refine hK.out _ _ ?_
          clear hK K
          refine done_ (done_of HT_.out (by kernel_rfl)) ?_
          try go_wp2
          go_roundg k2
          case measure=>have:=HJ15.out;have:=HK2.out;omega
          case rel=>exact⟨(t754),(t755),(t756),(t757),(t758),(t759),(t760),(t761),(t762),(y763),(.slice Ao62 y763.length co62),H',⟨by have:=HJ15.out;have:=HK2.out;omega⟩,⟨kdN_ (Kd.N_mono (Kd.N_far (Kd.N_mono HO765.out (fun k_ hk=>(⟨hk,hk.2.1⟩:_∧k_≠gb715))) (fun _ hk=>hk.2) _) (fun _ hk=>⟨hk.1.1,⟨hk.1.2.1,hk.1.2.2⟩⟩))⟩,⟨(bf_ BK687).out⟩,⟨(bp_ BK715).out⟩,⟨is56_ HI0⟩,⟨kp_ HK⟩,⟨bs56_ HB HI0⟩⟩
        ·replace c51:=Bool.eq_false_iff.mpr c51
         subst c51
         have H1:(none)=some (r1,r2):=by rw[if_neg (show ¬(false=true) by decide)] at H;exact H
         clear H
         have H:=H1
         clear H1
         exact absurd H (by simp)
 ·replace c4:=Bool.eq_false_iff.mpr c4
  subst c4
  have H1:((rule_fail_g.f 1 t690).bind fun bt702=>(some (bt702.1,bt702.2)))=some (r1,r2):=by rw[if_neg (show ¬(false=true) by decide)] at H;exact H
  clear H
  have H:=H1
  clear H1
  replace H:=Option.bind_eq_some_iff.mp H
  obtain⟨⟨t702,t703⟩,A640,H⟩:=H
  dsimp only at H
  have A64:=Aside0.mk A640
  clear A640
  simp only[Option.some.injEq,Prod.mk.injEq] at H
  obtain⟨rfl,rfl⟩:=H
  go_enter Tryd.func19,Tryd.ntmps19
  go_wp2_with (first|((with_reducible refine gate_dst (N:=2) rfl ?_);refine be_ 2 #[.int .i64 0,.slice none 0 0,.string (⟨#[]⟩:ByteArray)] 32 ?_;intro gb687 hg w65 hbox hb;have n0_:=Aside0.mk (IsS56.below (is56_ HI0) hb);have n1_:=Aside0.mk (KeepBut.trans (kp_ HK) (KeepBut.of_below hb g none) (.inl rfl));have n2_:=Aside0.mk (below_step (bs56_ HB HI0) hb);have n3_:=Aside0.mk (hbox);have n4_:=Aside0.mk ((by rw[hg];exact(keep_size (w:=w) (g:=g) (row:=none) (kp_ HK)):w.heap.size≤gb687));have n5_:=Aside0.mk ((Nat.le_trans HW0.out (by rw[hg];exact(keep_size (w:=w) (g:=g) (row:=none) (kp_ HK)):w.heap.size≤gb687):w0.heap.size≤gb687));have n6_:=Aside0.mk ((by rw[hg];exact Nat.ne_of_lt (IsS56.lt (show IsS56 w0 _ g s0_0 s0_1 s0_2 s0_3 s0_4 s0_5 s0_6 s0_7 s0_8 from is56_ HI0)):g≠gb687));have n7_:=Aside0.mk ((by rw[hg];exact Nat.ne_of_gt (IsS56.lt (show IsS56 w0 _ g s0_0 s0_1 s0_2 s0_3 s0_4 s0_5 s0_6 s0_7 s0_8 from is56_ HI0)):gb687≠g));clear HI0;clear HK;clear HB;have HI0:=n0_;have HK:=n1_;have HB:=n2_;have BK687:=n3_;have GW687:=n4_;have GE687:=n5_;have NB0_687:=n6_;have NB687_0:=n7_;clear n0_ n1_ n2_ n3_ n4_ n5_ n6_ n7_;clear hb hbox hg)|((with_reducible refine gate_callee (f:=27) rfl ?_);refine gl_ (some 9) Tryd.func27 #[.pointer (some ⟨g,0,none⟩)] ?_;(with_reducible refine(rule_reader_word.calls _ _ _ _ _ _ _ _ _ _ _ _ _ _ _ _ _ _ _ _ _ w0 _ ?side1 ?side2 A2.out).mono ?_);(case side1=>exact is56_ HI0);(case side2=>exact bs56_ HB HI0);rintro e w66 ⟨rfl,hi,hb,hk⟩;refine⟨_,rfl,?_⟩;have n0_:=Aside0.mk (KeepBut.blk hk (bk_ BK687).out NB687_0.out (by simp));have n1_:=Aside0.mk (KeepBut.trans (kp_ HK) hk (.inl rfl));have n2_:=Aside0.mk (hb);have n3_:=Aside0.mk (hi);clear BK687;clear HK;clear HB;clear HI0;have BK687:=n0_;have HK:=n1_;have HB:=n2_;have HI0:=n3_;clear n0_ n1_ n2_ n3_;(try clear hb);(try clear hk);(try clear hi);obtain⟨hcz67_0,hcz67_1,hcz67_2,hcz67_3,hcz67_4,hcz67_5,hcz67_6,hcz67_7,hcz67_8,hfz67_0,hfz67_1,hfz67_2,hfz67_3,hfz67_4,hfz67_5,hfz67_6,hfz67_7,hfz67_8⟩:=cs56_ HI0)|((with_reducible refine gate_callee (f:=11) rfl ?_);refine gl_ (some 16) Tryd.func11 #[.string t688] ?_;(with_reducible refine(rule_CatOf.calls _ _ _ _ _ A3.out).mono ?_);rintro e w68 ⟨rfl,hb⟩;refine⟨_,rfl,?_⟩;have n0_:=Aside0.mk (IsS56.below (is56_ HI0) hb);have n1_:=bb_ BK687 hb;have n2_:=Aside0.mk (KeepBut.trans (kp_ HK) (KeepBut.of_below hb g none) (.inl rfl));have n3_:=Aside0.mk (below_step (bs56_ HB HI0) hb);clear HI0;clear BK687;clear HK;clear HB;have HI0:=n0_;have BK687:=n1_;have HK:=n2_;have HB:=n3_;clear n0_ n1_ n2_ n3_;(try clear hb);(try clear hi))|(go_at_call 21;(with_reducible refine(rule_fail_g.calls _ _ _ _ _ A64.out).mono ?_);rintro e w' ⟨rfl,hb⟩;exact And.intro rfl (And.intro rfl (below_step (bs56_ HB HI0) hb))))

/-! ### rule_reader_rules: function 14 -/
mutual
def rule_reader_rules.j2:Nat→List (S32)→ByteArray→Int→Int→Bool→Bool→Bool→Bool→Bool→Bool→Option ((List (S32)) × ByteArray × Int × Int × Bool × Bool × Bool × Bool × Bool × Bool)
 | 0,_,_,_,_,_,_,_,_,_,_=>none
 | k+1,x3,x1000,x1001,x1002,x1003,x1004,x1005,x1006,x1007,x1008=>(rule_reader_peek.f k x1000 x1001 x1002 x1003 x1004 x1005 x1006 x1007 x1008).bind fun bt817=>(if bt817.1=0 then (if bt817.2.2.1<(bt817.2.1.size:Int) then (none) else (some (x3,bt817.2.1,bt817.2.2.1,bt817.2.2.2.1,bt817.2.2.2.2.1,bt817.2.2.2.2.2.1,bt817.2.2.2.2.2.2.1,bt817.2.2.2.2.2.2.2.1,bt817.2.2.2.2.2.2.2.2.1,bt817.2.2.2.2.2.2.2.2.2))) else (none))
def rule_reader_rules.l0:Nat→List (S32)→ByteArray→Int→Int→Bool→Bool→Bool→Bool→Bool→Bool→Option ((List (S32)) × ByteArray × Int × Int × Bool × Bool × Bool × Bool × Bool × Bool)
 | 0,_,_,_,_,_,_,_,_,_,_=>none
 | k+1,x3,x1000,x1001,x1002,x1003,x1004,x1005,x1006,x1007,x1008=>(rule_reader_peek.f k x1000 x1001 x1002 x1003 x1004 x1005 x1006 x1007 x1008).bind fun bt780=>(if bt780.1=0 then (rule_reader_rules.j2 k x3 bt780.2.1 bt780.2.2.1 bt780.2.2.2.1 bt780.2.2.2.2.1 bt780.2.2.2.2.2.1 bt780.2.2.2.2.2.2.1 bt780.2.2.2.2.2.2.2.1 bt780.2.2.2.2.2.2.2.2.1 bt780.2.2.2.2.2.2.2.2.2) else ((rule_reader_rule.f k bt780.2.1 bt780.2.2.1 bt780.2.2.2.1 bt780.2.2.2.2.1 bt780.2.2.2.2.2.1 bt780.2.2.2.2.2.2.1 bt780.2.2.2.2.2.2.2.1 bt780.2.2.2.2.2.2.2.2.1 bt780.2.2.2.2.2.2.2.2.2).bind fun bt790=>(if x3.length<2932031007402 then (rule_reader_rules.j1 k (x3++[(⟨bt790.1,bt790.2.1,bt790.2.2.1⟩:S32)]) bt790.2.2.2.1 bt790.2.2.2.2.1 bt790.2.2.2.2.2.1 bt790.2.2.2.2.2.2.1 bt790.2.2.2.2.2.2.2.1 bt790.2.2.2.2.2.2.2.2.1 bt790.2.2.2.2.2.2.2.2.2.1 bt790.2.2.2.2.2.2.2.2.2.2.1 bt790.2.2.2.2.2.2.2.2.2.2.2) else (none))))
def rule_reader_rules.j1:Nat→List (S32)→ByteArray→Int→Int→Bool→Bool→Bool→Bool→Bool→Bool→Option ((List (S32)) × ByteArray × Int × Int × Bool × Bool × Bool × Bool × Bool × Bool)
 | 0,_,_,_,_,_,_,_,_,_,_=>none
 | k+1,x3,x1000,x1001,x1002,x1003,x1004,x1005,x1006,x1007,x1008=>(rule_reader_take.f k x1000 x1001 x1002 x1003 x1004 x1005 x1006 x1007 x1008 (⟨#[59]⟩:ByteArray)).bind fun bt807=>(if bt807.1=true then (rule_reader_rules.l0 k x3 bt807.2.1 bt807.2.2.1 bt807.2.2.2.1 bt807.2.2.2.2.1 bt807.2.2.2.2.2.1 bt807.2.2.2.2.2.2.1 bt807.2.2.2.2.2.2.2.1 bt807.2.2.2.2.2.2.2.2.1 bt807.2.2.2.2.2.2.2.2.2) else (rule_reader_rules.j2 k x3 bt807.2.1 bt807.2.2.1 bt807.2.2.2.1 bt807.2.2.2.2.1 bt807.2.2.2.2.2.1 bt807.2.2.2.2.2.2.1 bt807.2.2.2.2.2.2.2.1 bt807.2.2.2.2.2.2.2.2.1 bt807.2.2.2.2.2.2.2.2.2))
end
def rule_reader_rules.f (k:Nat) (s0_0:ByteArray) (s0_1:Int) (s0_2:Int) (s0_3:Bool) (s0_4:Bool) (s0_5:Bool) (s0_6:Bool) (s0_7:Bool) (s0_8:Bool):Option ((List (S32)) × ByteArray × Int × Int × Bool × Bool × Bool × Bool × Bool × Bool):=rule_reader_rules.l0 k ([]:List (S32)) s0_0 s0_1 s0_2 s0_3 s0_4 s0_5 s0_6 s0_7 s0_8
def rule_reader_rules.T5:Bool × List (List Nat × List Nat):=(true,[([],[]),([0],[0]),([1],[1]),([2,1],[2]),([3],[3]),([4,3],[3,4]),([5,3],[3,5]),([6,3],[3,6]),([3],[3]),([8,3],[3,8]),([9,3],[3,9]),([10,3],[3,10]),([11,3],[3,11]),([7,12,3],[3,7,12]),([3,13],[3,13])])
def rule_reader_rules.B5:List Nat:=[0,1,3,7,15,31,63,127,15,271,783,1807,3855,8191,16383]
theorem rule_reader_rules.tab5:rtab .any (opsOf Tryd.f14 5)=rule_reader_rules.T5:=by kernel_rfl
theorem rule_reader_rules.bits5:waitsOk rule_reader_rules.T5.2 rule_reader_rules.B5=true:=by kernel_rfl
set_option maxHeartbeats 64000000 in
set_option maxRecDepth 100000 in
theorem rule_reader_rules.calls (k:Nat) (g:Nat) (s0_0:ByteArray) (s0_1:Int) (s0_2:Int) (s0_3:Bool) (s0_4:Bool) (s0_5:Bool) (s0_6:Bool) (s0_7:Bool) (s0_8:Bool) (r1:List (S32)) (r2:ByteArray) (r3:Int) (r4:Int) (r5:Bool) (r6:Bool) (r7:Bool) (r8:Bool) (r9:Bool) (r10:Bool) (w0 w:World) (hI:IsS56 w0 w g s0_0 s0_1 s0_2 s0_3 s0_4 s0_5 s0_6 s0_7 s0_8) (hB:Below w0.heap.size w0 w) (h:rule_reader_rules.f k s0_0 s0_1 s0_2 s0_3 s0_4 s0_5 s0_6 s0_7 s0_8=some (r1,r2,r3,r4,r5,r6,r7,r8,r9,r10)) :
  Calls Tryd.prog 14 #[.pointer (some ⟨g,0,none⟩)] w fun e w'=>∃v0_:Value,e= .returned (v0_)∧Kd.N k32 32 w' w.heap.size (fun k_=>(w.heap.size≤k_)) v0_ r1∧IsS56 w0 w' g r2 r3 r4 r5 r6 r7 r8 r9 r10∧Below w0.heap.size w0 w'∧KeepBut w w' g none:=by
 have HI0:=Aside0.mk hI
 have HK:=Aside0.mk (KeepBut.refl w g none)
 have HL:=Aside0.mk hB.size
 clear hI
 have HW0:=Aside0.mk hB.size
 have HB:=Aside0.mk hB
 clear hB
 have H:(rule_reader_rules.l0 k ([]:List (S32)) s0_0 s0_1 s0_2 s0_3 s0_4 s0_5 s0_6 s0_7 s0_8)=some (r1,r2,r3,r4,r5,r6,r7,r8,r9,r10):=h
 clear h
 have HC2:=Aside0.mk H
 clear H
 go_enter Tryd.func14,Tryd.ntmps14
 go_upto_block 0 with (fail)
 go_cut [3] (fun v3 wc=>∃(kq:Nat) (x3_1:List (S32)) (x1000_1:ByteArray) (x1001_1:Int) (x1002_1:Int) (x1003_1:Bool) (x1004_1:Bool) (x1005_1:Bool) (x1006_1:Bool) (x1007_1:Bool) (x1008_1:Bool),Aside0 (rule_reader_rules.j2 kq x3_1 x1000_1 x1001_1 x1002_1 x1003_1 x1004_1 x1005_1 x1006_1 x1007_1 x1008_1=some (r1,r2,r3,r4,r5,r6,r7,r8,r9,r10))∧Aside0 (kq≤k)∧Aside0 (Kd.N k32 32 wc w.heap.size (fun k_=>(w.heap.size≤k_)∧k_≠g) v3 x3_1)∧Aside0 (IsS56 w0 wc g x1000_1 x1001_1 x1002_1 x1003_1 x1004_1 x1005_1 x1006_1 x1007_1 x1008_1)∧Aside0 (KeepBut w wc g none)∧Aside0 (Below w0.heap.size w0 wc))
 case first =>
  have H:=HC2.out
  clear HC2
  have H':=Aside0.mk H
  clear H
  go_wp2
  go_loopg [3] k (fun kq v3 w'=>∃(x3_1:List (S32)) (x1000_1:ByteArray) (x1001_1:Int) (x1002_1:Int) (x1003_1:Bool) (x1004_1:Bool) (x1005_1:Bool) (x1006_1:Bool) (x1007_1:Bool) (x1008_1:Bool),Aside0 (rule_reader_rules.l0 kq x3_1 x1000_1 x1001_1 x1002_1 x1003_1 x1004_1 x1005_1 x1006_1 x1007_1 x1008_1=some (r1,r2,r3,r4,r5,r6,r7,r8,r9,r10))∧Aside0 (kq≤k)∧Aside0 (Kd.N k32 32 w' w.heap.size (fun k_=>(w.heap.size≤k_)∧k_≠g) v3 x3_1)∧Aside0 (IsS56 w0 w' g x1000_1 x1001_1 x1002_1 x1003_1 x1004_1 x1005_1 x1006_1 x1007_1 x1008_1)∧Aside0 (KeepBut w w' g none)∧Aside0 (Below w0.heap.size w0 w'))
  case atStart=>exact⟨(([]:List (S32))),(s0_0),(s0_1),(s0_2),(s0_3),(s0_4),(s0_5),(s0_6),(s0_7),(s0_8),H',⟨Nat.le_refl _⟩,⟨by first|exact Kd.R_nil _ _ _ _ _|exact Kd.N_nil _ _ _ _ _|exact Kd.V_nil _ _ _ _ _|exact Kd.Q_nil _ _ _ _ _|exact Kd.S_nil _ _ _ _ _⟩,⟨is56_ HI0⟩,⟨kp_ HK⟩,⟨bs56_ HB HI0⟩⟩
  case round =>
   clear H'
   obtain⟨x3_1,x1000_1,x1001_1,x1002_1,x1003_1,x1004_1,x1005_1,x1006_1,x1007_1,x1008_1,HA,HK1,HO_3,HI0,HK,HB⟩:=hrel
   cases gk with
   | zero=>exact absurd HA.out (by simp[rule_reader_rules.l0])
   | succ k1 =>
    have H:=HA.out
    clear HA
    simp only[rule_reader_rules.l0] at H
    replace H:=Option.bind_eq_some_iff.mp H
    obtain⟨⟨t780,t781,t782,t783,t784,t785,t786,t787,t788,t789⟩,A30,H⟩:=H
    dsimp only at H
    have A3:=Aside0.mk A30
    clear A30
    by_cases c4:t780=0
    ·rw[if_pos c4] at H
     have c4b0:(t780==0)=true:=beq_iff_eq.mpr c4
     have c4b1:(t780 !=0)=false:=bne_eq_false_iff_eq.mpr c4
     clear c4
     (first|rw[c4b0]|(simp only[i64_w,i32_w];rw[c4b0])|skip)
     have H':=Aside0.mk H
     clear H
     go_wp2_with (first|((with_reducible refine gate_callee (f:=18) rfl ?_);refine gl_ (some 5) Tryd.func18 #[.pointer (some ⟨g,0,none⟩)] ?_;(with_reducible refine(rule_reader_peek.calls _ _ _ _ _ _ _ _ _ _ _ _ _ _ _ _ _ _ _ _ _ w0 _ ?side1 ?side2 A3.out).mono ?_);(case side1=>exact is56_ HI0);(case side2=>exact bs56_ HB HI0);rintro e w5 ⟨rfl,hi,hb,hk⟩;refine⟨_,rfl,?_⟩;replace HO_3:=Aside0.mk (Kd.N_mono (Kd.N_keep (Kd.N_mono (ok:=fun k_=>(((w.heap.size≤k_))∧k_≠g)) (krN_ HO_3) (fun k_ hk_=>(⟨hk_,hk_.2⟩:_∧k_≠g))) hk (fun _ h=>h.2)) (fun _ h=>h.1));replace HK:=Aside0.mk (KeepBut.trans (kp_ HK) hk (.inl rfl));replace HB:=Aside0.mk (hb);replace HI0:=Aside0.mk (hi);(try clear hb);(try clear hk);(try clear hi)))
     go_meet
     case rel=>exact⟨_,(x3_1),(t781),(t782),(t783),(t784),(t785),(t786),(t787),(t788),(t789),H',⟨by have:=HK1.out;first|omega|exact Nat.le_refl _⟩,⟨kdN_ HO_3.out⟩,⟨is56_ HI0⟩,⟨kp_ HK⟩,⟨bs56_ HB HI0⟩⟩
    ·rw[if_neg c4] at H
     have c4b0:(t780==0)=false:=beq_eq_false_iff_ne.mpr c4
     have c4b1:(t780 !=0)=true:=bne_iff_ne.mpr c4
     (first|rw[c4b0]|(simp only[i64_w,i32_w];rw[c4b0])|skip)
     have HC6:=Aside0.mk H
     clear H
     go_upto_region 3 with (first|((with_reducible refine gate_callee (f:=18) rfl ?_);refine gl_ (some 5) Tryd.func18 #[.pointer (some ⟨g,0,none⟩)] ?_;(with_reducible refine(rule_reader_peek.calls _ _ _ _ _ _ _ _ _ _ _ _ _ _ _ _ _ _ _ _ _ w0 _ ?side1 ?side2 A3.out).mono ?_);(case side1=>exact is56_ HI0);(case side2=>exact bs56_ HB HI0);rintro e w7 ⟨rfl,hi,hb,hk⟩;refine⟨_,rfl,?_⟩;replace HO_3:=Aside0.mk (Kd.N_mono (Kd.N_keep (Kd.N_mono (ok:=fun k_=>(((w.heap.size≤k_))∧k_≠g)) (krN_ HO_3) (fun k_ hk_=>(⟨hk_,hk_.2⟩:_∧k_≠g))) hk (fun _ h=>h.2)) (fun _ h=>h.1));replace HK:=Aside0.mk (KeepBut.trans (kp_ HK) hk (.inl rfl));replace HB:=Aside0.mk (hb);replace HI0:=Aside0.mk (hi);(try clear hb);(try clear hk);(try clear hi)))
     (try simp only[Act.put,List.setIfInBounds_toArray,List.set_cons_zero,List.set_cons_succ])
     go_cut [3] (fun v3 wc=>∃(kq:Nat) (x3_5:List (S32)) (x1000_5:ByteArray) (x1001_5:Int) (x1002_5:Int) (x1003_5:Bool) (x1004_5:Bool) (x1005_5:Bool) (x1006_5:Bool) (x1007_5:Bool) (x1008_5:Bool),Aside0 (rule_reader_rules.j1 kq x3_5 x1000_5 x1001_5 x1002_5 x1003_5 x1004_5 x1005_5 x1006_5 x1007_5 x1008_5=some (r1,r2,r3,r4,r5,r6,r7,r8,r9,r10))∧Aside0 (kq≤k1)∧Aside0 (Kd.N k32 32 wc w.heap.size (fun k_=>(w.heap.size≤k_)∧k_≠g) v3 x3_5)∧Aside0 (IsS56 w0 wc g x1000_5 x1001_5 x1002_5 x1003_5 x1004_5 x1005_5 x1006_5 x1007_5 x1008_5)∧Aside0 (KeepBut w wc g none)∧Aside0 (Below w0.heap.size w0 wc))
     case first =>
      have H:=HC6.out
      clear HC6
      replace H:=Option.bind_eq_some_iff.mp H
      obtain⟨⟨t790,t791,t794,t795,t796,t797,t798,t799,t800,t801,t802,t803⟩,A80,H⟩:=H
      dsimp only at H
      have A8:=Aside0.mk A80
      clear A80
      replace H:=ifn_ H
      obtain⟨c9,H⟩:=H
      have LMc9:=Aside0.mk c9
      clear c9
      obtain⟨y804,hy804⟩:∃y_:List (S32),y_=(x3_1++[(⟨t790,t791,t794⟩:S32)]):=⟨_,rfl⟩
      replace H:(rule_reader_rules.j1 k1 y804 t795 t796 t797 t798 t799 t800 t801 t802 t803)=some (r1,r2,r3,r4,r5,r6,r7,r8,r9,r10):=by first|(rw[hy804];with_reducible exact H)|(have H2_:=(Option.bind_some _ _).symm.trans H;rw[hy804];with_reducible exact H2_)|(have H2_:=(Option.bind_some _ _).symm.trans H;with_reducible exact H2_)|with_reducible exact H|(rw[hy804];exact H)|exact H
      have Ny804:=Aside0.mk hy804
      clear hy804
      have H':=Aside0.mk H
      clear H
      go_wp2_with (first|((with_reducible refine gate_callee (f:=19) rfl ?_);refine gl_ (some 9) Tryd.func19 #[.pointer (some ⟨g,0,none⟩)] ?_;(with_reducible refine(rule_reader_rule.calls _ _ _ _ _ _ _ _ _ _ _ _ _ _ _ _ _ _ _ _ _ _ _ w0 _ ?side1 ?side2 A8.out).mono ?_);(case side1=>exact is56_ HI0);(case side2=>exact bs56_ HB HI0);rintro e w10 ⟨v792,rfl,ho0,hi,hb,hk⟩;refine⟨_,rfl,?_⟩;have HO793:=Aside0.mk (Kd.N_lower (Kd.N_mono (ok':=fun k_=>(w.heap.size≤k_)∧some k_≠(u3:Value).ownBlock∧k_≠g) ho0 (fun k_ hk_=>⟨(Nat.le_trans (keep_size (w:=w) (g:=g) (row:=none) (kp_ HK)) hk_),(Kd.fresh' (Kd.N_lt (krN_ HO_3)) k_ hk_),(IsS56.fresh (is56_ HI0) k_ hk_)⟩)) (keep_size (w:=w) (g:=g) (row:=none) (kp_ HK)));replace HO_3:=Aside0.mk (Kd.N_mono (Kd.N_told (Kd.N_oldK (Kd.N_mono (ok:=fun k_=>(((w.heap.size≤k_))∧k_≠g)) (krN_ HO_3) (fun k_ hk_=>(⟨hk_,hk_.2⟩:_∧k_≠g))) hk) (Kd.N_base ho0)) (fun _ h_=>h_.1));replace HK:=Aside0.mk (KeepBut.trans (kp_ HK) hk (.inl rfl));replace HB:=Aside0.mk (hb);replace HI0:=Aside0.mk (hi);(try clear hb);(try clear hk);(try clear hi);(try clear ho0);obtain⟨Ao12,co12,eo12⟩:=Kd.N_slice HO793.out;subst eo12)|((with_reducible refine gate_builtin (b:= .append) (xs:= #[.tmp 7,.tmp 10]) rfl ?_);(try (refine gate_guard (by rfl) ?_;dsimp only));at_builtin;refine Kd.N_append k32 w.heap.size rfl (.tmp 7) (.tmp 10) 24 32 (.agg #[(.int .i64 0),(.slice none 0 0),(.string ⟨#[]⟩)]) 48 rfl Tryd.underlying24 info32 rfl (by decide) (by omega) u3 x3_1 (⟨t790,t791,t794⟩:S32) [.int .i64 t790,.slice Ao12 t791.length co12,.string t794] (fun k_=>(w.heap.size≤k_)∧k_≠g) (fun k_=>((fun k_=>(w.heap.size≤k_)∧k_≠g)) k_∧some k_≠(u3:Value).ownBlock) rfl rfl ?aP (fun _ hk=>hk) ?aF ?aO (Below.refl _ _) ?aS ?aL ?_;(case aP=>exact(k32_mkF _ _ (⟨t790,t791,t794⟩:S32) (Kd.N_reads' (Kd.N_mono (ok':=(fun k_=>((fun k_=>(w.heap.size≤k_)∧k_≠g)) k_∧some k_≠(u3:Value).ownBlock)) (HO793.out) (fun k_ hk=>⟨⟨hk.1,hk.2.2⟩,hk.2.1⟩))).2.1 (Kd.N_F (Kd.N_mono (ok':=(fun k_=>((fun k_=>(w.heap.size≤k_)∧k_≠g)) k_∧some k_≠(u3:Value).ownBlock)) (HO793.out) (fun k_ hk=>⟨⟨hk.1,hk.2.2⟩,hk.2.1⟩)))));(case aF=>exact(fun k_ hk=>⟨(Nat.le_trans (keep_size (w:=w) (g:=g) (row:=none) (kp_ HK)) hk),IsS56.fresh (is56_ HI0) k_ hk⟩));(case aO=>exact(kdN_ (Kd.N_mono HO_3.out (fun _ hk=>⟨hk.1.1,hk.1.2⟩))));(case aS=>exact(keep_size (w:=w) (g:=g) (row:=none) (kp_ HK)));(case aL=>have:=LMc9.out;omega);intro v805 w11 ho hb hg hat;rw[← Ny804.out] at ho;have n0_:=Aside0.mk (IsS56.grown (is56_ HI0) hg (IsS56.own_neN HI0.out HO_3.out (by decide)));have n1_:=Aside0.mk (below_weaken (bs56_ HB HI0) HL.out hb);have n2_:=Aside0.mk (KeepBut.trans (kp_ HK) (KeepBut.of_grown hg g) (Kd.N_base2 HO_3.out));have n3_:=Aside0.mk (ho);clear HI0;clear HB;clear HK;clear HO_3;clear HO793;have HI0:=n0_;have HB:=n1_;have HK:=n2_;have HO806:=n3_;clear n0_ n1_ n2_ n3_;clear ho hb hg hat))
      go_meet
      case rel=>exact⟨_,(y804),(t795),(t796),(t797),(t798),(t799),(t800),(t801),(t802),(t803),H',⟨by have:=HK1.out;first|omega|exact Nat.le_refl _⟩,⟨kdN_ HO806.out⟩,⟨is56_ HI0⟩,⟨kp_ HK⟩,⟨bs56_ HB HI0⟩⟩
     case rest =>
      clear HC6
      obtain⟨kq,x3_5,x1000_5,x1001_5,x1002_5,x1003_5,x1004_5,x1005_5,x1006_5,x1007_5,x1008_5,HA,HJ5,HO_3,HI0,HK,HB⟩:=hcut
      cases kq with
      | zero=>exact absurd HA.out (by simp[rule_reader_rules.j1])
      | succ kj5 =>
       have H:=HA.out
       clear HA
       simp only[rule_reader_rules.j1] at H
       replace H:=Option.bind_eq_some_iff.mp H
       obtain⟨⟨t807,t808,t809,t810,t811,t812,t813,t814,t815,t816⟩,A130,H⟩:=H
       dsimp only at H
       have A13:=Aside0.mk A130
       clear A130
       by_cases c14:t807=true
       ·subst c14
        have H1:(rule_reader_rules.l0 kj5 x3_5 t808 t809 t810 t811 t812 t813 t814 t815 t816)=some (r1,r2,r3,r4,r5,r6,r7,r8,r9,r10):=by rw[if_pos rfl] at H;exact H
        clear H
        have H:=H1
        clear H1
        have H':=Aside0.mk H
        clear H
        go_wp2_with (first|((with_reducible refine gate_callee (f:=20) rfl ?_);refine gl_ (some 13) Tryd.func20 #[.pointer (some ⟨g,0,none⟩),.string (⟨#[59]⟩:ByteArray)] ?_;(with_reducible refine(rule_reader_take.calls _ _ _ _ _ _ _ _ _ _ _ _ _ _ _ _ _ _ _ _ _ _ w0 _ ?side1 ?side2 A13.out).mono ?_);(case side1=>exact is56_ HI0);(case side2=>exact bs56_ HB HI0);rintro e w15 ⟨rfl,hi,hb,hk⟩;refine⟨_,rfl,?_⟩;replace HO_3:=Aside0.mk (Kd.N_mono (Kd.N_keep (Kd.N_mono (ok:=fun k_=>(((w.heap.size≤k_))∧k_≠g)) (krN_ HO_3) (fun k_ hk_=>(⟨hk_,hk_.2⟩:_∧k_≠g))) hk (fun _ h=>h.2)) (fun _ h=>h.1));replace HK:=Aside0.mk (KeepBut.trans (kp_ HK) hk (.inl rfl));replace HB:=Aside0.mk (hb);replace HI0:=Aside0.mk (hi);(try clear hb);(try clear hk);(try clear hi)))
        go_roundg kj5
        case measure=>have:=HK1.out;have:=HJ5.out;omega
        case rel=>exact⟨(x3_5),(t808),(t809),(t810),(t811),(t812),(t813),(t814),(t815),(t816),H',⟨by have:=HK1.out;have:=HJ5.out;omega⟩,⟨kdN_ HO_3.out⟩,⟨is56_ HI0⟩,⟨kp_ HK⟩,⟨bs56_ HB HI0⟩⟩
       ·replace c14:=Bool.eq_false_iff.mpr c14
        subst c14
        have H1:(rule_reader_rules.j2 kj5 x3_5 t808 t809 t810 t811 t812 t813 t814 t815 t816)=some (r1,r2,r3,r4,r5,r6,r7,r8,r9,r10):=by rw[if_neg (show ¬(false=true) by decide)] at H;exact H
        clear H
        have H:=H1
        clear H1
        have H':=Aside0.mk H
        clear H
        go_wp2_with (first|((with_reducible refine gate_callee (f:=20) rfl ?_);refine gl_ (some 13) Tryd.func20 #[.pointer (some ⟨g,0,none⟩),.string (⟨#[59]⟩:ByteArray)] ?_;(with_reducible refine(rule_reader_take.calls _ _ _ _ _ _ _ _ _ _ _ _ _ _ _ _ _ _ _ _ _ _ w0 _ ?side1 ?side2 A13.out).mono ?_);(case side1=>exact is56_ HI0);(case side2=>exact bs56_ HB HI0);rintro e w16 ⟨rfl,hi,hb,hk⟩;refine⟨_,rfl,?_⟩;replace HO_3:=Aside0.mk (Kd.N_mono (Kd.N_keep (Kd.N_mono (ok:=fun k_=>(((w.heap.size≤k_))∧k_≠g)) (krN_ HO_3) (fun k_ hk_=>(⟨hk_,hk_.2⟩:_∧k_≠g))) hk (fun _ h=>h.2)) (fun _ h=>h.1));replace HK:=Aside0.mk (KeepBut.trans (kp_ HK) hk (.inl rfl));replace HB:=Aside0.mk (hb);replace HI0:=Aside0.mk (hi);(try clear hb);(try clear hk);(try clear hi)))
        go_meet
        case rel=>exact⟨_,(x3_5),(t808),(t809),(t810),(t811),(t812),(t813),(t814),(t815),(t816),H',⟨by have:=HK1.out;have:=HJ5.out;first|omega|exact Nat.le_refl _⟩,⟨kdN_ HO_3.out⟩,⟨is56_ HI0⟩,⟨kp_ HK⟩,⟨bs56_ HB HI0⟩⟩
 case rest =>
  clear HC2
  obtain⟨kq,x3_1,x1000_1,x1001_1,x1002_1,x1003_1,x1004_1,x1005_1,x1006_1,x1007_1,x1008_1,HA,HJ1,HO_3,HI0,HK,HB⟩:=hcut
  cases kq with
  | zero=>exact absurd HA.out (by simp[rule_reader_rules.j2])
  | succ kj1 =>
   have H:=HA.out
   clear HA
   simp only[rule_reader_rules.j2] at H
   replace H:=Option.bind_eq_some_iff.mp H
   obtain⟨⟨t817,t818,t819,t820,t821,t822,t823,t824,t825,t826⟩,A170,H⟩:=H
   dsimp only at H
   have A17:=Aside0.mk A170
   clear A170
   by_cases c18:t817=0
   ·rw[if_pos c18] at H
    have c18b0:(t817==0)=true:=beq_iff_eq.mpr c18
    have c18b1:(t817 !=0)=false:=bne_eq_false_iff_eq.mpr c18
    clear c18
    by_cases c19:t819<(t818.size:Int)
    ·rw[if_pos c19] at H
     have c19b0:=decide_eq_true c19
     clear c19
     exact absurd H (by simp)
    ·rw[if_neg c19] at H
     have c19b0:=decide_eq_false c19
     clear c19
     simp only[Option.some.injEq,Prod.mk.injEq] at H
     obtain⟨rfl,rfl,rfl,rfl,rfl,rfl,rfl,rfl,rfl,rfl⟩:=H
     try go_wp2
     replace HO_3:=Aside0.mk (Kd.N_drew HO_3.out)
     replace HI0:=Aside0.mk (IsS56.drew HI0.out)
     replace HK:=Aside0.mk (keep_drew HK.out)
     replace HB:=Aside0.mk (below_drew1 HB.out)
     refine start_ (n:=15) (S:=fun w'=>True) (ds:=[]) #[false,false,false,false,false,false,false,false,false,false,false,false,false,false,false] (by kernel_rfl) rfl rfl trivial (fun hHeld=>?_);refine with_tabW rule_reader_rules.tab5 rule_reader_rules.bits5 (fun HT_ HW_=>?_)
     generalize wc.drew=w20 at HO_3 HI0 HK HB hHeld ⊢
     refine pu_ 0 15 (bm_ 15 1) HT_ ?_
     refine one_ (i:=1) (N:=some 16) (bm_ 15 3) rfl rfl (one_of HT_.out (by kernel_rfl)) (by decide) (fun K hK=>?_)
     refine gs_ Tryd.func18 #[.pointer (some ⟨g,0,none⟩)] ?_
     with_reducible refine(rule_reader_peek.calls _ _ _ _ _ _ _ _ _ _ _ _ _ _ _ _ _ _ _ _ _ w0 _ ?side1 ?side2 A17.out).mono ?_
     (case side1=>exact is56_ HI0)
     (case side2=>exact bs56_ HB HI0)
     rintro e w21 ⟨rfl,hi,hb,hk⟩
     refine⟨_,rfl,?_⟩
     replace HO_3:=Aside0.mk (Kd.N_mono (Kd.N_keep (Kd.N_mono (ok:=fun k_=>(((w.heap.size≤k_))∧k_≠g)) (krN_ HO_3) (fun k_ hk_=>(⟨hk_,hk_.2⟩:_∧k_≠g))) hk (fun _ h=>h.2)) (fun _ h=>h.1))
     replace HK:=Aside0.mk (KeepBut.trans (kp_ HK) hk (.inl rfl))
     replace HB:=Aside0.mk (hb)
     replace HI0:=Aside0.mk (hi)
     (try clear hb)
     (try clear hb2)
     (try clear hk)
     (try clear hi)
     refine hK.out _ _ trivial (fun hHeld=>?_)
     clear hK K
     refine nm_ 16 ?_
     clear hHeld
     refine restart0_ (S':=fun w'=>w'.cell? ⟨g,0,none⟩=some (.string t818)∧w'.cell? ⟨g,1,none⟩=some (.int .i64 t819)∧w'.cell? ⟨g,2,none⟩=some (.int .i64 t820)∧w'.cell? ⟨g,3,none⟩=some (.bool t821)∧w'.cell? ⟨g,4,none⟩=some (.bool t822)∧w'.cell? ⟨g,5,none⟩=some (.bool t823)∧w'.cell? ⟨g,6,none⟩=some (.bool t824)∧w'.cell? ⟨g,7,none⟩=some (.bool t825)∧w'.cell? ⟨g,8,none⟩=some (.bool t826)) [] ⟨(cellS56_0 HI0.out.1),(cellS56_1 HI0.out.1),(cellS56_2 HI0.out.1),(cellS56_3 HI0.out.1),(cellS56_4 HI0.out.1),(cellS56_5 HI0.out.1),(cellS56_6 HI0.out.1),(cellS56_7 HI0.out.1),(cellS56_8 HI0.out.1)⟩ (fun hHeld=>?_)
     refine pu_ 2 17 (bm_ 15 7) HT_ ?_
     refine pu_ 3 18 (bm_ 15 15) HT_ ?_
     refine pu_ 4 19 (bm_ 15 31) HT_ ?_
     refine pu_ 5 20 (bm_ 15 63) HT_ ?_
     refine pu_ 6 21 (bm_ 15 127) HT_ ?_
     refine pu_ 8 23 (bm_ 15 383) HT_ ?_
     refine pu_ 9 24 (bm_ 15 895) HT_ ?_
     refine pu_ 10 25 (bm_ 15 1919) HT_ ?_
     refine tk_ 7 22 (bm_ 15 2047) HT_ HW_ hHeld rfl (by rintro w' ⟨s0,s1,s2,s3,s4,s5,s6,s7,s8⟩;go_simp;with_reducible rfl) ?_
     refine tk_ 11 26 (bm_ 15 4095) HT_ HW_ hHeld rfl (by rintro w' ⟨s0,s1,s2,s3,s4,s5,s6,s7,s8⟩;go_simp;with_reducible rfl) ?_
     refine pu_ 12 27 (bm_ 15 8191) HT_ ?_
     refine pu_ 13 28 (bm_ 15 16383) HT_ ?_
     refine pu_ 14 29 (bm_ 15 32767) HT_ ?_
     refine done_ (done_of HT_.out (by kernel_rfl)) ?_
     try go_wp2
     go_ret
     exact⟨_,by first|rfl|(simp[errW_none,errW_some] <;> rfl)|(simp[*,errW_none,errW_some] <;> first|rfl|exact given_isEmpty _|exact(given_isEmpty _).symm),kdN_ (Kd.N_mono HO_3.out (fun _ hk=>hk.1)),is56_ HI0,bs56_ HB HI0,kp_ HK⟩
   ·rw[if_neg c18] at H
    have c18b0:(t817==0)=false:=beq_eq_false_iff_ne.mpr c18
    have c18b1:(t817 !=0)=true:=bne_iff_ne.mpr c18
    exact absurd H (by simp)

end Go.Proofs.YtcokjmnkieakiaaDoor.P
