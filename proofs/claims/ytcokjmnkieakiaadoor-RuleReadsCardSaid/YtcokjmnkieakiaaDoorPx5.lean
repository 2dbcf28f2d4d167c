-- written by a program of this session (wip/p2)
import Derived.Test.YtcokjmnkieakiaaDoorPx0
import Derived.Test.YtcokjmnkieakiaaDoorPx2
import Derived.Test.YtcokjmnkieakiaaDoorPx3
import Derived.Test.YtcokjmnkieakiaaDoorPx4
namespace Go.Proofs.YtcokjmnkieakiaaDoor.P
open Go.RowKit Go.Proofs.YtcokjmnkieakiaaDoorW.PrintWords Go.Proofs.YtcokjmnkieakiaaDoorW.PrintLast Go.Proofs.YtcokjmnkieakiaaDoorW.PrintMore
attribute [local go_sem] max2_int min2_int max_two min_two max_three min_three max_four min_four   -- for this text's walks alone
set_option linter.unusedVariables false
set_option linter.unusedSimpArgs false

/-! ### rule_reader_rel_g: function 38 -/
mutual
def rule_reader_rel_g.j0:Nat→ByteArray→Bool→ByteArray→Int→Int→Bool→Bool→Bool→Bool→Bool→Bool→Option (Int × Int)
 | 0,_,_,_,_,_,_,_,_,_,_,_=>none
 | k+1,x3,x16,x1000,x1001,x1002,x1003,x1004,x1005,x1006,x1007,x1008=>if x16=true then ((rule_fail_g.f 1 x1001).bind fun bt397=>(some (bt397.1,bt397.2))) else (if (wrap64 (x1002+1))>200 then ((rule_fail_g.f 4 x1001).bind fun bt399=>(some (bt399.1,bt399.2))) else (if 0<(x3.size:Int) then ((rule_reader_take.f k x1000 (wrap64 (x1001+1)) (wrap64 (x1002+1)) x1003 x1004 x1005 x1006 x1007 x1008 (⟨#[37]⟩:ByteArray)).bind fun bt402=>(if bt402.1=true then (orf_ ((rule_reader_value_g.f k bt402.2.1 bt402.2.2.1 bt402.2.2.2.1 bt402.2.2.2.2.1 bt402.2.2.2.2.2.1 bt402.2.2.2.2.2.2.1 bt402.2.2.2.2.2.2.2.1 bt402.2.2.2.2.2.2.2.2.1 bt402.2.2.2.2.2.2.2.2.2).bind fun bt425=>(some (bt425.1,bt425.2))) ((rule_reader_value.f k bt402.2.1 bt402.2.2.1 bt402.2.2.2.1 bt402.2.2.2.2.1 bt402.2.2.2.2.2.1 bt402.2.2.2.2.2.2.1 bt402.2.2.2.2.2.2.2.1 bt402.2.2.2.2.2.2.2.2.1 bt402.2.2.2.2.2.2.2.2.2).bind fun bt412=>(if bt412.1=0 then ((rule_fail_g.f 3 bt412.2.1).bind fun bt423=>(some (bt423.1,bt423.2))) else (rule_reader_rel_g.j1 k bt412.2.2.1 bt412.2.2.2.1 bt412.2.2.2.2.1 bt412.2.2.2.2.2.1 bt412.2.2.2.2.2.2.1 bt412.2.2.2.2.2.2.2.1 bt412.2.2.2.2.2.2.2.2.1 bt412.2.2.2.2.2.2.2.2.2.1 bt412.2.2.2.2.2.2.2.2.2.2 (bt x3 0) bt412.1 false)))) else (rule_reader_rel_g.j1 k bt402.2.1 bt402.2.2.1 bt402.2.2.2.1 bt402.2.2.2.2.1 bt402.2.2.2.2.2.1 bt402.2.2.2.2.2.2.1 bt402.2.2.2.2.2.2.2.1 bt402.2.2.2.2.2.2.2.2.1 bt402.2.2.2.2.2.2.2.2.2 (bt x3 0) 0 false))) else (none)))
def rule_reader_rel_g.j1:Nat→ByteArray→Int→Int→Bool→Bool→Bool→Bool→Bool→Bool→Int→Int→Bool→Option (Int × Int)
 | 0,_,_,_,_,_,_,_,_,_,_,_,_=>none
 | k+1,x1000,x1001,x1002,x1003,x1004,x1005,x1006,x1007,x1008,x402000,x402001,x402002=>(rule_reader_take.f k x1000 x1001 x1002 x1003 x1004 x1005 x1006 x1007 x1008 (⟨#[33,61]⟩:ByteArray)).bind fun bt427=>(if bt427.1=true then (rule_reader_rel_g.j2 k bt427.2.1 bt427.2.2.1 bt427.2.2.2.1 bt427.2.2.2.2.1 bt427.2.2.2.2.2.1 bt427.2.2.2.2.2.2.1 bt427.2.2.2.2.2.2.2.1 bt427.2.2.2.2.2.2.2.2.1 bt427.2.2.2.2.2.2.2.2.2 x402000 x402001 bt427.1) else (orf_ ((rule_reader_want_g.f k bt427.2.1 bt427.2.2.1 bt427.2.2.2.1 bt427.2.2.2.2.1 bt427.2.2.2.2.2.1 bt427.2.2.2.2.2.2.1 bt427.2.2.2.2.2.2.2.1 bt427.2.2.2.2.2.2.2.2.1 bt427.2.2.2.2.2.2.2.2.2 (⟨#[61]⟩:ByteArray)).bind fun bt446=>(some (bt446.1,bt446.2))) ((rule_reader_want.f k bt427.2.1 bt427.2.2.1 bt427.2.2.2.1 bt427.2.2.2.2.1 bt427.2.2.2.2.2.1 bt427.2.2.2.2.2.2.1 bt427.2.2.2.2.2.2.2.1 bt427.2.2.2.2.2.2.2.2.1 bt427.2.2.2.2.2.2.2.2.2 (⟨#[61]⟩:ByteArray)).bind fun bt437=>(rule_reader_rel_g.j2 k bt437.1 bt437.2.1 bt437.2.2.1 bt437.2.2.2.1 bt437.2.2.2.2.1 bt437.2.2.2.2.2.1 bt437.2.2.2.2.2.2.1 bt437.2.2.2.2.2.2.2.1 bt437.2.2.2.2.2.2.2.2 x402000 x402001 bt427.1))))
def rule_reader_rel_g.j2:Nat→ByteArray→Int→Int→Bool→Bool→Bool→Bool→Bool→Bool→Int→Int→Bool→Option (Int × Int)
 | 0,_,_,_,_,_,_,_,_,_,_,_,_=>none
 | k+1,x1000,x1001,x1002,x1003,x1004,x1005,x1006,x1007,x1008,x402000,x402001,x402002=>orf_ ((rule_reader_span_g.f k x1000 x1001 x1002 x1003 x1004 x1005 x1006 x1007 x1008).bind fun bt488=>(some (bt488.1,bt488.2))) ((rule_reader_span.f k x1000 x1001 x1002 x1003 x1004 x1005 x1006 x1007 x1008).bind fun bt448=>(if ([]:List (S38)).length<8796093022208 then (rule_reader_rel_g.l0 k bt448.2.2.1 bt448.2.2.2.1 bt448.2.2.2.2.1 bt448.2.2.2.2.2.1 bt448.2.2.2.2.2.2.1 bt448.2.2.2.2.2.2.2.1 bt448.2.2.2.2.2.2.2.2.1 bt448.2.2.2.2.2.2.2.2.2.1 bt448.2.2.2.2.2.2.2.2.2.2 x402000 x402001 x402002 (([]:List (S38))++[(⟨bt448.1,bt448.2.1⟩:S38)])) else (none)))
def rule_reader_rel_g.l0:Nat→ByteArray→Int→Int→Bool→Bool→Bool→Bool→Bool→Bool→Int→Int→Bool→List (S38)→Option (Int × Int)
 | 0,_,_,_,_,_,_,_,_,_,_,_,_,_=>none
 | k+1,x1000,x1001,x1002,x1003,x1004,x1005,x1006,x1007,x1008,x402000,x402001,x402002,x402003=>(rule_reader_take.f k x1000 x1001 x1002 x1003 x1004 x1005 x1006 x1007 x1008 (⟨#[44]⟩:ByteArray)).bind fun bt462=>(if bt462.1=true then (orf_ ((rule_reader_span_g.f k bt462.2.1 bt462.2.2.1 bt462.2.2.2.1 bt462.2.2.2.2.1 bt462.2.2.2.2.2.1 bt462.2.2.2.2.2.2.1 bt462.2.2.2.2.2.2.2.1 bt462.2.2.2.2.2.2.2.2.1 bt462.2.2.2.2.2.2.2.2.2).bind fun bt486=>(some (bt486.1,bt486.2))) ((rule_reader_span.f k bt462.2.1 bt462.2.2.1 bt462.2.2.2.1 bt462.2.2.2.2.1 bt462.2.2.2.2.2.1 bt462.2.2.2.2.2.2.1 bt462.2.2.2.2.2.2.2.1 bt462.2.2.2.2.2.2.2.2.1 bt462.2.2.2.2.2.2.2.2.2).bind fun bt472=>(if x402003.length<8796093022208 then (rule_reader_rel_g.l0 k bt472.2.2.1 bt472.2.2.2.1 bt472.2.2.2.2.1 bt472.2.2.2.2.2.1 bt472.2.2.2.2.2.2.1 bt472.2.2.2.2.2.2.2.1 bt472.2.2.2.2.2.2.2.2.1 bt472.2.2.2.2.2.2.2.2.2.1 bt472.2.2.2.2.2.2.2.2.2.2 x402000 x402001 x402002 (x402003++[(⟨bt472.1,bt472.2.1⟩:S38)])) else (none)))) else (none))
end
def rule_reader_rel_g.f (k:Nat) (s0_0:ByteArray) (s0_1:Int) (s0_2:Int) (s0_3:Bool) (s0_4:Bool) (s0_5:Bool) (s0_6:Bool) (s0_7:Bool) (s0_8:Bool):Option (Int × Int):=(rule_reader_word.f k s0_0 s0_1 s0_2 s0_3 s0_4 s0_5 s0_6 s0_7 s0_8).bind fun bt386=>(if (bt386.1.size:Int)=1 then ((strings_Contains.f (⟨#[110,105,118,119,102,116,99,101]⟩:ByteArray) bt386.1).bind fun t396=>(rule_reader_rel_g.j0 k bt386.1 (!t396) bt386.2.1 bt386.2.2.1 bt386.2.2.2.1 bt386.2.2.2.2.1 bt386.2.2.2.2.2.1 bt386.2.2.2.2.2.2.1 bt386.2.2.2.2.2.2.2.1 bt386.2.2.2.2.2.2.2.2.1 bt386.2.2.2.2.2.2.2.2.2)) else (rule_reader_rel_g.j0 k bt386.1 true bt386.2.1 bt386.2.2.1 bt386.2.2.2.1 bt386.2.2.2.2.1 bt386.2.2.2.2.2.1 bt386.2.2.2.2.2.2.1 bt386.2.2.2.2.2.2.2.1 bt386.2.2.2.2.2.2.2.2.1 bt386.2.2.2.2.2.2.2.2.2))
def rule_reader_rel_g.T17:Bool × List (List Nat × List Nat):=(true,[([],[]),([0],[0]),([],[]),([2],[2]),([3],[3]),([1,4,3],[1,4]),([0,1,2,3,4,5],[]),([6,5,5,0,1,2,3,4,5],[5,6])])
def rule_reader_rel_g.B17:List Nat:=[0,1,0,4,12,31,63,127]
theorem rule_reader_rel_g.tab17:rtab .any (opsOf Tryd.f38 17)=rule_reader_rel_g.T17:=by kernel_rfl
theorem rule_reader_rel_g.bits17:waitsOk rule_reader_rel_g.T17.2 rule_reader_rel_g.B17=true:=by kernel_rfl
def rule_reader_rel_g.T19:Bool × List (List Nat × List Nat):=(true,[([],[]),([0],[0]),([],[]),([2],[2]),([3],[3]),([1,4,3],[1,4]),([0,1,2,3,4,5],[]),([6,5,5,0,1,2,3,4,5],[5,6])])
def rule_reader_rel_g.B19:List Nat:=[0,1,0,4,12,31,63,127]
theorem rule_reader_rel_g.tab19:rtab .any (opsOf Tryd.f38 19)=rule_reader_rel_g.T19:=by kernel_rfl
theorem rule_reader_rel_g.bits19:waitsOk rule_reader_rel_g.T19.2 rule_reader_rel_g.B19=true:=by kernel_rfl
set_option maxHeartbeats 64000000 in
set_option maxRecDepth 100000 in
theorem rule_reader_rel_g.calls (k:Nat) (g:Nat) (s0_0:ByteArray) (s0_1:Int) (s0_2:Int) (s0_3:Bool) (s0_4:Bool) (s0_5:Bool) (s0_6:Bool) (s0_7:Bool) (s0_8:Bool) (r1:Int) (r2:Int) (w0 w:World) (hI:IsS56 w0 w g s0_0 s0_1 s0_2 s0_3 s0_4 s0_5 s0_6 s0_7 s0_8) (hB:Below w0.heap.size w0 w) (h:rule_reader_rel_g.f k s0_0 s0_1 s0_2 s0_3 s0_4 s0_5 s0_6 s0_7 s0_8=some (r1,r2)) :
  Calls Tryd.prog 38 #[.pointer (some ⟨g,0,none⟩)] w fun e w'=>e= .panicked [{v:= .iface 52 (.agg #[.int .i64 r1,.int .i64 r2]),recovered:=false}]∧Below w0.heap.size w0 w':=by
 have hu36:=Tryd.underlying36
 have HI0:=Aside0.mk hI
 have HK:=Aside0.mk (KeepBut.refl w g none)
 have HL:=Aside0.mk hB.size
 clear hI
 have HW0:=Aside0.mk hB.size
 have HB:=Aside0.mk hB
 clear hB
 have H:((rule_reader_word.f k s0_0 s0_1 s0_2 s0_3 s0_4 s0_5 s0_6 s0_7 s0_8).bind fun bt386=>(if (bt386.1.size:Int)=1 then ((strings_Contains.f (⟨#[110,105,118,119,102,116,99,101]⟩:ByteArray) bt386.1).bind fun t396=>(rule_reader_rel_g.j0 k bt386.1 (!t396) bt386.2.1 bt386.2.2.1 bt386.2.2.2.1 bt386.2.2.2.2.1 bt386.2.2.2.2.2.1 bt386.2.2.2.2.2.2.1 bt386.2.2.2.2.2.2.2.1 bt386.2.2.2.2.2.2.2.2.1 bt386.2.2.2.2.2.2.2.2.2)) else (rule_reader_rel_g.j0 k bt386.1 true bt386.2.1 bt386.2.2.1 bt386.2.2.2.1 bt386.2.2.2.2.1 bt386.2.2.2.2.2.1 bt386.2.2.2.2.2.2.1 bt386.2.2.2.2.2.2.2.1 bt386.2.2.2.2.2.2.2.2.1 bt386.2.2.2.2.2.2.2.2.2)))=some (r1,r2):=h
 clear h
 replace H:=Option.bind_eq_some_iff.mp H
 obtain⟨⟨t386,t387,t388,t389,t390,t391,t392,t393,t394,t395⟩,A20,H⟩:=H
 dsimp only at H
 have A2:=Aside0.mk A20
 clear A20
 have HC3:=Aside0.mk H
 clear H
 go_enter Tryd.func38,Tryd.ntmps38
 go_upto_region 2 with (first|((with_reducible refine gate_dst (N:=2) rfl ?_);refine be_ 2 #[.int .u8 0,.int .i64 0,.bool false,.slice none 0 0] 36 ?_;intro gb385 hg w4 hbox hb;have n0_:=Aside0.mk (IsS56.below (is56_ HI0) hb);have n1_:=Aside0.mk (KeepBut.trans (kp_ HK) (KeepBut.of_below hb g none) (.inl rfl));have n2_:=Aside0.mk (below_step (bs56_ HB HI0) hb);have n3_:=Aside0.mk (hbox);have n4_:=Aside0.mk ((by rw[hg];exact(keep_size (w:=w) (g:=g) (row:=none) (kp_ HK)):w.heap.size≤gb385));have n5_:=Aside0.mk ((Nat.le_trans HW0.out (by rw[hg];exact(keep_size (w:=w) (g:=g) (row:=none) (kp_ HK)):w.heap.size≤gb385):w0.heap.size≤gb385));have n6_:=Aside0.mk ((by rw[hg];exact Nat.ne_of_lt (IsS56.lt (show IsS56 w0 _ g s0_0 s0_1 s0_2 s0_3 s0_4 s0_5 s0_6 s0_7 s0_8 from is56_ HI0)):g≠gb385));have n7_:=Aside0.mk ((by rw[hg];exact Nat.ne_of_gt (IsS56.lt (show IsS56 w0 _ g s0_0 s0_1 s0_2 s0_3 s0_4 s0_5 s0_6 s0_7 s0_8 from is56_ HI0)):gb385≠g));clear HI0;clear HK;clear HB;have HI0:=n0_;have HK:=n1_;have HB:=n2_;have BK385:=n3_;have GW385:=n4_;have GE385:=n5_;have NB0_385:=n6_;have NB385_0:=n7_;clear n0_ n1_ n2_ n3_ n4_ n5_ n6_ n7_;clear hb hbox hg)|((with_reducible refine gate_callee (f:=27) rfl ?_);refine gl_ (some 8) Tryd.func27 #[.pointer (some ⟨g,0,none⟩)] ?_;(with_reducible refine(rule_reader_word.calls _ _ _ _ _ _ _ _ _ _ _ _ _ _ _ _ _ _ _ _ _ w0 _ ?side1 ?side2 A2.out).mono ?_);(case side1=>exact is56_ HI0);(case side2=>exact bs56_ HB HI0);rintro e w5 ⟨rfl,hi,hb,hk⟩;refine⟨_,rfl,?_⟩;have n0_:=Aside0.mk (KeepBut.blk hk (bk_ BK385).out NB385_0.out (by simp));have n1_:=Aside0.mk (KeepBut.trans (kp_ HK) hk (.inl rfl));have n2_:=Aside0.mk (hb);have n3_:=Aside0.mk (hi);clear BK385;clear HK;clear HB;clear HI0;have BK385:=n0_;have HK:=n1_;have HB:=n2_;have HI0:=n3_;clear n0_ n1_ n2_ n3_;(try clear hb);(try clear hk);(try clear hi)))
 (try simp only[Act.put,List.setIfInBounds_toArray,List.set_cons_zero,List.set_cons_succ])
 go_cut [16] (fun v16 wc=>∃(kq:Nat) (x16_2:Bool),v16= .bool x16_2∧Aside0 (rule_reader_rel_g.j0 kq t386 x16_2 t387 t388 t389 t390 t391 t392 t393 t394 t395=some (r1,r2))∧Aside0 (kq≤k)∧Aside0 (wc.heap[gb385]? = some (.cells #[.int .u8 0,.int .i64 0,.bool false,(.slice none 0 0)] 36 (0,0)))∧Aside0 (IsS56 w0 wc g t387 t388 t389 t390 t391 t392 t393 t394 t395)∧Aside0 (KeepBut w wc g none)∧Aside0 (Below w0.heap.size w0 wc))
 case first =>
  have H:=HC3.out
  clear HC3
  by_cases c6:(t386.size:Int)=1
  ·rw[if_pos c6] at H
   have c6b0:((t386.size:Int)==1)=true:=beq_iff_eq.mpr c6
   have c6b1:((t386.size:Int) !=1)=false:=bne_eq_false_iff_eq.mpr c6
   clear c6
   (first|rw[c6b0]|(simp only[i64_w,i32_w];rw[c6b0])|skip)
   replace H:=Option.bind_eq_some_iff.mp H
   obtain⟨t396,A70,H⟩:=H
   have A7:=Aside0.mk A70
   clear A70
   have H':=Aside0.mk H
   clear H
   go_wp2_with (first|(go_at_call 45;(with_reducible refine(strings_Contains.calls _ _ _ _ A7.out).mono ?_);rintro e w' ⟨rfl,⟨nd,rfl⟩⟩))
   go_meet
   case rel=>exact⟨_,(!t396),eq_,H',⟨by first|omega|exact Nat.le_refl _⟩,(bk_ BK385),⟨is56_ HI0⟩,⟨kp_ HK⟩,⟨bs56_ HB HI0⟩⟩
  ·rw[if_neg c6] at H
   have c6b0:((t386.size:Int)==1)=false:=beq_eq_false_iff_ne.mpr c6
   have c6b1:((t386.size:Int) !=1)=true:=bne_iff_ne.mpr c6
   (first|rw[c6b0]|(simp only[i64_w,i32_w];rw[c6b0])|skip)
   have H':=Aside0.mk H
   clear H
   go_wp2
   go_meet
   case rel=>exact⟨_,(true),eq_,H',⟨by first|omega|exact Nat.le_refl _⟩,(bk_ BK385),⟨is56_ HI0⟩,⟨kp_ HK⟩,⟨bs56_ HB HI0⟩⟩
 case rest =>
  clear HC3
  obtain⟨kq,x16_2,rfl,HA,HJ2,BK385,HI0,HK,HB⟩:=hcut
  cases kq with
  | zero=>exact absurd HA.out (by simp[rule_reader_rel_g.j0])
  | succ kj2 =>
   have H:=HA.out
   clear HA
   simp only[rule_reader_rel_g.j0] at H
   by_cases c8:x16_2=true
   ·subst c8
    have H1:((rule_fail_g.f 1 t388).bind fun bt397=>(some (bt397.1,bt397.2)))=some (r1,r2):=by rw[if_pos rfl] at H;exact H
    clear H
    have H:=H1
    clear H1
    replace H:=Option.bind_eq_some_iff.mp H
    obtain⟨⟨t397,t398⟩,A90,H⟩:=H
    dsimp only at H
    have A9:=Aside0.mk A90
    clear A90
    simp only[Option.some.injEq,Prod.mk.injEq] at H
    obtain⟨rfl,rfl⟩:=H
    obtain⟨hcz10_0,hcz10_1,hcz10_2,hcz10_3,hcz10_4,hcz10_5,hcz10_6,hcz10_7,hcz10_8,hfz10_0,hfz10_1,hfz10_2,hfz10_3,hfz10_4,hfz10_5,hfz10_6,hfz10_7,hfz10_8⟩:=cs56_ HI0
    go_wp2_with (first|(go_at_call 21;(with_reducible refine(rule_fail_g.calls _ _ _ _ _ A9.out).mono ?_);rintro e w' ⟨rfl,hb⟩;exact And.intro rfl (And.intro rfl (below_step (bs56_ HB HI0) hb))))
   ·replace c8:=Bool.eq_false_iff.mpr c8
    subst c8
    have H1:(if (wrap64 (t389+1))>200 then ((rule_fail_g.f 4 t388).bind fun bt399=>(some (bt399.1,bt399.2))) else (if 0<(t386.size:Int) then ((rule_reader_take.f kj2 t387 (wrap64 (t388+1)) (wrap64 (t389+1)) t390 t391 t392 t393 t394 t395 (⟨#[37]⟩:ByteArray)).bind fun bt402=>(if bt402.1=true then (orf_ ((rule_reader_value_g.f kj2 bt402.2.1 bt402.2.2.1 bt402.2.2.2.1 bt402.2.2.2.2.1 bt402.2.2.2.2.2.1 bt402.2.2.2.2.2.2.1 bt402.2.2.2.2.2.2.2.1 bt402.2.2.2.2.2.2.2.2.1 bt402.2.2.2.2.2.2.2.2.2).bind fun bt425=>(some (bt425.1,bt425.2))) ((rule_reader_value.f kj2 bt402.2.1 bt402.2.2.1 bt402.2.2.2.1 bt402.2.2.2.2.1 bt402.2.2.2.2.2.1 bt402.2.2.2.2.2.2.1 bt402.2.2.2.2.2.2.2.1 bt402.2.2.2.2.2.2.2.2.1 bt402.2.2.2.2.2.2.2.2.2).bind fun bt412=>(if bt412.1=0 then ((rule_fail_g.f 3 bt412.2.1).bind fun bt423=>(some (bt423.1,bt423.2))) else (rule_reader_rel_g.j1 kj2 bt412.2.2.1 bt412.2.2.2.1 bt412.2.2.2.2.1 bt412.2.2.2.2.2.1 bt412.2.2.2.2.2.2.1 bt412.2.2.2.2.2.2.2.1 bt412.2.2.2.2.2.2.2.2.1 bt412.2.2.2.2.2.2.2.2.2.1 bt412.2.2.2.2.2.2.2.2.2.2 (bt t386 0) bt412.1 false)))) else (rule_reader_rel_g.j1 kj2 bt402.2.1 bt402.2.2.1 bt402.2.2.2.1 bt402.2.2.2.2.1 bt402.2.2.2.2.2.1 bt402.2.2.2.2.2.2.1 bt402.2.2.2.2.2.2.2.1 bt402.2.2.2.2.2.2.2.2.1 bt402.2.2.2.2.2.2.2.2.2 (bt t386 0) 0 false))) else (none)))=some (r1,r2):=by rw[if_neg (show ¬(false=true) by decide)] at H;exact H
    clear H
    have H:=H1
    clear H1
    by_cases c11:(wrap64 (t389+1))>200
    ·rw[if_pos c11] at H
     have c11b0:decide (200<(wrap64 (t389+1)))=true:=decide_eq_true c11
     clear c11
     replace H:=Option.bind_eq_some_iff.mp H
     obtain⟨⟨t399,t400⟩,A120,H⟩:=H
     dsimp only at H
     have A12:=Aside0.mk A120
     clear A120
     simp only[Option.some.injEq,Prod.mk.injEq] at H
     obtain⟨rfl,rfl⟩:=H
     obtain⟨hcz13_0,hcz13_1,hcz13_2,hcz13_3,hcz13_4,hcz13_5,hcz13_6,hcz13_7,hcz13_8,hfz13_0,hfz13_1,hfz13_2,hfz13_3,hfz13_4,hfz13_5,hfz13_6,hfz13_7,hfz13_8⟩:=cs56_ HI0
     go_wp2_with (first|(go_at_call 21;(with_reducible refine(rule_fail_g.calls _ _ _ _ _ A12.out).mono ?_);rintro e w' ⟨rfl,hb⟩;exact And.intro rfl (And.intro rfl (below_step (bs56_ HB HI0) hb))))
    ·rw[if_neg c11] at H
     have c11b0:decide (200<(wrap64 (t389+1)))=false:=decide_eq_false c11
     clear c11
     replace H:=ifn_ H
     obtain⟨c14,H⟩:=H
     have c14b0:decide (0<(t386.size:Int))=true:=decide_eq_true c14
     have c14b1:decide (0<t386.size)=true:=decide_eq_true (by omega)
     clear c14
     replace H:=Option.bind_eq_some_iff.mp H
     obtain⟨⟨t402,t403,t404,t405,t406,t407,t408,t409,t410,t411⟩,A160,H⟩:=H
     dsimp only at H
     have A16:=Aside0.mk A160
     clear A160
     have HC17:=Aside0.mk H
     clear H
     obtain⟨hcz18_0,hcz18_1,hcz18_2,hcz18_3,hcz18_4,hcz18_5,hcz18_6,hcz18_7,hcz18_8,hfz18_0,hfz18_1,hfz18_2,hfz18_3,hfz18_4,hfz18_5,hfz18_6,hfz18_7,hfz18_8⟩:=cs56_ HI0
     have p15:0≤(0:Int):=(by omega)
     have q15:0<t386.size:=(by have:(0:Int)<(t386.size:Int):=od_;omega)
     have hx15:∀h:0<t386.size,((t386[0]'h).toNat:Int)=bt t386 0:=bt_at t386 0
     clear p15
     have qi15:(0<(t386.size:Int))=True:=eq_true (od_)
     replace q15:=eq_true q15
     go_upto_if 50 with (first|((with_reducible refine gate_dst (N:=4) rfl ?_);refine be_ 4 #[.int .u8 0,.int .i64 0,.bool false,.slice none 0 0] 36 ?_;intro gb401 hg w19 hbox hb;have n0_:=bz_ BK385 hb;have n1_:=Aside0.mk (IsS56.below (show IsS56 w0 ((wc.setCell ⟨g,2,none⟩ (.int .i64 (wrap64 (t389+1)))).setCell ⟨g,1,none⟩ (.int .i64 (wrap64 (t388+1)))) g t387 (wrap64 (t388+1)) (wrap64 (t389+1)) t390 t391 t392 t393 t394 t395 from is56_ HI0) hb);have n2_:=Aside0.mk (KeepBut.trans (kp_ HK) (KeepBut.of_below hb g none) (.inl rfl));have n3_:=Aside0.mk (below_step (bs56_ HB HI0) hb);have n4_:=Aside0.mk (hbox);have n5_:=Aside0.mk ((by rw[hg];exact(keep_size (w:=w) (g:=g) (row:=none) (kp_ HK)):w.heap.size≤gb401));have n6_:=Aside0.mk ((Nat.le_trans HW0.out (by rw[hg];exact(keep_size (w:=w) (g:=g) (row:=none) (kp_ HK)):w.heap.size≤gb401):w0.heap.size≤gb401));have n7_:=Aside0.mk ((by rw[hg];exact Nat.ne_of_lt (blk_lt (g:=gb385) (o:= .cells #[.int .u8 0,.int .i64 0,.bool false,.slice none 0 0] 36 (0,0)) ((bf_ BK385).out)):gb385≠gb401));have n8_:=Aside0.mk ((by rw[hg];exact Nat.ne_of_gt (blk_lt (g:=gb385) (o:= .cells #[.int .u8 0,.int .i64 0,.bool false,.slice none 0 0] 36 (0,0)) ((bf_ BK385).out)):gb401≠gb385));have n9_:=Aside0.mk ((by rw[hg];exact Nat.ne_of_lt (IsS56.lt (show IsS56 w0 _ g t387 (wrap64 (t388+1)) (wrap64 (t389+1)) t390 t391 t392 t393 t394 t395 from is56_ HI0)):g≠gb401));have n10_:=Aside0.mk ((by rw[hg];exact Nat.ne_of_gt (IsS56.lt (show IsS56 w0 _ g t387 (wrap64 (t388+1)) (wrap64 (t389+1)) t390 t391 t392 t393 t394 t395 from is56_ HI0)):gb401≠g));clear BK385;clear HI0;clear HK;clear HB;have BK385:=n0_;have HI0:=n1_;have HK:=n2_;have HB:=n3_;have BK401:=n4_;have GW401:=n5_;have GE401:=n6_;have NB385_401:=n7_;have NB401_385:=n8_;have NB0_401:=n9_;have NB401_0:=n10_;clear n0_ n1_ n2_ n3_ n4_ n5_ n6_ n7_ n8_ n9_ n10_;clear hb hbox hg;have hnb20:=NB401_385.out;have hnc20:=NB385_401.out;have hnb21:=NB401_0.out;have hnc21:=NB0_401.out;obtain⟨hcz22_0,hcz22_1,hcz22_2,hcz22_3,hfz22_0,hfz22_1,hfz22_2,hfz22_3⟩:=bo4_ BK401)|((with_reducible refine gate_callee (f:=20) rfl ?_);refine gl_ (some 50) Tryd.func20 #[.pointer (some ⟨g,0,none⟩),.string (⟨#[37]⟩:ByteArray)] ?_;(with_reducible refine(rule_reader_take.calls _ _ _ _ _ _ _ _ _ _ _ _ _ _ _ _ _ _ _ _ _ _ w0 _ ?side1 ?side2 A16.out).mono ?_);(case side1=>exact is56_ HI0);(case side2=>exact bs56_ HB HI0);rintro e w23 ⟨rfl,hi,hb,hk⟩;refine⟨_,rfl,?_⟩;have n0_:=Aside0.mk (KeepBut.blk hk (g':=gb385) (o:= .cells #[.int .u8 0,.int .i64 0,.bool false,.slice none 0 0] 36 (0,0)) ((bf_ BK385).out) NB385_0.out (by simp));have n1_:=Aside0.mk (KeepBut.blk hk (g':=gb401) (o:= .cells #[.int .u8 (bt t386 0),.int .i64 0,.bool false,.slice none 0 0] 36 (0,0)) ((bp_ BK401).out) NB401_0.out (by simp));have n2_:=Aside0.mk (KeepBut.trans (kp_ HK) hk (.inl rfl));have n3_:=Aside0.mk (hb);have n4_:=Aside0.mk (hi);clear BK385;clear BK401;clear HK;clear HB;clear HI0;have BK385:=n0_;have BK401:=n1_;have HK:=n2_;have HB:=n3_;have HI0:=n4_;clear n0_ n1_ n2_ n3_ n4_;(try clear hb);(try clear hk);(try clear hi)))
     (try simp only[Act.put,List.setIfInBounds_toArray,List.set_cons_zero,List.set_cons_succ])
     go_cut [] (fun wc=>∃(kq:Nat) (x1000_16:ByteArray) (x1001_16:Int) (x1002_16:Int) (x1003_16:Bool) (x1004_16:Bool) (x1005_16:Bool) (x1006_16:Bool) (x1007_16:Bool) (x1008_16:Bool) (x402001_16:Int),Aside0 (rule_reader_rel_g.j1 kq x1000_16 x1001_16 x1002_16 x1003_16 x1004_16 x1005_16 x1006_16 x1007_16 x1008_16 (bt t386 0) x402001_16 false=some (r1,r2))∧Aside0 (kq≤kj2)∧Aside0 (wc.heap[gb385]? = some (.cells #[.int .u8 0,.int .i64 0,.bool false,(.slice none 0 0)] 36 (0,0)))∧Aside0 (wc.heap[gb401]? = some (.cells #[.int .u8 (bt t386 0),.int .i64 x402001_16,.bool false,(.slice none 0 0)] 36 (0,0)))∧Aside0 (IsS56 w0 wc g x1000_16 x1001_16 x1002_16 x1003_16 x1004_16 x1005_16 x1006_16 x1007_16 x1008_16)∧Aside0 (KeepBut w wc g none)∧Aside0 (Below w0.heap.size w0 wc))
     case first =>
      have H:=HC17.out
      clear HC17
      by_cases c24:t402=true
      ·subst c24
       have H1:(orf_ ((rule_reader_value_g.f kj2 t403 t404 t405 t406 t407 t408 t409 t410 t411).bind fun bt425=>(some (bt425.1,bt425.2))) ((rule_reader_value.f kj2 t403 t404 t405 t406 t407 t408 t409 t410 t411).bind fun bt412=>(if bt412.1=0 then ((rule_fail_g.f 3 bt412.2.1).bind fun bt423=>(some (bt423.1,bt423.2))) else (rule_reader_rel_g.j1 kj2 bt412.2.2.1 bt412.2.2.2.1 bt412.2.2.2.2.1 bt412.2.2.2.2.2.1 bt412.2.2.2.2.2.2.1 bt412.2.2.2.2.2.2.2.1 bt412.2.2.2.2.2.2.2.2.1 bt412.2.2.2.2.2.2.2.2.2.1 bt412.2.2.2.2.2.2.2.2.2.2 (bt t386 0) bt412.1 false))))=some (r1,r2):=by rw[if_pos rfl] at H;exact H
       clear H
       have H:=H1
       clear H1
       rcases orf_or H with H|H
       ·skip
        replace H:=Option.bind_eq_some_iff.mp H
        obtain⟨⟨t425,t426⟩,A250,H⟩:=H
        dsimp only at H
        have A25:=Aside0.mk A250
        clear A250
        simp only[Option.some.injEq,Prod.mk.injEq] at H
        obtain⟨rfl,rfl⟩:=H
        go_wp2_with (first|(go_at_call 46;(with_reducible refine(rule_reader_value_g.calls _ _ _ _ _ _ _ _ _ _ _ _ _ w0 _ ?side1 ?side2 A25.out).mono ?_);(case side1=>exact is56_ HI0);(case side2=>exact bs56_ HB HI0);rintro e w' ⟨rfl,hb⟩;exact And.intro rfl (And.intro rfl hb)))
       ·skip
        replace H:=Option.bind_eq_some_iff.mp H
        obtain⟨⟨t412,t413,t414,t415,t416,t417,t418,t419,t420,t421,t422⟩,A260,H⟩:=H
        dsimp only at H
        have A26:=Aside0.mk A260
        clear A260
        by_cases c27:t412=0
        ·rw[if_pos c27] at H
         have c27b0:(t412==0)=true:=beq_iff_eq.mpr c27
         have c27b1:(t412 !=0)=false:=bne_eq_false_iff_eq.mpr c27
         clear c27
         (first|rw[c27b0]|(simp only[i64_w,i32_w];rw[c27b0])|skip)
         replace H:=Option.bind_eq_some_iff.mp H
         obtain⟨⟨t423,t424⟩,A280,H⟩:=H
         dsimp only at H
         have A28:=Aside0.mk A280
         clear A280
         simp only[Option.some.injEq,Prod.mk.injEq] at H
         obtain⟨rfl,rfl⟩:=H
         go_wp2_with (first|((with_reducible refine gate_callee (f:=46) rfl ?_);refine gl_ (some 53) Tryd.func46 #[.pointer (some ⟨g,0,none⟩)] ?_;(with_reducible refine(rule_reader_value.calls _ _ _ _ _ _ _ _ _ _ _ _ _ _ _ _ _ _ _ _ _ _ w0 _ ?side1 ?side2 A26.out).mono ?_);(case side1=>exact is56_ HI0);(case side2=>exact bs56_ HB HI0);rintro e w29 ⟨rfl,hi,hb,hk⟩;refine⟨_,rfl,?_⟩;have n0_:=Aside0.mk (KeepBut.blk hk (bk_ BK385).out NB385_0.out (by simp));have n1_:=Aside0.mk (KeepBut.blk hk (bk_ BK401).out NB401_0.out (by simp));have n2_:=Aside0.mk (KeepBut.trans (kp_ HK) hk (.inl rfl));have n3_:=Aside0.mk (hb);have n4_:=Aside0.mk (hi);clear BK385;clear BK401;clear HK;clear HB;clear HI0;have BK385:=n0_;have BK401:=n1_;have HK:=n2_;have HB:=n3_;have HI0:=n4_;clear n0_ n1_ n2_ n3_ n4_;(try clear hb);(try clear hk);(try clear hi))|(go_at_call 21;(with_reducible refine(rule_fail_g.calls _ _ _ _ _ A28.out).mono ?_);rintro e w' ⟨rfl,hb⟩;exact And.intro rfl (And.intro rfl (below_step (bs56_ HB HI0) hb))))
        ·rw[if_neg c27] at H
         have c27b0:(t412==0)=false:=beq_eq_false_iff_ne.mpr c27
         have c27b1:(t412 !=0)=true:=bne_iff_ne.mpr c27
         (first|rw[c27b0]|(simp only[i64_w,i32_w];rw[c27b0])|skip)
         have H':=Aside0.mk H
         clear H
         go_wp2_with (first|((with_reducible refine gate_callee (f:=46) rfl ?_);refine gl_ (some 53) Tryd.func46 #[.pointer (some ⟨g,0,none⟩)] ?_;(with_reducible refine(rule_reader_value.calls _ _ _ _ _ _ _ _ _ _ _ _ _ _ _ _ _ _ _ _ _ _ w0 _ ?side1 ?side2 A26.out).mono ?_);(case side1=>exact is56_ HI0);(case side2=>exact bs56_ HB HI0);rintro e w30 ⟨rfl,hi,hb,hk⟩;refine⟨_,rfl,?_⟩;have n0_:=Aside0.mk (KeepBut.blk hk (bk_ BK385).out NB385_0.out (by simp));have n1_:=Aside0.mk (KeepBut.blk hk (bk_ BK401).out NB401_0.out (by simp));have n2_:=Aside0.mk (KeepBut.trans (kp_ HK) hk (.inl rfl));have n3_:=Aside0.mk (hb);have n4_:=Aside0.mk (hi);clear BK385;clear BK401;clear HK;clear HB;clear HI0;have BK385:=n0_;have BK401:=n1_;have HK:=n2_;have HB:=n3_;have HI0:=n4_;clear n0_ n1_ n2_ n3_ n4_;(try clear hb);(try clear hk);(try clear hi);have hnb31:=NB401_385.out;have hnc31:=NB385_401.out;have hnb32:=NB401_0.out;have hnc32:=NB0_401.out;obtain⟨hcz33_0,hcz33_1,hcz33_2,hcz33_3,hfz33_0,hfz33_1,hfz33_2,hfz33_3⟩:=bo4_ BK401))
         go_meet
         case rel=>exact⟨_,(t414),(t415),(t416),(t417),(t418),(t419),(t420),(t421),(t422),(t412),H',⟨by have:=HJ2.out;first|omega|exact Nat.le_refl _⟩,⟨(bf_ BK385).out⟩,⟨(bp_ BK401).out⟩,⟨is56_ HI0⟩,⟨kp_ HK⟩,⟨bs56_ HB HI0⟩⟩
      ·replace c24:=Bool.eq_false_iff.mpr c24
       subst c24
       have H1:(rule_reader_rel_g.j1 kj2 t403 t404 t405 t406 t407 t408 t409 t410 t411 (bt t386 0) 0 false)=some (r1,r2):=by rw[if_neg (show ¬(false=true) by decide)] at H;exact H
       clear H
       have H:=H1
       clear H1
       have H':=Aside0.mk H
       clear H
       go_wp2
       go_meet
       case rel=>exact⟨_,(t403),(t404),(t405),(t406),(t407),(t408),(t409),(t410),(t411),(0),H',⟨by have:=HJ2.out;first|omega|exact Nat.le_refl _⟩,(bk_ BK385),(bk_ BK401),⟨is56_ HI0⟩,⟨kp_ HK⟩,⟨bs56_ HB HI0⟩⟩
     case rest =>
      clear HC17
      obtain⟨kq,x1000_16,x1001_16,x1002_16,x1003_16,x1004_16,x1005_16,x1006_16,x1007_16,x1008_16,x402001_16,HA,HJ16,BK385,BK401,HI0,HK,HB⟩:=hcut
      cases kq with
      | zero=>exact absurd HA.out (by simp[rule_reader_rel_g.j1])
      | succ kj16 =>
       have H:=HA.out
       clear HA
       simp only[rule_reader_rel_g.j1] at H
       replace H:=Option.bind_eq_some_iff.mp H
       obtain⟨⟨t427,t428,t429,t430,t431,t432,t433,t434,t435,t436⟩,A340,H⟩:=H
       dsimp only at H
       have A34:=Aside0.mk A340
       clear A340
       have HC35:=Aside0.mk H
       clear H
       go_upto_if 67 with (first|((with_reducible refine gate_callee (f:=20) rfl ?_);refine gl_ (some 63) Tryd.func20 #[.pointer (some ⟨g,0,none⟩),.string (⟨#[33,61]⟩:ByteArray)] ?_;(with_reducible refine(rule_reader_take.calls _ _ _ _ _ _ _ _ _ _ _ _ _ _ _ _ _ _ _ _ _ _ w0 _ ?side1 ?side2 A34.out).mono ?_);(case side1=>exact is56_ HI0);(case side2=>exact bs56_ HB HI0);rintro e w36 ⟨rfl,hi,hb,hk⟩;refine⟨_,rfl,?_⟩;have n0_:=Aside0.mk (KeepBut.blk hk (bk_ BK385).out NB385_0.out (by simp));have n1_:=Aside0.mk (KeepBut.blk hk (bk_ BK401).out NB401_0.out (by simp));have n2_:=Aside0.mk (KeepBut.trans (kp_ HK) hk (.inl rfl));have n3_:=Aside0.mk (hb);have n4_:=Aside0.mk (hi);clear BK385;clear BK401;clear HK;clear HB;clear HI0;have BK385:=n0_;have BK401:=n1_;have HK:=n2_;have HB:=n3_;have HI0:=n4_;clear n0_ n1_ n2_ n3_ n4_;(try clear hb);(try clear hk);(try clear hi);have hnb37:=NB401_385.out;have hnc37:=NB385_401.out;have hnb38:=NB401_0.out;have hnc38:=NB0_401.out;obtain⟨hcz39_0,hcz39_1,hcz39_2,hcz39_3,hfz39_0,hfz39_1,hfz39_2,hfz39_3⟩:=bo4_ BK401))
       (try simp only[Act.put,List.setIfInBounds_toArray,List.set_cons_zero,List.set_cons_succ])
       go_cut [] (fun wc=>∃(kq:Nat) (x1000_34:ByteArray) (x1001_34:Int) (x1002_34:Int) (x1003_34:Bool) (x1004_34:Bool) (x1005_34:Bool) (x1006_34:Bool) (x1007_34:Bool) (x1008_34:Bool),Aside0 (rule_reader_rel_g.j2 kq x1000_34 x1001_34 x1002_34 x1003_34 x1004_34 x1005_34 x1006_34 x1007_34 x1008_34 (bt t386 0) x402001_16 t427=some (r1,r2))∧Aside0 (kq≤kj16)∧Aside0 (wc.heap[gb385]? = some (.cells #[.int .u8 0,.int .i64 0,.bool false,(.slice none 0 0)] 36 (0,0)))∧Aside0 (wc.heap[gb401]? = some (.cells #[.int .u8 (bt t386 0),.int .i64 x402001_16,.bool t427,(.slice none 0 0)] 36 (0,0)))∧Aside0 (IsS56 w0 wc g x1000_34 x1001_34 x1002_34 x1003_34 x1004_34 x1005_34 x1006_34 x1007_34 x1008_34)∧Aside0 (KeepBut w wc g none)∧Aside0 (Below w0.heap.size w0 wc))
       case first =>
        have H:=HC35.out
        clear HC35
        by_cases c40:t427=true
        ·subst c40
         have H1:(rule_reader_rel_g.j2 kj16 t428 t429 t430 t431 t432 t433 t434 t435 t436 (bt t386 0) x402001_16 true)=some (r1,r2):=by rw[if_pos rfl] at H;exact H
         clear H
         have H:=H1
         clear H1
         have H':=Aside0.mk H
         clear H
         go_wp2
         go_meet
         case rel=>exact⟨_,(t428),(t429),(t430),(t431),(t432),(t433),(t434),(t435),(t436),H',⟨by have:=HJ2.out;have:=HJ16.out;first|omega|exact Nat.le_refl _⟩,⟨(bf_ BK385).out⟩,⟨(bp_ BK401).out⟩,⟨is56_ HI0⟩,⟨kp_ HK⟩,⟨bs56_ HB HI0⟩⟩
        ·replace c40:=Bool.eq_false_iff.mpr c40
         subst c40
         have H1:(orf_ ((rule_reader_want_g.f kj16 t428 t429 t430 t431 t432 t433 t434 t435 t436 (⟨#[61]⟩:ByteArray)).bind fun bt446=>(some (bt446.1,bt446.2))) ((rule_reader_want.f kj16 t428 t429 t430 t431 t432 t433 t434 t435 t436 (⟨#[61]⟩:ByteArray)).bind fun bt437=>(rule_reader_rel_g.j2 kj16 bt437.1 bt437.2.1 bt437.2.2.1 bt437.2.2.2.1 bt437.2.2.2.2.1 bt437.2.2.2.2.2.1 bt437.2.2.2.2.2.2.1 bt437.2.2.2.2.2.2.2.1 bt437.2.2.2.2.2.2.2.2 (bt t386 0) x402001_16 false)))=some (r1,r2):=by rw[if_neg (show ¬(false=true) by decide)] at H;exact H
         clear H
         have H:=H1
         clear H1
         rcases orf_or H with H|H
         ·skip
          replace H:=Option.bind_eq_some_iff.mp H
          obtain⟨⟨t446,t447⟩,A410,H⟩:=H
          dsimp only at H
          have A41:=Aside0.mk A410
          clear A410
          simp only[Option.some.injEq,Prod.mk.injEq] at H
          obtain⟨rfl,rfl⟩:=H
          go_wp2_with (first|(go_at_call 28;(with_reducible refine(rule_reader_want_g.calls _ _ _ _ _ _ _ _ _ _ _ _ _ _ w0 _ ?side1 ?side2 A41.out).mono ?_);(case side1=>exact is56_ HI0);(case side2=>exact bs56_ HB HI0);rintro e w' ⟨rfl,hb⟩;exact And.intro rfl (And.intro rfl hb)))
         ·skip
          replace H:=Option.bind_eq_some_iff.mp H
          obtain⟨⟨t437,t438,t439,t440,t441,t442,t443,t444,t445⟩,A420,H⟩:=H
          dsimp only at H
          have A42:=Aside0.mk A420
          clear A420
          have H':=Aside0.mk H
          clear H
          go_wp2_with (first|((with_reducible refine gate_callee (f:=28) rfl ?_);refine gl_ (some 69) Tryd.func28 #[.pointer (some ⟨g,0,none⟩),.string (⟨#[61]⟩:ByteArray)] ?_;(with_reducible refine(rule_reader_want.calls _ _ _ _ _ _ _ _ _ _ _ _ _ _ _ _ _ _ _ _ _ w0 _ ?side1 ?side2 A42.out).mono ?_);(case side1=>exact is56_ HI0);(case side2=>exact bs56_ HB HI0);rintro e w43 ⟨rfl,hi,hb,hk⟩;refine⟨_,rfl,?_⟩;have n0_:=Aside0.mk (KeepBut.blk hk (g':=gb385) (o:= .cells #[.int .u8 0,.int .i64 0,.bool false,.slice none 0 0] 36 (0,0)) ((bf_ BK385).out) NB385_0.out (by simp));have n1_:=Aside0.mk (KeepBut.blk hk (g':=gb401) (o:= .cells #[.int .u8 (bt t386 0),.int .i64 x402001_16,.bool false,.slice none 0 0] 36 (0,0)) ((bp_ BK401).out) NB401_0.out (by simp));have n2_:=Aside0.mk (KeepBut.trans (kp_ HK) hk (.inl rfl));have n3_:=Aside0.mk (hb);have n4_:=Aside0.mk (hi);clear BK385;clear BK401;clear HK;clear HB;clear HI0;have BK385:=n0_;have BK401:=n1_;have HK:=n2_;have HB:=n3_;have HI0:=n4_;clear n0_ n1_ n2_ n3_ n4_;(try clear hb);(try clear hk);(try clear hi)))
          go_meet
          case rel=>exact⟨_,(t437),(t438),(t439),(t440),(t441),(t442),(t443),(t444),(t445),H',⟨by have:=HJ2.out;have:=HJ16.out;first|omega|exact Nat.le_refl _⟩,(bk_ BK385),(bk_ BK401),⟨is56_ HI0⟩,⟨kp_ HK⟩,⟨bs56_ HB HI0⟩⟩
       case rest =>
        clear HC35
        obtain⟨kq,x1000_34,x1001_34,x1002_34,x1003_34,x1004_34,x1005_34,x1006_34,x1007_34,x1008_34,HA,HJ34,BK385,BK401,HI0,HK,HB⟩:=hcut
        cases kq with
        | zero=>exact absurd HA.out (by simp[rule_reader_rel_g.j2])
        | succ kj34 =>
         have H:=HA.out
         clear HA
         simp only[rule_reader_rel_g.j2] at H
         rcases orf_or H with H|H
         ·skip
          replace H:=Option.bind_eq_some_iff.mp H
          obtain⟨⟨t488,t489⟩,A440,H⟩:=H
          dsimp only at H
          have A44:=Aside0.mk A440
          clear A440
          simp only[Option.some.injEq,Prod.mk.injEq] at H
          obtain⟨rfl,rfl⟩:=H
          try go_wp2
          replace BK385:=Aside0.mk (blk_drew BK385.out)
          replace BK401:=Aside0.mk (blk_drew BK401.out)
          replace HI0:=Aside0.mk (IsS56.drew HI0.out)
          replace HK:=Aside0.mk (keep_drew HK.out)
          replace HB:=Aside0.mk (below_drew1 HB.out)
          refine start_ (n:=8) (S:=fun w'=>w'.cell? ⟨gb401,0,none⟩=some (.int .u8 (bt t386 0))∧w'.cell? ⟨gb401,1,none⟩=some (.int .i64 x402001_16)∧w'.cell? ⟨gb401,2,none⟩=some (.bool t427)∧w'.cell? ⟨gb401,3,none⟩=some (.slice none 0 0)) (ds:=[]) #[false,false,false,false,false,false,false,false] (by kernel_rfl) rfl rfl ⟨bc_ BK401 0,bc_ BK401 1,bc_ BK401 2,bc_ BK401 3⟩ (fun hHeld=>?_);refine with_tabW rule_reader_rel_g.tab17 rule_reader_rel_g.bits17 (fun HT_ HW_=>?_)
          generalize wc.drew=w45 at BK385 BK401 HI0 HK HB hHeld ⊢
          refine pu_ 0 70 #[true,false,false,false,false,false,false,false] HT_ ?_
          refine pu_ 2 72 #[true,false,true,false,false,false,false,false] HT_ ?_
          refine tk_ 1 71 #[true,true,true,false,false,false,false,false] HT_ HW_ hHeld rfl (by rintro w' ⟨s0,s1,s2,s3⟩;go_simp;with_reducible rfl) ?_
          refine one_ (i:=3) (N:=some 73) #[true,true,true,true,false,false,false,false] rfl rfl (one_of HT_.out (by kernel_rfl)) (by decide) (fun K hK=>?_)
          refine gp_ Tryd.func47 (by kernel_rfl) rfl #[.pointer (some ⟨g,0,none⟩)] (by rfl) rfl rfl (by (try simp only[List.map_toArray,List.map_cons,List.map_nil]);first|done|rfl|(simp only[List.length_drop,List.length_take];rfl)|(have z_:∀s_:ByteArray,s_.size≤9223372036854775807→ -(s_.size:Int)=wrap64 (-(s_.size:Int)):=(fun s_ h_=>by unfold wrap64;omega);rw[← z_ _ (by omega)];rfl)|(simp only[ByteArray.size_append];rfl)) ?_
          with_reducible refine(rule_reader_span_g.calls _ _ _ _ _ _ _ _ _ _ _ _ _ w0 _ ?side1 ?side2 A44.out).mono ?_
          (case side1=>exact is56_ HI0)
          (case side2=>exact bs56_ HB HI0)
          rintro e w' ⟨rfl,hb⟩
          refine⟨_,rfl,?_⟩
          exact And.intro rfl (And.intro rfl hb)
          try go_wp2
         ·skip
          replace H:=Option.bind_eq_some_iff.mp H
          obtain⟨⟨t448,t449,t450,t451,t452,t453,t454,t455,t456,t457,t458⟩,A460,H⟩:=H
          dsimp only at H
          have A46:=Aside0.mk A460
          clear A460
          replace H:=ifn_ H
          obtain⟨c47,H⟩:=H
          have LMc47:=Aside0.mk c47
          clear c47
          obtain⟨y459,hy459⟩:∃y_:List (S38),y_=(([]:List (S38))++[(⟨t448,t449⟩:S38)]):=⟨_,rfl⟩
          replace H:(rule_reader_rel_g.l0 kj34 t450 t451 t452 t453 t454 t455 t456 t457 t458 (bt t386 0) x402001_16 t427 y459)=some (r1,r2):=by first|(rw[hy459];with_reducible exact H)|(have H2_:=(Option.bind_some _ _).symm.trans H;rw[hy459];with_reducible exact H2_)|(have H2_:=(Option.bind_some _ _).symm.trans H;with_reducible exact H2_)|with_reducible exact H|(rw[hy459];exact H)|exact H
          have Ny459:=Aside0.mk hy459
          clear hy459
          have H':=Aside0.mk H
          clear H
          try go_wp2
          replace BK385:=Aside0.mk (blk_drew BK385.out)
          replace BK401:=Aside0.mk (blk_drew BK401.out)
          replace HI0:=Aside0.mk (IsS56.drew HI0.out)
          replace HK:=Aside0.mk (keep_drew HK.out)
          replace HB:=Aside0.mk (below_drew1 HB.out)
          refine start_ (n:=8) (S:=fun w'=>w'.cell? ⟨gb401,0,none⟩=some (.int .u8 (bt t386 0))∧w'.cell? ⟨gb401,1,none⟩=some (.int .i64 x402001_16)∧w'.cell? ⟨gb401,2,none⟩=some (.bool t427)∧w'.cell? ⟨gb401,3,none⟩=some (.slice none 0 0)) (ds:=[7]) #[false,false,false,false,false,false,false,false] (by kernel_rfl) rfl rfl ⟨bc_ BK401 0,bc_ BK401 1,bc_ BK401 2,bc_ BK401 3⟩ (fun hHeld=>?_);refine with_tabW rule_reader_rel_g.tab17 rule_reader_rel_g.bits17 (fun HT_ HW_=>?_)
          generalize wc.drew=w48 at BK385 BK401 HI0 HK HB hHeld ⊢
          refine pu_ 0 70 #[true,false,false,false,false,false,false,false] HT_ ?_
          refine pu_ 2 72 #[true,false,true,false,false,false,false,false] HT_ ?_
          refine tk_ 1 71 #[true,true,true,false,false,false,false,false] HT_ HW_ hHeld rfl (by rintro w' ⟨s0,s1,s2,s3⟩;go_simp;with_reducible rfl) ?_
          refine one_ (i:=3) (N:=some 73) #[true,true,true,true,false,false,false,false] rfl rfl (one_of HT_.out (by kernel_rfl)) (by decide) (fun K hK=>?_)
          refine gs_ Tryd.func47 #[.pointer (some ⟨g,0,none⟩)] ?_
          with_reducible refine(rule_reader_span.calls _ _ _ _ _ _ _ _ _ _ _ _ _ _ _ _ _ _ _ _ _ _ w0 _ ?side1 ?side2 A46.out).mono ?_
          (case side1=>exact is56_ HI0)
          (case side2=>exact bs56_ HB HI0)
          rintro e w49 ⟨rfl,hi,hb,hk⟩
          refine⟨_,rfl,?_⟩
          replace BK385:=Aside0.mk (KeepBut.blk hk (bk_ BK385).out NB385_0.out (by simp))
          replace BK401:=Aside0.mk (KeepBut.blk hk (bk_ BK401).out NB401_0.out (by simp))
          replace HK:=Aside0.mk (KeepBut.trans (kp_ HK) hk (.inl rfl))
          replace HB:=Aside0.mk (hb)
          replace HI0:=Aside0.mk (hi)
          (try clear hb)
          (try clear hb2)
          (try clear hk)
          (try clear hi)
          refine hK.out _ _ ⟨bc_ BK401 0,bc_ BK401 1,bc_ BK401 2,bc_ BK401 3⟩ (fun hHeld=>?_)
          clear hK K
          refine nm_ 73 ?_
          refine one_ (i:=4) (N:=some 74) #[true,true,true,true,true,false,false,false] rfl rfl (one_of HT_.out (by kernel_rfl)) (by decide) (fun K hK=>?_)
          refine value_ (w1:=?_) (v:=?_) (by rfl) rfl ?_ ?_
          rotate_left 2
          ·go_simp
           constructor
           ·rfl
           ·rfl
          refine hK.out _ _ ⟨(blk_cell (blk_alloc BK401.out _) 0).trans rfl,(blk_cell (blk_alloc BK401.out _) 1).trans rfl,(blk_cell (blk_alloc BK401.out _) 2).trans rfl,(blk_cell (blk_alloc BK401.out _) 3).trans rfl⟩ (fun hHeld=>?_)
          clear hK K
          refine nm_ 74 ?_
          refine one_ (i:=5) (N:=some 75) #[true,true,true,true,true,true,false,false] rfl rfl (one_of HT_.out (by kernel_rfl)) (by decide) (fun K hK=>?_)
          refine Kd.R_append_step k38 w.heap.size (by rfl) (.tmp 71) (.tmp 74) 34 38 (.agg #[(.int .i64 0),(.int .i64 0)]) 16 rfl Tryd.underlying34 info38 rfl (by decide) (by omega) (.slice none 0 0) ([]:List (S38)) (⟨t448,t449⟩:S38) [.int .i64 t448,.int .i64 t449] (fun _=>True) (fun _=>False) rfl rfl ?aP (fun _ hk=>hk.elim) ?aF ?aO (Below.refl _ _) ?aS ?aL ?_
          (case aP=>exact k38_mkM _ _ _ (⟨t448,t449⟩:S38))
          (case aF=>exact(fun _ _=>trivial))
          (case aO=>exact((Kd.R_nil _ _ _ _ (fun _=>True))))
          (case aS=>exact(keep_size (w:=w) (g:=g) (row:=none) (kp_ HK)))
          (case aL=>have:=LMc47.out;omega)
          intro v460 w50 ho hb hg hat
          rw[← Ny459.out] at ho
          have n0_:=Aside0.mk (blk_grown (bk_ BK385).out hg (by simp[Value.ownBlock]))
          have n1_:=Aside0.mk (blk_grown (bk_ BK401).out hg (by simp[Value.ownBlock]))
          have n2_:=Aside0.mk (IsS56.grown (is56_ HI0) hg (by simp[Value.ownBlock]))
          have n3_:=Aside0.mk (below_weaken (bs56_ HB HI0) HL.out hb)
          have n4_:=Aside0.mk (KeepBut.trans (kp_ HK) (KeepBut.of_grown hg g) (.inl (by simp[Value.ownBlock])))
          have n5_:=Aside0.mk (ho)
          clear BK385
          clear BK401
          clear HI0
          clear HB
          clear HK
          have BK385:=n0_
          have BK401:=n1_
          have HI0:=n2_
          have HB:=n3_
          have HK:=n4_
          have HO461:=n5_
          clear n0_ n1_ n2_ n3_ n4_ n5_
          clear ho hb hg hat
          obtain⟨Ao51,co51,eo51⟩:=Kd.R_slice HO461.out
          (first|subst eo51|(injection eo51 with f1_ f2_ f3_;have f4_:=f1_.symm;have f5_:=f3_.symm;clear f1_ f2_ f3_;subst f4_;subst f5_))
          refine hK.out _ _ ⟨bc_ BK401 0,bc_ BK401 1,bc_ BK401 2,bc_ BK401 3⟩ (fun hHeld=>?_)
          clear hK K
          refine nm_ 75 ?_
          refine pu_ 6 76 #[true,true,true,true,true,true,true,false] HT_ ?_
          refine last_ (i:=7) (N:=none) #[true,true,true,true,true,true,true,true] rfl rfl (one_of HT_.out (by kernel_rfl)) (by decide) (fun K hK=>?_)
          have hs52:w50.cell? ⟨gb401,3,none⟩=some (.slice none 0 0):=bc_ BK401 3
          have hfs52:=blk_frozen BK401.out 3
          have hns52_0:=NB385_401.out
          have hms52_0:=NB401_385.out
          refine skip_ (w1:=?_) (by rfl) rfl ?_ ?_
          rotate_left
          ·go_simp
           rfl
          refine hK.out _ _ ?_
          clear hK K
          refine done_ (done_of HT_.out (by kernel_rfl)) ?_
          try go_wp2
          go_loopg [] kj34 (fun kq w'=>∃(x1000_4:ByteArray) (x1001_4:Int) (x1002_4:Int) (x1003_4:Bool) (x1004_4:Bool) (x1005_4:Bool) (x1006_4:Bool) (x1007_4:Bool) (x1008_4:Bool) (x402003_4:List (S38)) (u402003:Value),Aside0 (rule_reader_rel_g.l0 kq x1000_4 x1001_4 x1002_4 x1003_4 x1004_4 x1005_4 x1006_4 x1007_4 x1008_4 (bt t386 0) x402001_16 t427 x402003_4=some (r1,r2))∧Aside0 (kq≤kj34)∧Aside0 (Kd.R k38 38 w' w.heap.size (fun _=>True) u402003 x402003_4)∧Aside0 (w'.heap[gb385]? = some (.cells #[.int .u8 0,.int .i64 0,.bool false,(.slice none 0 0)] 36 (0,0)))∧Aside0 (w'.heap[gb401]? = some (.cells #[.int .u8 (bt t386 0),.int .i64 x402001_16,.bool t427,u402003] 36 (0,0)))∧Aside0 (IsS56 w0 w' g x1000_4 x1001_4 x1002_4 x1003_4 x1004_4 x1005_4 x1006_4 x1007_4 x1008_4)∧Aside0 (KeepBut w w' g none)∧Aside0 (Below w0.heap.size w0 w'))
          case atStart=>exact⟨(t450),(t451),(t452),(t453),(t454),(t455),(t456),(t457),(t458),(y459),(.slice Ao51 y459.length co51),H',⟨Nat.le_refl _⟩,⟨kdR_ (Kd.R_mono (Kd.R_far (Kd.R_types HO461.out BK401.out (by decide)) (fun _ hk=>hk.2) _) (fun _ hk=>trivial))⟩,⟨(bf_ BK385).out⟩,⟨(bp_ BK401).out⟩,⟨is56_ HI0⟩,⟨kp_ HK⟩,⟨bs56_ HB HI0⟩⟩
          case round =>
           clear H'
           obtain⟨x1000_4,x1001_4,x1002_4,x1003_4,x1004_4,x1005_4,x1006_4,x1007_4,x1008_4,x402003_4,u402003,HA,HK4,HO_402003,BK385,BK401,HI0,HK,HB⟩:=hrel
           cases gk with
           | zero=>exact absurd HA.out (by simp[rule_reader_rel_g.l0])
           | succ k4 =>
            have H:=HA.out
            clear HA
            simp only[rule_reader_rel_g.l0] at H
            replace H:=Option.bind_eq_some_iff.mp H
            obtain⟨⟨t462,t463,t464,t465,t466,t467,t468,t469,t470,t471⟩,A530,H⟩:=H
            dsimp only at H
            have A53:=Aside0.mk A530
            clear A530
            by_cases c54:t462=true
            ·subst c54
             have H1:(orf_ ((rule_reader_span_g.f k4 t463 t464 t465 t466 t467 t468 t469 t470 t471).bind fun bt486=>(some (bt486.1,bt486.2))) ((rule_reader_span.f k4 t463 t464 t465 t466 t467 t468 t469 t470 t471).bind fun bt472=>(if x402003_4.length<8796093022208 then (rule_reader_rel_g.l0 k4 bt472.2.2.1 bt472.2.2.2.1 bt472.2.2.2.2.1 bt472.2.2.2.2.2.1 bt472.2.2.2.2.2.2.1 bt472.2.2.2.2.2.2.2.1 bt472.2.2.2.2.2.2.2.2.1 bt472.2.2.2.2.2.2.2.2.2.1 bt472.2.2.2.2.2.2.2.2.2.2 (bt t386 0) x402001_16 t427 (x402003_4++[(⟨bt472.1,bt472.2.1⟩:S38)])) else (none))))=some (r1,r2):=by rw[if_pos rfl] at H;exact H
             clear H
             have H:=H1
             clear H1
             rcases orf_or H with H|H
             ·skip
              replace H:=Option.bind_eq_some_iff.mp H
              obtain⟨⟨t486,t487⟩,A550,H⟩:=H
              dsimp only at H
              have A55:=Aside0.mk A550
              clear A550
              simp only[Option.some.injEq,Prod.mk.injEq] at H
              obtain⟨rfl,rfl⟩:=H
              try go_wp2_with (first|((with_reducible refine gate_callee (f:=20) rfl ?_);refine gl_ (some 78) Tryd.func20 #[.pointer (some ⟨g,0,none⟩),.string (⟨#[44]⟩:ByteArray)] ?_;(with_reducible refine(rule_reader_take.calls _ _ _ _ _ _ _ _ _ _ _ _ _ _ _ _ _ _ _ _ _ _ w0 _ ?side1 ?side2 A53.out).mono ?_);(case side1=>exact is56_ HI0);(case side2=>exact bs56_ HB HI0);rintro e w56 ⟨rfl,hi,hb,hk⟩;refine⟨_,rfl,?_⟩;have n0_:=Aside0.mk (Kd.R_mono (Kd.R_keep (IsS56.apart (show IsS56 w0 _ g x1000_4 x1001_4 x1002_4 x1003_4 x1004_4 x1005_4 x1006_4 x1007_4 x1008_4 from is56_ HI0) (kr_ HO_402003) (by decide)) hk (fun _ h=>h.2)) (fun _ h=>h.1));have n1_:=Aside0.mk (KeepBut.blk hk (bk_ BK385).out NB385_0.out (by simp));have n2_:=Aside0.mk (KeepBut.blk hk (bk_ BK401).out NB401_0.out (by simp));have n3_:=Aside0.mk (KeepBut.trans (kp_ HK) hk (.inl rfl));have n4_:=Aside0.mk (hb);have n5_:=Aside0.mk (hi);clear HO_402003;clear BK385;clear BK401;clear HK;clear HB;clear HI0;have HO_402003:=n0_;have BK385:=n1_;have BK401:=n2_;have HK:=n3_;have HB:=n4_;have HI0:=n5_;clear n0_ n1_ n2_ n3_ n4_ n5_;(try clear hb);(try clear hk);(try clear hi)))
              replace HO_402003:=Aside0.mk (Kd.R_drew HO_402003.out)
              replace BK385:=Aside0.mk (blk_drew BK385.out)
              replace BK401:=Aside0.mk (blk_drew BK401.out)
              replace HI0:=Aside0.mk (IsS56.drew HI0.out)
              replace HK:=Aside0.mk (keep_drew HK.out)
              replace HB:=Aside0.mk (below_drew1 HB.out)
              refine start_ (n:=8) (S:=fun w'=>w'.cell? ⟨gb401,0,none⟩=some (.int .u8 (bt t386 0))∧w'.cell? ⟨gb401,1,none⟩=some (.int .i64 x402001_16)∧w'.cell? ⟨gb401,2,none⟩=some (.bool t427)∧w'.cell? ⟨gb401,3,none⟩=some (u402003)) (ds:=[]) #[false,false,false,false,false,false,false,false] (by kernel_rfl) rfl rfl ⟨bc_ BK401 0,bc_ BK401 1,bc_ BK401 2,bc_ BK401 3⟩ (fun hHeld=>?_);refine with_tabW rule_reader_rel_g.tab19 rule_reader_rel_g.bits19 (fun HT_ HW_=>?_)
              generalize w56.drew=w57 at HO_402003 BK385 BK401 HI0 HK HB hHeld ⊢
              refine pu_ 0 79 #[true,false,false,false,false,false,false,false] HT_ ?_
              refine pu_ 2 81 #[true,false,true,false,false,false,false,false] HT_ ?_
              refine tk_ 1 80 #[true,true,true,false,false,false,false,false] HT_ HW_ hHeld rfl (by rintro w' ⟨s0,s1,s2,s3⟩;go_simp;with_reducible rfl) ?_
              refine one_ (i:=3) (N:=some 82) #[true,true,true,true,false,false,false,false] rfl rfl (one_of HT_.out (by kernel_rfl)) (by decide) (fun K hK=>?_)
              refine gp_ Tryd.func47 (by kernel_rfl) rfl #[.pointer (some ⟨g,0,none⟩)] (by rfl) rfl rfl (by (try simp only[List.map_toArray,List.map_cons,List.map_nil]);first|done|rfl|(simp only[List.length_drop,List.length_take];rfl)|(have z_:∀s_:ByteArray,s_.size≤9223372036854775807→ -(s_.size:Int)=wrap64 (-(s_.size:Int)):=(fun s_ h_=>by unfold wrap64;omega);rw[← z_ _ (by omega)];rfl)|(simp only[ByteArray.size_append];rfl)) ?_
              with_reducible refine(rule_reader_span_g.calls _ _ _ _ _ _ _ _ _ _ _ _ _ w0 _ ?side1 ?side2 A55.out).mono ?_
              (case side1=>exact is56_ HI0)
              (case side2=>exact bs56_ HB HI0)
              rintro e w' ⟨rfl,hb⟩
              refine⟨_,rfl,?_⟩
              exact And.intro rfl (And.intro rfl hb)
              try go_wp2
             ·skip
              replace H:=Option.bind_eq_some_iff.mp H
              obtain⟨⟨t472,t473,t474,t475,t476,t477,t478,t479,t480,t481,t482⟩,A580,H⟩:=H
              dsimp only at H
              have A58:=Aside0.mk A580
              clear A580
              replace H:=ifn_ H
              obtain⟨c59,H⟩:=H
              have LMc59:=Aside0.mk c59
              clear c59
              obtain⟨y483,hy483⟩:∃y_:List (S38),y_=(x402003_4++[(⟨t472,t473⟩:S38)]):=⟨_,rfl⟩
              replace H:(rule_reader_rel_g.l0 k4 t474 t475 t476 t477 t478 t479 t480 t481 t482 (bt t386 0) x402001_16 t427 y483)=some (r1,r2):=by first|(rw[hy483];with_reducible exact H)|(have H2_:=(Option.bind_some _ _).symm.trans H;rw[hy483];with_reducible exact H2_)|(have H2_:=(Option.bind_some _ _).symm.trans H;with_reducible exact H2_)|with_reducible exact H|(rw[hy483];exact H)|exact H
              have Ny483:=Aside0.mk hy483
              clear hy483
              have H':=Aside0.mk H
              clear H
              try go_wp2_with (first|((with_reducible refine gate_callee (f:=20) rfl ?_);refine gl_ (some 78) Tryd.func20 #[.pointer (some ⟨g,0,none⟩),.string (⟨#[44]⟩:ByteArray)] ?_;(with_reducible refine(rule_reader_take.calls _ _ _ _ _ _ _ _ _ _ _ _ _ _ _ _ _ _ _ _ _ _ w0 _ ?side1 ?side2 A53.out).mono ?_);(case side1=>exact is56_ HI0);(case side2=>exact bs56_ HB HI0);rintro e w60 ⟨rfl,hi,hb,hk⟩;refine⟨_,rfl,?_⟩;have n0_:=Aside0.mk (Kd.R_mono (Kd.R_keep (IsS56.apart (show IsS56 w0 _ g x1000_4 x1001_4 x1002_4 x1003_4 x1004_4 x1005_4 x1006_4 x1007_4 x1008_4 from is56_ HI0) (kr_ HO_402003) (by decide)) hk (fun _ h=>h.2)) (fun _ h=>h.1));have n1_:=Aside0.mk (KeepBut.blk hk (bk_ BK385).out NB385_0.out (by simp));have n2_:=Aside0.mk (KeepBut.blk hk (bk_ BK401).out NB401_0.out (by simp));have n3_:=Aside0.mk (KeepBut.trans (kp_ HK) hk (.inl rfl));have n4_:=Aside0.mk (hb);have n5_:=Aside0.mk (hi);clear HO_402003;clear BK385;clear BK401;clear HK;clear HB;clear HI0;have HO_402003:=n0_;have BK385:=n1_;have BK401:=n2_;have HK:=n3_;have HB:=n4_;have HI0:=n5_;clear n0_ n1_ n2_ n3_ n4_ n5_;(try clear hb);(try clear hk);(try clear hi)))
              replace HO_402003:=Aside0.mk (Kd.R_drew HO_402003.out)
              replace BK385:=Aside0.mk (blk_drew BK385.out)
              replace BK401:=Aside0.mk (blk_drew BK401.out)
              replace HI0:=Aside0.mk (IsS56.drew HI0.out)
              replace HK:=Aside0.mk (keep_drew HK.out)
              replace HB:=Aside0.mk (below_drew1 HB.out)
              refine start_ (n:=8) (S:=fun w'=>w'.cell? ⟨gb401,0,none⟩=some (.int .u8 (bt t386 0))∧w'.cell? ⟨gb401,1,none⟩=some (.int .i64 x402001_16)∧w'.cell? ⟨gb401,2,none⟩=some (.bool t427)∧w'.cell? ⟨gb401,3,none⟩=some (u402003)) (ds:=[7]) #[false,false,false,false,false,false,false,false] (by kernel_rfl) rfl rfl ⟨bc_ BK401 0,bc_ BK401 1,bc_ BK401 2,bc_ BK401 3⟩ (fun hHeld=>?_);refine with_tabW rule_reader_rel_g.tab19 rule_reader_rel_g.bits19 (fun HT_ HW_=>?_)
              generalize w60.drew=w61 at HO_402003 BK385 BK401 HI0 HK HB hHeld ⊢
              refine pu_ 0 79 #[true,false,false,false,false,false,false,false] HT_ ?_
              refine pu_ 2 81 #[true,false,true,false,false,false,false,false] HT_ ?_
              refine tk_ 1 80 #[true,true,true,false,false,false,false,false] HT_ HW_ hHeld rfl (by rintro w' ⟨s0,s1,s2,s3⟩;go_simp;with_reducible rfl) ?_
              refine one_ (i:=3) (N:=some 82) #[true,true,true,true,false,false,false,false] rfl rfl (one_of HT_.out (by kernel_rfl)) (by decide) (fun K hK=>?_)
              refine gs_ Tryd.func47 #[.pointer (some ⟨g,0,none⟩)] ?_
              with_reducible refine(rule_reader_span.calls _ _ _ _ _ _ _ _ _ _ _ _ _ _ _ _ _ _ _ _ _ _ w0 _ ?side1 ?side2 A58.out).mono ?_
              (case side1=>exact is56_ HI0)
              (case side2=>exact bs56_ HB HI0)
              rintro e w62 ⟨rfl,hi,hb,hk⟩
              refine⟨_,rfl,?_⟩
              have n0_:=Aside0.mk (Kd.R_mono (Kd.R_keep (IsS56.apart (show IsS56 w0 _ g t463 t464 t465 t466 t467 t468 t469 t470 t471 from is56_ HI0) (kr_ HO_402003) (by decide)) hk (fun _ h=>h.2)) (fun _ h=>h.1))
              have n1_:=Aside0.mk (KeepBut.blk hk (bk_ BK385).out NB385_0.out (by simp))
              have n2_:=Aside0.mk (KeepBut.blk hk (bk_ BK401).out NB401_0.out (by simp))
              have n3_:=Aside0.mk (KeepBut.trans (kp_ HK) hk (.inl rfl))
              have n4_:=Aside0.mk (hb)
              have n5_:=Aside0.mk (hi)
              clear HO_402003
              clear BK385
              clear BK401
              clear HK
              clear HB
              clear HI0
              have HO_402003:=n0_
              have BK385:=n1_
              have BK401:=n2_
              have HK:=n3_
              have HB:=n4_
              have HI0:=n5_
              clear n0_ n1_ n2_ n3_ n4_ n5_
              (try clear hb)
              (try clear hb2)
              (try clear hk)
              (try clear hi)
              refine hK.out _ _ ⟨bc_ BK401 0,bc_ BK401 1,bc_ BK401 2,bc_ BK401 3⟩ (fun hHeld=>?_)
              clear hK K
              refine nm_ 82 ?_
              refine one_ (i:=4) (N:=some 83) #[true,true,true,true,true,false,false,false] rfl rfl (one_of HT_.out (by kernel_rfl)) (by decide) (fun K hK=>?_)
              refine value_ (w1:=?_) (v:=?_) (by rfl) rfl ?_ ?_
              rotate_left 2
              ·go_simp
               constructor
               ·rfl
               ·rfl
              refine hK.out _ _ ⟨(blk_cell (blk_alloc BK401.out _) 0).trans rfl,(blk_cell (blk_alloc BK401.out _) 1).trans rfl,(blk_cell (blk_alloc BK401.out _) 2).trans rfl,(blk_cell (blk_alloc BK401.out _) 3).trans rfl⟩ (fun hHeld=>?_)
              clear hK K
              refine nm_ 83 ?_
              refine one_ (i:=5) (N:=some 84) #[true,true,true,true,true,true,false,false] rfl rfl (one_of HT_.out (by kernel_rfl)) (by decide) (fun K hK=>?_)
              refine Kd.R_append_step k38 w.heap.size (by rfl) (.tmp 80) (.tmp 83) 34 38 (.agg #[(.int .i64 0),(.int .i64 0)]) 16 rfl Tryd.underlying34 info38 rfl (by decide) (by omega) u402003 x402003_4 (⟨t472,t473⟩:S38) [.int .i64 t472,.int .i64 t473] (fun _=>True) (fun _=>False) rfl rfl ?aP (fun _ hk=>hk.elim) ?aF ?aO (Below.refl _ _) ?aS ?aL ?_
              (case aP=>exact k38_mkM _ _ _ (⟨t472,t473⟩:S38))
              (case aF=>exact(fun _ _=>trivial))
              (case aO=>exact(kr_ HO_402003))
              (case aS=>exact(keep_size (w:=w) (g:=g) (row:=none) (kp_ HK)))
              (case aL=>have:=LMc59.out;omega)
              intro v484 w63 ho hb hg hat
              rw[← Ny483.out] at ho
              have n0_:=Aside0.mk (blk_grown (bk_ BK385).out hg (Kd.R_ne HO_402003.out BK385.out (by decide)))
              have n1_:=Aside0.mk (blk_grown (bk_ BK401).out hg (Kd.R_ne HO_402003.out BK401.out (by decide)))
              have n2_:=Aside0.mk (IsS56.grown (is56_ HI0) hg (IsS56.own_ne HI0.out HO_402003.out (by decide)))
              have n3_:=Aside0.mk (below_weaken (bs56_ HB HI0) HL.out hb)
              have n4_:=Aside0.mk (KeepBut.trans (kp_ HK) (KeepBut.of_grown hg g) (Kd.R_base2 HO_402003.out))
              have n5_:=Aside0.mk (ho)
              clear BK385
              clear BK401
              clear HI0
              clear HB
              clear HK
              clear HO_402003
              have BK385:=n0_
              have BK401:=n1_
              have HI0:=n2_
              have HB:=n3_
              have HK:=n4_
              have HO485:=n5_
              clear n0_ n1_ n2_ n3_ n4_ n5_
              clear ho hb hg hat
              obtain⟨Ao64,co64,eo64⟩:=Kd.R_slice HO485.out
              (first|subst eo64|(injection eo64 with f1_ f2_ f3_;have f4_:=f1_.symm;have f5_:=f3_.symm;clear f1_ f2_ f3_;subst f4_;subst f5_))
              refine hK.out _ _ ⟨bc_ BK401 0,bc_ BK401 1,bc_ BK401 2,bc_ BK401 3⟩ (fun hHeld=>?_)
              clear hK K
              refine nm_ 84 ?_
              refine pu_ 6 85 #[true,true,true,true,true,true,true,false] HT_ ?_
              refine last_ (i:=7) (N:=none) #[true,true,true,true,true,true,true,true] rfl rfl (one_of HT_.out (by kernel_rfl)) (by decide) (fun K hK=>?_)
              have hs65:w63.cell? ⟨gb401,3,none⟩=some (u402003):=bc_ BK401 3
              have hfs65:=blk_frozen BK401.out 3
              have hns65_0:=NB385_401.out
              have hms65_0:=NB401_385.out
              refine skip_ (w1:=?_) (by rfl) rfl ?_ ?_
              rotate_left
              ·go_simp
               rfl
              refine hK.out _ _ ?_
              clear hK K
              refine done_ (done_of HT_.out (by kernel_rfl)) ?_
              try go_wp2
              go_roundg k4
              case measure=>have:=HJ2.out;have:=HJ16.out;have:=HJ34.out;have:=HK4.out;omega
              case rel=>exact⟨(t474),(t475),(t476),(t477),(t478),(t479),(t480),(t481),(t482),(y483),(.slice Ao64 y483.length co64),H',⟨by have:=HJ2.out;have:=HJ16.out;have:=HJ34.out;have:=HK4.out;omega⟩,⟨kdR_ (Kd.R_mono (Kd.R_far (Kd.R_types HO485.out BK401.out (by decide)) (fun _ hk=>hk.2) _) (fun _ hk=>trivial))⟩,⟨(bf_ BK385).out⟩,⟨(bp_ BK401).out⟩,⟨is56_ HI0⟩,⟨kp_ HK⟩,⟨bs56_ HB HI0⟩⟩
            ·replace c54:=Bool.eq_false_iff.mpr c54
             subst c54
             have H1:(none)=some (r1,r2):=by rw[if_neg (show ¬(false=true) by decide)] at H;exact H
             clear H
             have H:=H1
             clear H1
             exact absurd H (by simp)

/-! ### rule_reader_all: function 29 -/
def rule_reader_all.l0:Nat→List (S36)→ByteArray→Int→Int→Bool→Bool→Bool→Bool→Bool→Bool→Option ((List (S36)) × ByteArray × Int × Int × Bool × Bool × Bool × Bool × Bool × Bool)
 | 0,_,_,_,_,_,_,_,_,_,_=>none
 | k+1,x3,x1000,x1001,x1002,x1003,x1004,x1005,x1006,x1007,x1008=>(rule_reader_next.f k x1000 x1001 x1002 x1003 x1004 x1005 x1006 x1007 x1008 (⟨#[97,110,100]⟩:ByteArray)).bind fun bt508=>(if bt508.1=true then ((rule_reader_rel.f k bt508.2.1 bt508.2.2.1 bt508.2.2.2.1 bt508.2.2.2.2.1 bt508.2.2.2.2.2.1 bt508.2.2.2.2.2.2.1 bt508.2.2.2.2.2.2.2.1 bt508.2.2.2.2.2.2.2.2.1 bt508.2.2.2.2.2.2.2.2.2).bind fun bt518=>(if x3.length<2932031007402 then (rule_reader_all.l0 k (x3++[(⟨bt518.1,bt518.2.1,bt518.2.2.1,bt518.2.2.2.1⟩:S36)]) bt518.2.2.2.2.1 bt518.2.2.2.2.2.1 bt518.2.2.2.2.2.2.1 bt518.2.2.2.2.2.2.2.1 bt518.2.2.2.2.2.2.2.2.1 bt518.2.2.2.2.2.2.2.2.2.1 bt518.2.2.2.2.2.2.2.2.2.2.1 bt518.2.2.2.2.2.2.2.2.2.2.2.1 bt518.2.2.2.2.2.2.2.2.2.2.2.2) else (none))) else (some (x3,bt508.2.1,bt508.2.2.1,bt508.2.2.2.1,bt508.2.2.2.2.1,bt508.2.2.2.2.2.1,bt508.2.2.2.2.2.2.1,bt508.2.2.2.2.2.2.2.1,bt508.2.2.2.2.2.2.2.2.1,bt508.2.2.2.2.2.2.2.2.2)))
def rule_reader_all.f (k:Nat) (s0_0:ByteArray) (s0_1:Int) (s0_2:Int) (s0_3:Bool) (s0_4:Bool) (s0_5:Bool) (s0_6:Bool) (s0_7:Bool) (s0_8:Bool):Option ((List (S36)) × ByteArray × Int × Int × Bool × Bool × Bool × Bool × Bool × Bool):=(rule_reader_rel.f k s0_0 s0_1 s0_2 s0_3 s0_4 s0_5 s0_6 s0_7 s0_8).bind fun bt490=>(rule_reader_all.l0 k (([(⟨bt490.1,bt490.2.1,bt490.2.2.1,bt490.2.2.2.1⟩:S36)]:List (S36))) bt490.2.2.2.2.1 bt490.2.2.2.2.2.1 bt490.2.2.2.2.2.2.1 bt490.2.2.2.2.2.2.2.1 bt490.2.2.2.2.2.2.2.2.1 bt490.2.2.2.2.2.2.2.2.2.1 bt490.2.2.2.2.2.2.2.2.2.2.1 bt490.2.2.2.2.2.2.2.2.2.2.2.1 bt490.2.2.2.2.2.2.2.2.2.2.2.2)
set_option maxHeartbeats 64000000 in
set_option maxRecDepth 100000 in
theorem rule_reader_all.calls (k:Nat) (g:Nat) (s0_0:ByteArray) (s0_1:Int) (s0_2:Int) (s0_3:Bool) (s0_4:Bool) (s0_5:Bool) (s0_6:Bool) (s0_7:Bool) (s0_8:Bool) (r1:List (S36)) (r2:ByteArray) (r3:Int) (r4:Int) (r5:Bool) (r6:Bool) (r7:Bool) (r8:Bool) (r9:Bool) (r10:Bool) (w0 w:World) (hI:IsS56 w0 w g s0_0 s0_1 s0_2 s0_3 s0_4 s0_5 s0_6 s0_7 s0_8) (hB:Below w0.heap.size w0 w) (h:rule_reader_all.f k s0_0 s0_1 s0_2 s0_3 s0_4 s0_5 s0_6 s0_7 s0_8=some (r1,r2,r3,r4,r5,r6,r7,r8,r9,r10)) :
  Calls Tryd.prog 29 #[.pointer (some ⟨g,0,none⟩)] w fun e w'=>∃v0_:Value,e= .returned (v0_)∧Kd.N k36 36 w' w.heap.size (fun k_=>(w.heap.size≤k_)) v0_ r1∧IsS56 w0 w' g r2 r3 r4 r5 r6 r7 r8 r9 r10∧Below w0.heap.size w0 w'∧KeepBut w w' g none:=by
 have HI0:=Aside0.mk hI
 have HK:=Aside0.mk (KeepBut.refl w g none)
 have HL:=Aside0.mk hB.size
 clear hI
 have HW0:=Aside0.mk hB.size
 have HB:=Aside0.mk hB
 clear hB
 have H:((rule_reader_rel.f k s0_0 s0_1 s0_2 s0_3 s0_4 s0_5 s0_6 s0_7 s0_8).bind fun bt490=>(rule_reader_all.l0 k (([(⟨bt490.1,bt490.2.1,bt490.2.2.1,bt490.2.2.2.1⟩:S36)]:List (S36))) bt490.2.2.2.2.1 bt490.2.2.2.2.2.1 bt490.2.2.2.2.2.2.1 bt490.2.2.2.2.2.2.2.1 bt490.2.2.2.2.2.2.2.2.1 bt490.2.2.2.2.2.2.2.2.2.1 bt490.2.2.2.2.2.2.2.2.2.2.1 bt490.2.2.2.2.2.2.2.2.2.2.2.1 bt490.2.2.2.2.2.2.2.2.2.2.2.2))=some (r1,r2,r3,r4,r5,r6,r7,r8,r9,r10):=h
 clear h
 replace H:=Option.bind_eq_some_iff.mp H
 obtain⟨⟨t490,t491,t492,t493,t496,t497,t498,t499,t500,t501,t502,t503,t504⟩,A20,H⟩:=H
 dsimp only at H
 have A2:=Aside0.mk A20
 clear A20
 obtain⟨y505,hy505⟩:∃y_:List (S36),y_=(([(⟨t490,t491,t492,t493⟩:S36)]:List (S36))):=⟨_,rfl⟩
 replace H:(rule_reader_all.l0 k y505 t496 t497 t498 t499 t500 t501 t502 t503 t504)=some (r1,r2,r3,r4,r5,r6,r7,r8,r9,r10):=by first|(rw[hy505];with_reducible exact H)|(have H2_:=(Option.bind_some _ _).symm.trans H;rw[hy505];with_reducible exact H2_)|(have H2_:=(Option.bind_some _ _).symm.trans H;with_reducible exact H2_)|with_reducible exact H|(rw[hy505];exact H)|exact H
 have Ny505:=Aside0.mk hy505
 clear hy505
 have H':=Aside0.mk H
 clear H
 go_enter Tryd.func29,Tryd.ntmps29
 go_wp2_with (first|((with_reducible refine gate_callee (f:=38) rfl ?_);refine gl_ (some 5) Tryd.func38 #[.pointer (some ⟨g,0,none⟩)] ?_;(with_reducible refine(rule_reader_rel.calls _ _ _ _ _ _ _ _ _ _ _ _ _ _ _ _ _ _ _ _ _ _ _ _ w0 _ ?side1 ?side2 A2.out).mono ?_);(case side1=>exact is56_ HI0);(case side2=>exact bs56_ HB HI0);rintro e w3 ⟨v494,rfl,ho0,hi,hb,hk⟩;refine⟨_,rfl,?_⟩;have HO495:=Aside0.mk (Kd.R_lower (Kd.R_newM (M:=fun k_=>(w.heap.size≤k_)) ho0 (keep_size (w:=w) (g:=g) (row:=none) (kp_ HK)) (fun k_ h_=>h_)) (keep_size (w:=w) (g:=g) (row:=none) (kp_ HK)));replace HK:=Aside0.mk (KeepBut.trans (kp_ HK) hk (.inl rfl));replace HB:=Aside0.mk (hb);replace HI0:=Aside0.mk (hi);(try clear hb);(try clear hk);(try clear hi);(try clear ho0);obtain⟨Ao4,co4,eo4⟩:=Kd.R_slice HO495.out;subst eo4)|((with_reducible refine gate_dst (N:=6) rfl ?_);refine Kd.N_lit k36 _ 36 ?hg (N':=6) ?hd (xs:=([(⟨t490,t491,t492,t493⟩:S36)]:List (S36))) (inner:=[.int .u8 t490,.int .i64 t491,.bool t492,.slice Ao4 t493.length co4]) (ok:=(fun k_=>(w.heap.size≤k_)∧k_≠g)) (okp:=(fun k_=>(w.heap.size≤k_)∧k_≠g)) ?hr ?hp (fun _ hk=>hk) ((show ∀k_,w3.heap.size≤k_→(fun k_=>(w.heap.size≤k_)∧k_≠g) k_ from fun k_ hk=>⟨(Nat.le_trans (keep_size (w:=w) (g:=g) (row:=none) (kp_ HK)) hk),IsS56.fresh (is56_ HI0) k_ hk⟩) _ (Nat.le_refl _)) (Below.refl _ _) (Nat.le_refl _) (by simp) ?_;(case hd=>rfl);(case hg=>rfl);(case hr=>first|(go_simp;done)|(go_simp;rfl));(case hp=>exact(Reps.c4 (show Kd.FK k36 _ _ (⟨t490,t491,t492,t493⟩:S36) [.int .u8 t490,.int .i64 t491,.bool t492,.slice Ao4 t493.length co4] from(k36_mkF _ _ (⟨t490,t491,t492,t493⟩:S36) (Kd.R_reads' (Kd.R_mono (ok':=(fun k_=>(w.heap.size≤k_)∧k_≠g)) (IsS56.apart HI0.out (HO495.out) (by decide)) (fun k_ hk=>⟨hk.1.1,hk.2⟩))).2.1 (Kd.R_F (Kd.R_mono (ok':=(fun k_=>(w.heap.size≤k_)∧k_≠g)) (IsS56.apart HI0.out (HO495.out) (by decide)) (fun k_ hk=>⟨hk.1.1,hk.2⟩))))) (Reps.none _ _)));intro v506 w5 ho6 hb hg_ hnew_;clear hg_ hnew_;(first|rw[← Ny505.out] at ho6|(simp only[Int.reduceToNat] at ho6;rw[← Ny505.out] at ho6));have n0_:=Aside0.mk (Kd.N_lower ho6 (keep_size (w:=w) (g:=g) (row:=none) (kp_ HK)));have n1_:=Aside0.mk (IsS56.below (is56_ HI0) hb);have n2_:=Aside0.mk (KeepBut.trans (kp_ HK) (KeepBut.of_below hb g none) (.inl rfl));have n3_:=Aside0.mk (below_step (bs56_ HB HI0) hb);clear HI0;clear HK;clear HB;clear HO495;have HO507:=n0_;have HI0:=n1_;have HK:=n2_;have HB:=n3_;clear n0_ n1_ n2_ n3_;clear hb ho6))
 go_loopg [3] k (fun kq v3 w'=>∃(x3_1:List (S36)) (x1000_1:ByteArray) (x1001_1:Int) (x1002_1:Int) (x1003_1:Bool) (x1004_1:Bool) (x1005_1:Bool) (x1006_1:Bool) (x1007_1:Bool) (x1008_1:Bool),Aside0 (rule_reader_all.l0 kq x3_1 x1000_1 x1001_1 x1002_1 x1003_1 x1004_1 x1005_1 x1006_1 x1007_1 x1008_1=some (r1,r2,r3,r4,r5,r6,r7,r8,r9,r10))∧Aside0 (kq≤k)∧Aside0 (Kd.N k36 36 w' w.heap.size (fun k_=>(w.heap.size≤k_)∧k_≠g) v3 x3_1)∧Aside0 (IsS56 w0 w' g x1000_1 x1001_1 x1002_1 x1003_1 x1004_1 x1005_1 x1006_1 x1007_1 x1008_1)∧Aside0 (KeepBut w w' g none)∧Aside0 (Below w0.heap.size w0 w'))
 case atStart=>exact⟨(y505),(t496),(t497),(t498),(t499),(t500),(t501),(t502),(t503),(t504),H',⟨Nat.le_refl _⟩,⟨kdN_ HO507.out⟩,⟨is56_ HI0⟩,⟨kp_ HK⟩,⟨bs56_ HB HI0⟩⟩
 case round =>
  clear H'
  obtain⟨x3_1,x1000_1,x1001_1,x1002_1,x1003_1,x1004_1,x1005_1,x1006_1,x1007_1,x1008_1,HA,HK1,HO_3,HI0,HK,HB⟩:=hrel
  cases gk with
  | zero=>exact absurd HA.out (by simp[rule_reader_all.l0])
  | succ k1 =>
   have H:=HA.out
   clear HA
   simp only[rule_reader_all.l0] at H
   replace H:=Option.bind_eq_some_iff.mp H
   obtain⟨⟨t508,t509,t510,t511,t512,t513,t514,t515,t516,t517⟩,A70,H⟩:=H
   dsimp only at H
   have A7:=Aside0.mk A70
   clear A70
   by_cases c8:t508=true
   ·subst c8
    have H1:((rule_reader_rel.f k1 t509 t510 t511 t512 t513 t514 t515 t516 t517).bind fun bt518=>(if x3_1.length<2932031007402 then (rule_reader_all.l0 k1 (x3_1++[(⟨bt518.1,bt518.2.1,bt518.2.2.1,bt518.2.2.2.1⟩:S36)]) bt518.2.2.2.2.1 bt518.2.2.2.2.2.1 bt518.2.2.2.2.2.2.1 bt518.2.2.2.2.2.2.2.1 bt518.2.2.2.2.2.2.2.2.1 bt518.2.2.2.2.2.2.2.2.2.1 bt518.2.2.2.2.2.2.2.2.2.2.1 bt518.2.2.2.2.2.2.2.2.2.2.2.1 bt518.2.2.2.2.2.2.2.2.2.2.2.2) else (none)))=some (r1,r2,r3,r4,r5,r6,r7,r8,r9,r10):=by rw[if_pos rfl] at H;exact H
    clear H
    have H:=H1
    clear H1
    replace H:=Option.bind_eq_some_iff.mp H
    obtain⟨⟨t518,t519,t520,t521,t524,t525,t526,t527,t528,t529,t530,t531,t532⟩,A90,H⟩:=H
    dsimp only at H
    have A9:=Aside0.mk A90
    clear A90
    replace H:=ifn_ H
    obtain⟨c10,H⟩:=H
    have LMc10:=Aside0.mk c10
    clear c10
    obtain⟨y533,hy533⟩:∃y_:List (S36),y_=(x3_1++[(⟨t518,t519,t520,t521⟩:S36)]):=⟨_,rfl⟩
    replace H:(rule_reader_all.l0 k1 y533 t524 t525 t526 t527 t528 t529 t530 t531 t532)=some (r1,r2,r3,r4,r5,r6,r7,r8,r9,r10):=by first|(rw[hy533];with_reducible exact H)|(have H2_:=(Option.bind_some _ _).symm.trans H;rw[hy533];with_reducible exact H2_)|(have H2_:=(Option.bind_some _ _).symm.trans H;with_reducible exact H2_)|with_reducible exact H|(rw[hy533];exact H)|exact H
    have Ny533:=Aside0.mk hy533
    clear hy533
    have H':=Aside0.mk H
    clear H
    go_wp2_with (first|((with_reducible refine gate_callee (f:=30) rfl ?_);refine gl_ (some 8) Tryd.func30 #[.pointer (some ⟨g,0,none⟩),.string (⟨#[97,110,100]⟩:ByteArray)] ?_;(with_reducible refine(rule_reader_next.calls _ _ _ _ _ _ _ _ _ _ _ _ _ _ _ _ _ _ _ _ _ _ w0 _ ?side1 ?side2 A7.out).mono ?_);(case side1=>exact is56_ HI0);(case side2=>exact bs56_ HB HI0);rintro e w11 ⟨rfl,hi,hb,hk⟩;refine⟨_,rfl,?_⟩;replace HO_3:=Aside0.mk (Kd.N_mono (Kd.N_keep (Kd.N_mono (ok:=fun k_=>(((w.heap.size≤k_))∧k_≠g)) (krN_ HO_3) (fun k_ hk_=>(⟨hk_,hk_.2⟩:_∧k_≠g))) hk (fun _ h=>h.2)) (fun _ h=>h.1));replace HK:=Aside0.mk (KeepBut.trans (kp_ HK) hk (.inl rfl));replace HB:=Aside0.mk (hb);replace HI0:=Aside0.mk (hi);(try clear hb);(try clear hk);(try clear hi))|((with_reducible refine gate_callee (f:=38) rfl ?_);refine gl_ (some 11) Tryd.func38 #[.pointer (some ⟨g,0,none⟩)] ?_;(with_reducible refine(rule_reader_rel.calls _ _ _ _ _ _ _ _ _ _ _ _ _ _ _ _ _ _ _ _ _ _ _ _ w0 _ ?side1 ?side2 A9.out).mono ?_);(case side1=>exact is56_ HI0);(case side2=>exact bs56_ HB HI0);rintro e w12 ⟨v522,rfl,ho0,hi,hb,hk⟩;refine⟨_,rfl,?_⟩;have HO523:=Aside0.mk (Kd.R_lower (Kd.R_newM (M:=fun k_=>(w.heap.size≤k_)) ho0 (keep_size (w:=w) (g:=g) (row:=none) (kp_ HK)) (fun k_ h_=>h_)) (keep_size (w:=w) (g:=g) (row:=none) (kp_ HK)));replace HO_3:=Aside0.mk (Kd.N_mono (Kd.N_told (Kd.N_oldK (Kd.N_mono (ok:=fun k_=>(((w.heap.size≤k_))∧k_≠g)) (krN_ HO_3) (fun k_ hk_=>(⟨hk_,hk_.2⟩:_∧k_≠g))) hk) (Kd.R_base ho0)) (fun _ h_=>h_.1));replace HK:=Aside0.mk (KeepBut.trans (kp_ HK) hk (.inl rfl));replace HB:=Aside0.mk (hb);replace HI0:=Aside0.mk (hi);(try clear hb);(try clear hk);(try clear hi);(try clear ho0);obtain⟨Ao14,co14,eo14⟩:=Kd.R_slice HO523.out;subst eo14)|((with_reducible refine gate_builtin (b:= .append) (xs:= #[.tmp 9,.tmp 12]) rfl ?_);at_builtin;refine Kd.N_append k36 w.heap.size rfl (.tmp 9) (.tmp 12) 33 36 (.agg #[(.int .u8 0),(.int .i64 0),(.bool false),(.slice none 0 0)]) 48 rfl Tryd.underlying33 info36 rfl (by decide) (by omega) u3 x3_1 (⟨t518,t519,t520,t521⟩:S36) [.int .u8 t518,.int .i64 t519,.bool t520,.slice Ao14 t521.length co14] (fun k_=>(w.heap.size≤k_)∧k_≠g) (fun k_=>((fun k_=>(w.heap.size≤k_)∧k_≠g)) k_∧some k_≠(u3:Value).ownBlock) rfl rfl ?aP (fun _ hk=>hk) ?aF ?aO (Below.refl _ _) ?aS ?aL ?_;(case aP=>exact(k36_mkF _ _ (⟨t518,t519,t520,t521⟩:S36) (Kd.R_reads' (Kd.R_mono (ok':=(fun k_=>((fun k_=>(w.heap.size≤k_)∧k_≠g)) k_∧some k_≠(u3:Value).ownBlock)) (IsS56.apart HI0.out (Kd.R_apart' (HO523.out) (Kd.N_typed HO_3.out) (by decide)) (by decide)) (fun k_ hk=>⟨⟨hk.1.1.1,hk.2⟩,hk.1.2⟩))).2.1 (Kd.R_F (Kd.R_mono (ok':=(fun k_=>((fun k_=>(w.heap.size≤k_)∧k_≠g)) k_∧some k_≠(u3:Value).ownBlock)) (IsS56.apart HI0.out (Kd.R_apart' (HO523.out) (Kd.N_typed HO_3.out) (by decide)) (by decide)) (fun k_ hk=>⟨⟨hk.1.1.1,hk.2⟩,hk.1.2⟩)))));(case aF=>exact(fun k_ hk=>⟨(Nat.le_trans (keep_size (w:=w) (g:=g) (row:=none) (kp_ HK)) hk),IsS56.fresh (is56_ HI0) k_ hk⟩));(case aO=>exact(kdN_ (Kd.N_mono HO_3.out (fun _ hk=>⟨hk.1.1,hk.1.2⟩))));(case aS=>exact(keep_size (w:=w) (g:=g) (row:=none) (kp_ HK)));(case aL=>have:=LMc10.out;omega);intro v534 w13 ho hb hg hat;rw[← Ny533.out] at ho;have n0_:=Aside0.mk (IsS56.grown (is56_ HI0) hg (IsS56.own_neN HI0.out HO_3.out (by decide)));have n1_:=Aside0.mk (below_weaken (bs56_ HB HI0) HL.out hb);have n2_:=Aside0.mk (KeepBut.trans (kp_ HK) (KeepBut.of_grown hg g) (Kd.N_base2 HO_3.out));have n3_:=Aside0.mk (ho);clear HI0;clear HB;clear HK;clear HO_3;clear HO523;have HI0:=n0_;have HB:=n1_;have HK:=n2_;have HO535:=n3_;clear n0_ n1_ n2_ n3_;clear ho hb hg hat))
    go_roundg k1
    case measure=>have:=HK1.out;omega
    case rel=>exact⟨(y533),(t524),(t525),(t526),(t527),(t528),(t529),(t530),(t531),(t532),H',⟨by have:=HK1.out;omega⟩,⟨kdN_ HO535.out⟩,⟨is56_ HI0⟩,⟨kp_ HK⟩,⟨bs56_ HB HI0⟩⟩
   ·replace c8:=Bool.eq_false_iff.mpr c8
    subst c8
    have H1:(some (x3_1,t509,t510,t511,t512,t513,t514,t515,t516,t517))=some (r1,r2,r3,r4,r5,r6,r7,r8,r9,r10):=by rw[if_neg (show ¬(false=true) by decide)] at H;exact H
    clear H
    have H:=H1
    clear H1
    simp only[Option.some.injEq,Prod.mk.injEq] at H
    obtain⟨rfl,rfl,rfl,rfl,rfl,rfl,rfl,rfl,rfl,rfl⟩:=H
    go_wp2_with (first|((with_reducible refine gate_callee (f:=30) rfl ?_);refine gl_ (some 8) Tryd.func30 #[.pointer (some ⟨g,0,none⟩),.string (⟨#[97,110,100]⟩:ByteArray)] ?_;(with_reducible refine(rule_reader_next.calls _ _ _ _ _ _ _ _ _ _ _ _ _ _ _ _ _ _ _ _ _ _ w0 _ ?side1 ?side2 A7.out).mono ?_);(case side1=>exact is56_ HI0);(case side2=>exact bs56_ HB HI0);rintro e w15 ⟨rfl,hi,hb,hk⟩;refine⟨_,rfl,?_⟩;replace HO_3:=Aside0.mk (Kd.N_mono (Kd.N_keep (Kd.N_mono (ok:=fun k_=>(((w.heap.size≤k_))∧k_≠g)) (krN_ HO_3) (fun k_ hk_=>(⟨hk_,hk_.2⟩:_∧k_≠g))) hk (fun _ h=>h.2)) (fun _ h=>h.1));replace HK:=Aside0.mk (KeepBut.trans (kp_ HK) hk (.inl rfl));replace HB:=Aside0.mk (hb);replace HI0:=Aside0.mk (hi);(try clear hb);(try clear hk);(try clear hi)))
    go_ret
    exact⟨_,by first|rfl|(simp[errW_none,errW_some] <;> rfl)|(simp[*,errW_none,errW_some] <;> first|rfl|exact given_isEmpty _|exact(given_isEmpty _).symm),kdN_ (Kd.N_mono HO_3.out (fun _ hk=>hk.1)),is56_ HI0,bs56_ HB HI0,kp_ HK⟩

/-! ### rule_reader_all_g: function 29 -/
def rule_reader_all_g.l0:Nat→List (S36)→ByteArray→Int→Int→Bool→Bool→Bool→Bool→Bool→Bool→Option (Int × Int)
 | 0,_,_,_,_,_,_,_,_,_,_=>none
 | k+1,x3,x1000,x1001,x1002,x1003,x1004,x1005,x1006,x1007,x1008=>(rule_reader_next.f k x1000 x1001 x1002 x1003 x1004 x1005 x1006 x1007 x1008 (⟨#[97,110,100]⟩:ByteArray)).bind fun bt554=>(if bt554.1=true then (orf_ ((rule_reader_rel_g.f k bt554.2.1 bt554.2.2.1 bt554.2.2.2.1 bt554.2.2.2.2.1 bt554.2.2.2.2.2.1 bt554.2.2.2.2.2.2.1 bt554.2.2.2.2.2.2.2.1 bt554.2.2.2.2.2.2.2.2.1 bt554.2.2.2.2.2.2.2.2.2).bind fun bt582=>(some (bt582.1,bt582.2))) ((rule_reader_rel.f k bt554.2.1 bt554.2.2.1 bt554.2.2.2.1 bt554.2.2.2.2.1 bt554.2.2.2.2.2.1 bt554.2.2.2.2.2.2.1 bt554.2.2.2.2.2.2.2.1 bt554.2.2.2.2.2.2.2.2.1 bt554.2.2.2.2.2.2.2.2.2).bind fun bt564=>(if x3.length<2932031007402 then (rule_reader_all_g.l0 k (x3++[(⟨bt564.1,bt564.2.1,bt564.2.2.1,bt564.2.2.2.1⟩:S36)]) bt564.2.2.2.2.1 bt564.2.2.2.2.2.1 bt564.2.2.2.2.2.2.1 bt564.2.2.2.2.2.2.2.1 bt564.2.2.2.2.2.2.2.2.1 bt564.2.2.2.2.2.2.2.2.2.1 bt564.2.2.2.2.2.2.2.2.2.2.1 bt564.2.2.2.2.2.2.2.2.2.2.2.1 bt564.2.2.2.2.2.2.2.2.2.2.2.2) else (none)))) else (none))
def rule_reader_all_g.f (k:Nat) (s0_0:ByteArray) (s0_1:Int) (s0_2:Int) (s0_3:Bool) (s0_4:Bool) (s0_5:Bool) (s0_6:Bool) (s0_7:Bool) (s0_8:Bool):Option (Int × Int):=orf_ ((rule_reader_rel_g.f k s0_0 s0_1 s0_2 s0_3 s0_4 s0_5 s0_6 s0_7 s0_8).bind fun bt584=>(some (bt584.1,bt584.2))) ((rule_reader_rel.f k s0_0 s0_1 s0_2 s0_3 s0_4 s0_5 s0_6 s0_7 s0_8).bind fun bt536=>(rule_reader_all_g.l0 k (([(⟨bt536.1,bt536.2.1,bt536.2.2.1,bt536.2.2.2.1⟩:S36)]:List (S36))) bt536.2.2.2.2.1 bt536.2.2.2.2.2.1 bt536.2.2.2.2.2.2.1 bt536.2.2.2.2.2.2.2.1 bt536.2.2.2.2.2.2.2.2.1 bt536.2.2.2.2.2.2.2.2.2.1 bt536.2.2.2.2.2.2.2.2.2.2.1 bt536.2.2.2.2.2.2.2.2.2.2.2.1 bt536.2.2.2.2.2.2.2.2.2.2.2.2))
set_option maxHeartbeats 64000000 in
set_option maxRecDepth 100000 in
theorem rule_reader_all_g.calls (k:Nat) (g:Nat) (s0_0:ByteArray) (s0_1:Int) (s0_2:Int) (s0_3:Bool) (s0_4:Bool) (s0_5:Bool) (s0_6:Bool) (s0_7:Bool) (s0_8:Bool) (r1:Int) (r2:Int) (w0 w:World) (hI:IsS56 w0 w g s0_0 s0_1 s0_2 s0_3 s0_4 s0_5 s0_6 s0_7 s0_8) (hB:Below w0.heap.size w0 w) (h:rule_reader_all_g.f k s0_0 s0_1 s0_2 s0_3 s0_4 s0_5 s0_6 s0_7 s0_8=some (r1,r2)) :
  Calls Tryd.prog 29 #[.pointer (some ⟨g,0,none⟩)] w fun e w'=>e= .panicked [{v:= .iface 52 (.agg #[.int .i64 r1,.int .i64 r2]),recovered:=false}]∧Below w0.heap.size w0 w':=by
 have HI0:=Aside0.mk hI
 have HK:=Aside0.mk (KeepBut.refl w g none)
 have HL:=Aside0.mk hB.size
 clear hI
 have HW0:=Aside0.mk hB.size
 have HB:=Aside0.mk hB
 clear hB
 have H:(orf_ ((rule_reader_rel_g.f k s0_0 s0_1 s0_2 s0_3 s0_4 s0_5 s0_6 s0_7 s0_8).bind fun bt584=>(some (bt584.1,bt584.2))) ((rule_reader_rel.f k s0_0 s0_1 s0_2 s0_3 s0_4 s0_5 s0_6 s0_7 s0_8).bind fun bt536=>(rule_reader_all_g.l0 k (([(⟨bt536.1,bt536.2.1,bt536.2.2.1,bt536.2.2.2.1⟩:S36)]:List (S36))) bt536.2.2.2.2.1 bt536.2.2.2.2.2.1 bt536.2.2.2.2.2.2.1 bt536.2.2.2.2.2.2.2.1 bt536.2.2.2.2.2.2.2.2.1 bt536.2.2.2.2.2.2.2.2.2.1 bt536.2.2.2.2.2.2.2.2.2.2.1 bt536.2.2.2.2.2.2.2.2.2.2.2.1 bt536.2.2.2.2.2.2.2.2.2.2.2.2)))=some (r1,r2):=h
 clear h
 rcases orf_or H with H|H
 ·skip
  replace H:=Option.bind_eq_some_iff.mp H
  obtain⟨⟨t584,t585⟩,A20,H⟩:=H
  dsimp only at H
  have A2:=Aside0.mk A20
  clear A20
  simp only[Option.some.injEq,Prod.mk.injEq] at H
  obtain⟨rfl,rfl⟩:=H
  go_enter Tryd.func29,Tryd.ntmps29
  go_wp2_with (first|(go_at_call 38;(with_reducible refine(rule_reader_rel_g.calls _ _ _ _ _ _ _ _ _ _ _ _ _ w0 _ ?side1 ?side2 A2.out).mono ?_);(case side1=>exact is56_ HI0);(case side2=>exact bs56_ HB HI0);rintro e w' ⟨rfl,hb⟩;exact And.intro rfl (And.intro rfl hb)))
 ·skip
  replace H:=Option.bind_eq_some_iff.mp H
  obtain⟨⟨t536,t537,t538,t539,t542,t543,t544,t545,t546,t547,t548,t549,t550⟩,A30,H⟩:=H
  dsimp only at H
  have A3:=Aside0.mk A30
  clear A30
  obtain⟨y551,hy551⟩:∃y_:List (S36),y_=(([(⟨t536,t537,t538,t539⟩:S36)]:List (S36))):=⟨_,rfl⟩
  replace H:(rule_reader_all_g.l0 k y551 t542 t543 t544 t545 t546 t547 t548 t549 t550)=some (r1,r2):=by first|(rw[hy551];with_reducible exact H)|(have H2_:=(Option.bind_some _ _).symm.trans H;rw[hy551];with_reducible exact H2_)|(have H2_:=(Option.bind_some _ _).symm.trans H;with_reducible exact H2_)|with_reducible exact H|(rw[hy551];exact H)|exact H
  have Ny551:=Aside0.mk hy551
  clear hy551
  have H':=Aside0.mk H
  clear H
  go_enter Tryd.func29,Tryd.ntmps29
  go_wp2_with (first|((with_reducible refine gate_callee (f:=38) rfl ?_);refine gl_ (some 5) Tryd.func38 #[.pointer (some ⟨g,0,none⟩)] ?_;(with_reducible refine(rule_reader_rel.calls _ _ _ _ _ _ _ _ _ _ _ _ _ _ _ _ _ _ _ _ _ _ _ _ w0 _ ?side1 ?side2 A3.out).mono ?_);(case side1=>exact is56_ HI0);(case side2=>exact bs56_ HB HI0);rintro e w4 ⟨v540,rfl,ho0,hi,hb,hk⟩;refine⟨_,rfl,?_⟩;have HO541:=Aside0.mk (Kd.R_lower ho0 (keep_size (w:=w) (g:=g) (row:=none) (kp_ HK)));replace HK:=Aside0.mk (KeepBut.trans (kp_ HK) hk (.inl rfl));replace HB:=Aside0.mk (hb);replace HI0:=Aside0.mk (hi);(try clear hb);(try clear hk);(try clear hi);(try clear ho0);obtain⟨Ao5,co5,eo5⟩:=Kd.R_slice HO541.out;subst eo5)|((with_reducible refine gate_dst (N:=6) rfl ?_);refine Kd.N_lit k36 _ 36 ?hg (N':=6) ?hd (xs:=([(⟨t536,t537,t538,t539⟩:S36)]:List (S36))) (inner:=[.int .u8 t536,.int .i64 t537,.bool t538,.slice Ao5 t539.length co5]) (ok:=(fun k_=>k_≠g)) (okp:=(fun k_=>k_≠g)) ?hr ?hp (fun _ hk=>hk) ((show ∀k_,w4.heap.size≤k_→(fun k_=>k_≠g) k_ from fun k_ hk=>IsS56.fresh (is56_ HI0) k_ hk) _ (Nat.le_refl _)) (Below.refl _ _) (Nat.le_refl _) (by simp) ?_;(case hd=>rfl);(case hg=>rfl);(case hr=>first|(go_simp;done)|(go_simp;rfl));(case hp=>exact(Reps.c4 (show Kd.FK k36 _ _ (⟨t536,t537,t538,t539⟩:S36) [.int .u8 t536,.int .i64 t537,.bool t538,.slice Ao5 t539.length co5] from(k36_mkF _ _ (⟨t536,t537,t538,t539⟩:S36) (Kd.R_reads' (Kd.R_mono (ok':=(fun k_=>k_≠g)) (IsS56.apart HI0.out (HO541.out) (by decide)) (fun k_ hk=>hk.2))).2.1 (Kd.R_F (Kd.R_mono (ok':=(fun k_=>k_≠g)) (IsS56.apart HI0.out (HO541.out) (by decide)) (fun k_ hk=>hk.2))))) (Reps.none _ _)));intro v552 w6 ho7 hb hg_ hnew_;clear hg_ hnew_;(first|rw[← Ny551.out] at ho7|(simp only[Int.reduceToNat] at ho7;rw[← Ny551.out] at ho7));have n0_:=Aside0.mk (Kd.N_lower ho7 (keep_size (w:=w) (g:=g) (row:=none) (kp_ HK)));have n1_:=Aside0.mk (IsS56.below (is56_ HI0) hb);have n2_:=Aside0.mk (KeepBut.trans (kp_ HK) (KeepBut.of_below hb g none) (.inl rfl));have n3_:=Aside0.mk (below_step (bs56_ HB HI0) hb);clear HI0;clear HK;clear HB;clear HO541;have HO553:=n0_;have HI0:=n1_;have HK:=n2_;have HB:=n3_;clear n0_ n1_ n2_ n3_;clear hb ho7))
  go_loopg [3] k (fun kq v3 w'=>∃(x3_1:List (S36)) (x1000_1:ByteArray) (x1001_1:Int) (x1002_1:Int) (x1003_1:Bool) (x1004_1:Bool) (x1005_1:Bool) (x1006_1:Bool) (x1007_1:Bool) (x1008_1:Bool),Aside0 (rule_reader_all_g.l0 kq x3_1 x1000_1 x1001_1 x1002_1 x1003_1 x1004_1 x1005_1 x1006_1 x1007_1 x1008_1=some (r1,r2))∧Aside0 (kq≤k)∧Aside0 (Kd.N k36 36 w' w.heap.size (fun k_=>k_≠g) v3 x3_1)∧Aside0 (IsS56 w0 w' g x1000_1 x1001_1 x1002_1 x1003_1 x1004_1 x1005_1 x1006_1 x1007_1 x1008_1)∧Aside0 (KeepBut w w' g none)∧Aside0 (Below w0.heap.size w0 w'))
  case atStart=>exact⟨(y551),(t542),(t543),(t544),(t545),(t546),(t547),(t548),(t549),(t550),H',⟨Nat.le_refl _⟩,⟨kdN_ HO553.out⟩,⟨is56_ HI0⟩,⟨kp_ HK⟩,⟨bs56_ HB HI0⟩⟩
  case round =>
   clear H'
   obtain⟨x3_1,x1000_1,x1001_1,x1002_1,x1003_1,x1004_1,x1005_1,x1006_1,x1007_1,x1008_1,HA,HK1,HO_3,HI0,HK,HB⟩:=hrel
   cases gk with
   | zero=>exact absurd HA.out (by simp[rule_reader_all_g.l0])
   | succ k1 =>
    have H:=HA.out
    clear HA
    simp only[rule_reader_all_g.l0] at H
    replace H:=Option.bind_eq_some_iff.mp H
    obtain⟨⟨t554,t555,t556,t557,t558,t559,t560,t561,t562,t563⟩,A80,H⟩:=H
    dsimp only at H
    have A8:=Aside0.mk A80
    clear A80
    by_cases c9:t554=true
    ·subst c9
     have H1:(orf_ ((rule_reader_rel_g.f k1 t555 t556 t557 t558 t559 t560 t561 t562 t563).bind fun bt582=>(some (bt582.1,bt582.2))) ((rule_reader_rel.f k1 t555 t556 t557 t558 t559 t560 t561 t562 t563).bind fun bt564=>(if x3_1.length<2932031007402 then (rule_reader_all_g.l0 k1 (x3_1++[(⟨bt564.1,bt564.2.1,bt564.2.2.1,bt564.2.2.2.1⟩:S36)]) bt564.2.2.2.2.1 bt564.2.2.2.2.2.1 bt564.2.2.2.2.2.2.1 bt564.2.2.2.2.2.2.2.1 bt564.2.2.2.2.2.2.2.2.1 bt564.2.2.2.2.2.2.2.2.2.1 bt564.2.2.2.2.2.2.2.2.2.2.1 bt564.2.2.2.2.2.2.2.2.2.2.2.1 bt564.2.2.2.2.2.2.2.2.2.2.2.2) else (none))))=some (r1,r2):=by rw[if_pos rfl] at H;exact H
     clear H
     have H:=H1
     clear H1
     rcases orf_or H with H|H
     ·skip
      replace H:=Option.bind_eq_some_iff.mp H
      obtain⟨⟨t582,t583⟩,A100,H⟩:=H
      dsimp only at H
      have A10:=Aside0.mk A100
      clear A100
      simp only[Option.some.injEq,Prod.mk.injEq] at H
      obtain⟨rfl,rfl⟩:=H
      go_wp2_with (first|((with_reducible refine gate_callee (f:=30) rfl ?_);refine gl_ (some 8) Tryd.func30 #[.pointer (some ⟨g,0,none⟩),.string (⟨#[97,110,100]⟩:ByteArray)] ?_;(with_reducible refine(rule_reader_next.calls _ _ _ _ _ _ _ _ _ _ _ _ _ _ _ _ _ _ _ _ _ _ w0 _ ?side1 ?side2 A8.out).mono ?_);(case side1=>exact is56_ HI0);(case side2=>exact bs56_ HB HI0);rintro e w11 ⟨rfl,hi,hb,hk⟩;refine⟨_,rfl,?_⟩;replace HO_3:=Aside0.mk (Kd.N_mono (Kd.N_keep (Kd.N_mono (ok:=fun k_=>k_≠g) (krN_ HO_3) (fun k_ hk_=>(⟨hk_,hk_⟩:_∧k_≠g))) hk (fun _ h=>h.2)) (fun _ h=>h.1));replace HK:=Aside0.mk (KeepBut.trans (kp_ HK) hk (.inl rfl));replace HB:=Aside0.mk (hb);replace HI0:=Aside0.mk (hi);(try clear hb);(try clear hk);(try clear hi))|(go_at_call 38;(with_reducible refine(rule_reader_rel_g.calls _ _ _ _ _ _ _ _ _ _ _ _ _ w0 _ ?side1 ?side2 A10.out).mono ?_);(case side1=>exact is56_ HI0);(case side2=>exact bs56_ HB HI0);rintro e w' ⟨rfl,hb⟩;exact And.intro rfl (And.intro rfl hb)))
     ·skip
      replace H:=Option.bind_eq_some_iff.mp H
      obtain⟨⟨t564,t565,t566,t567,t570,t571,t572,t573,t574,t575,t576,t577,t578⟩,A120,H⟩:=H
      dsimp only at H
      have A12:=Aside0.mk A120
      clear A120
      replace H:=ifn_ H
      obtain⟨c13,H⟩:=H
      have LMc13:=Aside0.mk c13
      clear c13
      obtain⟨y579,hy579⟩:∃y_:List (S36),y_=(x3_1++[(⟨t564,t565,t566,t567⟩:S36)]):=⟨_,rfl⟩
      replace H:(rule_reader_all_g.l0 k1 y579 t570 t571 t572 t573 t574 t575 t576 t577 t578)=some (r1,r2):=by first|(rw[hy579];with_reducible exact H)|(have H2_:=(Option.bind_some _ _).symm.trans H;rw[hy579];with_reducible exact H2_)|(have H2_:=(Option.bind_some _ _).symm.trans H;with_reducible exact H2_)|with_reducible exact H|(rw[hy579];exact H)|exact H
      have Ny579:=Aside0.mk hy579
      clear hy579
      have H':=Aside0.mk H
      clear H
      go_wp2_with (first|((with_reducible refine gate_callee (f:=30) rfl ?_);refine gl_ (some 8) Tryd.func30 #[.pointer (some ⟨g,0,none⟩),.string (⟨#[97,110,100]⟩:ByteArray)] ?_;(with_reducible refine(rule_reader_next.calls _ _ _ _ _ _ _ _ _ _ _ _ _ _ _ _ _ _ _ _ _ _ w0 _ ?side1 ?side2 A8.out).mono ?_);(case side1=>exact is56_ HI0);(case side2=>exact bs56_ HB HI0);rintro e w14 ⟨rfl,hi,hb,hk⟩;refine⟨_,rfl,?_⟩;replace HO_3:=Aside0.mk (Kd.N_mono (Kd.N_keep (Kd.N_mono (ok:=fun k_=>k_≠g) (krN_ HO_3) (fun k_ hk_=>(⟨hk_,hk_⟩:_∧k_≠g))) hk (fun _ h=>h.2)) (fun _ h=>h.1));replace HK:=Aside0.mk (KeepBut.trans (kp_ HK) hk (.inl rfl));replace HB:=Aside0.mk (hb);replace HI0:=Aside0.mk (hi);(try clear hb);(try clear hk);(try clear hi))|((with_reducible refine gate_callee (f:=38) rfl ?_);refine gl_ (some 11) Tryd.func38 #[.pointer (some ⟨g,0,none⟩)] ?_;(with_reducible refine(rule_reader_rel.calls _ _ _ _ _ _ _ _ _ _ _ _ _ _ _ _ _ _ _ _ _ _ _ _ w0 _ ?side1 ?side2 A12.out).mono ?_);(case side1=>exact is56_ HI0);(case side2=>exact bs56_ HB HI0);rintro e w15 ⟨v568,rfl,ho0,hi,hb,hk⟩;refine⟨_,rfl,?_⟩;have HO569:=Aside0.mk (Kd.R_lower ho0 (keep_size (w:=w) (g:=g) (row:=none) (kp_ HK)));replace HO_3:=Aside0.mk (Kd.N_mono (Kd.N_told (Kd.N_oldK (Kd.N_mono (ok:=fun k_=>k_≠g) (krN_ HO_3) (fun k_ hk_=>(⟨hk_,hk_⟩:_∧k_≠g))) hk) (Kd.R_base ho0)) (fun _ h_=>h_.1));replace HK:=Aside0.mk (KeepBut.trans (kp_ HK) hk (.inl rfl));replace HB:=Aside0.mk (hb);replace HI0:=Aside0.mk (hi);(try clear hb);(try clear hk);(try clear hi);(try clear ho0);obtain⟨Ao17,co17,eo17⟩:=Kd.R_slice HO569.out;subst eo17)|((with_reducible refine gate_builtin (b:= .append) (xs:= #[.tmp 9,.tmp 12]) rfl ?_);at_builtin;refine Kd.N_append k36 w.heap.size rfl (.tmp 9) (.tmp 12) 33 36 (.agg #[(.int .u8 0),(.int .i64 0),(.bool false),(.slice none 0 0)]) 48 rfl Tryd.underlying33 info36 rfl (by decide) (by omega) u3 x3_1 (⟨t564,t565,t566,t567⟩:S36) [.int .u8 t564,.int .i64 t565,.bool t566,.slice Ao17 t567.length co17] (fun k_=>k_≠g) (fun k_=>((fun k_=>k_≠g)) k_∧some k_≠(u3:Value).ownBlock) rfl rfl ?aP (fun _ hk=>hk) ?aF ?aO (Below.refl _ _) ?aS ?aL ?_;(case aP=>exact(k36_mkF _ _ (⟨t564,t565,t566,t567⟩:S36) (Kd.R_reads' (Kd.R_mono (ok':=(fun k_=>((fun k_=>k_≠g)) k_∧some k_≠(u3:Value).ownBlock)) (IsS56.apart HI0.out (Kd.R_apart' (HO569.out) (Kd.N_typed HO_3.out) (by decide)) (by decide)) (fun k_ hk=>⟨hk.2,hk.1.2⟩))).2.1 (Kd.R_F (Kd.R_mono (ok':=(fun k_=>((fun k_=>k_≠g)) k_∧some k_≠(u3:Value).ownBlock)) (IsS56.apart HI0.out (Kd.R_apart' (HO569.out) (Kd.N_typed HO_3.out) (by decide)) (by decide)) (fun k_ hk=>⟨hk.2,hk.1.2⟩)))));(case aF=>exact(fun k_ hk=>IsS56.fresh (is56_ HI0) k_ hk));(case aO=>exact(kdN_ (Kd.N_mono HO_3.out (fun _ hk=>hk.1))));(case aS=>exact(keep_size (w:=w) (g:=g) (row:=none) (kp_ HK)));(case aL=>have:=LMc13.out;omega);intro v580 w16 ho hb hg hat;rw[← Ny579.out] at ho;have n0_:=Aside0.mk (IsS56.grown (is56_ HI0) hg (IsS56.own_neN HI0.out HO_3.out (by decide)));have n1_:=Aside0.mk (below_weaken (bs56_ HB HI0) HL.out hb);have n2_:=Aside0.mk (KeepBut.trans (kp_ HK) (KeepBut.of_grown hg g) (Kd.N_base2 HO_3.out));have n3_:=Aside0.mk (ho);clear HI0;clear HB;clear HK;clear HO_3;clear HO569;have HI0:=n0_;have HB:=n1_;have HK:=n2_;have HO581:=n3_;clear n0_ n1_ n2_ n3_;clear ho hb hg hat))
      go_roundg k1
      case measure=>have:=HK1.out;omega
      case rel=>exact⟨(y579),(t570),(t571),(t572),(t573),(t574),(t575),(t576),(t577),(t578),H',⟨by have:=HK1.out;omega⟩,⟨kdN_ HO581.out⟩,⟨is56_ HI0⟩,⟨kp_ HK⟩,⟨bs56_ HB HI0⟩⟩
    ·replace c9:=Bool.eq_false_iff.mpr c9
     subst c9
     have H1:(none)=some (r1,r2):=by rw[if_neg (show ¬(false=true) by decide)] at H;exact H
     clear H
     have H:=H1
     clear H1
     exact absurd H (by simp)

/-! ### stringslite_Cut: function 48 -/
def stringslite_Cut.f (a0:ByteArray) (a1:ByteArray):Option (ByteArray × ByteArray × Bool):=(stringslite_Index.f a0 a1).bind fun t586=>(if t586≥0 then (if 0≤t586 then (if t586≤(a0.size:Int) then (if 0≤(wrap64 (t586+(a1.size:Int))) then (if (wrap64 (t586+(a1.size:Int)))≤(a0.size:Int) then (some (a0.extract 0 (t586:Int).toNat,a0.extract ((wrap64 (t586+(a1.size:Int))):Int).toNat a0.size,true)) else (none)) else (none)) else (none)) else (none)) else (some (a0,(⟨#[]⟩:ByteArray),false)))
set_option maxHeartbeats 64000000 in
set_option maxRecDepth 100000 in
theorem stringslite_Cut.calls (a0:ByteArray) (a1:ByteArray) (r1:ByteArray) (r2:ByteArray) (r3:Bool) (w:World) (h:stringslite_Cut.f a0 a1=some (r1,r2,r3)) :
  Calls Tryd.prog 48 #[.string a0,.string a1] w fun e w'=>e= .returned (.tuple #[.string r1,.string r2,.bool r3])∧Drawn0 w w':=by
 have H:((stringslite_Index.f a0 a1).bind fun t586=>(if t586≥0 then (if 0≤t586 then (if t586≤(a0.size:Int) then (if 0≤(wrap64 (t586+(a1.size:Int))) then (if (wrap64 (t586+(a1.size:Int)))≤(a0.size:Int) then (some (a0.extract 0 (t586:Int).toNat,a0.extract ((wrap64 (t586+(a1.size:Int))):Int).toNat a0.size,true)) else (none)) else (none)) else (none)) else (none)) else (some (a0,(⟨#[]⟩:ByteArray),false))))=some (r1,r2,r3):=h
 clear h
 replace H:=Option.bind_eq_some_iff.mp H
 obtain⟨t586,A30,H⟩:=H
 have A3:=Aside0.mk A30
 clear A30
 by_cases c4:t586≥0
 ·rw[if_pos c4] at H
  have c4b0:decide (0≤t586)=true:=decide_eq_true c4
  clear c4
  replace H:=ifn_ H
  obtain⟨c5,H⟩:=H
  have c5b0:=eq_true c5
  have c5b1:decide (0≤t586)=true:=decide_eq_true c5
  clear c5
  replace H:=ifn_ H
  obtain⟨c6,H⟩:=H
  have c6b0:=eq_true c6
  have c6b1:decide (t586≤(a0.size:Int))=true:=decide_eq_true c6
  clear c6
  obtain⟨ji7,hji7⟩:∃j_:Int,(wrap64 (t586+(a1.size:Int)))=j_:=⟨_,rfl⟩
  replace H:(if 0≤(ji7) then (if (ji7)≤(a0.size:Int) then (some (a0.extract 0 (t586:Int).toNat,a0.extract ((ji7):Int).toNat a0.size,true)) else (none)) else (none))=some (r1,r2,r3):=by first|(rw[hji7] at H;exact H)|(simp only[hji7] at H ⊢;exact H)
  (try rw[hji7] at A3)
  have hji7w:(IntKind.i64.wrap (t586+(a1.size:Int)))=ji7:=(i64_w _).trans hji7
  replace H:=ifn_ H
  obtain⟨c8,H⟩:=H
  have c8b0:=eq_true c8
  have c8b1:decide (0≤(ji7))=true:=decide_eq_true c8
  clear c8
  replace H:=ifn_ H
  obtain⟨c9,H⟩:=H
  have c9b0:=eq_true c9
  have c9b1:decide ((ji7)≤(a0.size:Int))=true:=decide_eq_true c9
  clear c9
  simp only[Option.some.injEq,Prod.mk.injEq] at H
  obtain⟨rfl,rfl,rfl⟩:=H
  go_enter Tryd.func48,Tryd.ntmps48
  go_wp2_with (first|(go_at_call 56;(with_reducible refine(stringslite_Index.calls _ _ _ _ A3.out).mono ?_);rintro e w' ⟨rfl,⟨nd,rfl⟩⟩;(try first|exact⟨rfl,_,World.drewN_drewN _ _ _⟩|exact⟨rfl,_,Eq.trans (World.drewN_drewN _ _ _) (congrArg (World.drewN _) (Nat.add_assoc _ _ _))⟩)))
  repeat(go_quiet (first|(go_at_call 56;(with_reducible refine(stringslite_Index.calls _ _ _ _ A3.out).mono ?_);rintro e w' ⟨rfl,⟨nd,rfl⟩⟩;(try first|exact⟨rfl,_,World.drewN_drewN _ _ _⟩|exact⟨rfl,_,Eq.trans (World.drewN_drewN _ _ _) (congrArg (World.drewN _) (Nat.add_assoc _ _ _))⟩)));try go_wp2_with (first|(go_at_call 56;(with_reducible refine(stringslite_Index.calls _ _ _ _ A3.out).mono ?_);rintro e w' ⟨rfl,⟨nd,rfl⟩⟩;(try first|exact⟨rfl,_,World.drewN_drewN _ _ _⟩|exact⟨rfl,_,Eq.trans (World.drewN_drewN _ _ _) (congrArg (World.drewN _) (Nat.add_assoc _ _ _))⟩))))
  go_ret3
  exact⟨by first|rfl|(simp;done)|(simp only[← hji7] <;> (first|rfl|simp))|(simp[*];done),by repeat(first|exact Drawn0.refl _|apply Drawn0.step)⟩
 ·rw[if_neg c4] at H
  have c4b0:decide (0≤t586)=false:=decide_eq_false c4
  clear c4
  simp only[Option.some.injEq,Prod.mk.injEq] at H
  obtain⟨rfl,rfl,rfl⟩:=H
  go_enter Tryd.func48,Tryd.ntmps48
  go_wp2_with (first|(go_at_call 56;(with_reducible refine(stringslite_Index.calls _ _ _ _ A3.out).mono ?_);rintro e w' ⟨rfl,⟨nd,rfl⟩⟩;(try first|exact⟨rfl,_,World.drewN_drewN _ _ _⟩|exact⟨rfl,_,Eq.trans (World.drewN_drewN _ _ _) (congrArg (World.drewN _) (Nat.add_assoc _ _ _))⟩)))
  repeat(go_quiet (first|(go_at_call 56;(with_reducible refine(stringslite_Index.calls _ _ _ _ A3.out).mono ?_);rintro e w' ⟨rfl,⟨nd,rfl⟩⟩;(try first|exact⟨rfl,_,World.drewN_drewN _ _ _⟩|exact⟨rfl,_,Eq.trans (World.drewN_drewN _ _ _) (congrArg (World.drewN _) (Nat.add_assoc _ _ _))⟩)));try go_wp2_with (first|(go_at_call 56;(with_reducible refine(stringslite_Index.calls _ _ _ _ A3.out).mono ?_);rintro e w' ⟨rfl,⟨nd,rfl⟩⟩;(try first|exact⟨rfl,_,World.drewN_drewN _ _ _⟩|exact⟨rfl,_,Eq.trans (World.drewN_drewN _ _ _) (congrArg (World.drewN _) (Nat.add_assoc _ _ _))⟩))))
  go_ret3
  exact⟨by first|rfl|(simp;done)|(simp[*];done)|(simp;first|exact given_isEmpty _|exact(given_isEmpty _).symm)|(unfold wrap64;omega)|(congr 1;unfold wrap64;omega),by repeat(first|exact Drawn0.refl _|apply Drawn0.step)⟩

/-! ### strings_Cut: function 39 -/
def strings_Cut.f (a0:ByteArray) (a1:ByteArray):Option (ByteArray × ByteArray × Bool):=(stringslite_Cut.f a0 a1).bind fun bt587=>(some (bt587.1,bt587.2.1,bt587.2.2))
set_option maxHeartbeats 64000000 in
set_option maxRecDepth 100000 in
theorem strings_Cut.calls (a0:ByteArray) (a1:ByteArray) (r1:ByteArray) (r2:ByteArray) (r3:Bool) (w:World) (h:strings_Cut.f a0 a1=some (r1,r2,r3)) :
    Calls Tryd.prog 39 #[.string a0,.string a1] w fun e w'=>e= .returned (.tuple #[.string r1,.string r2,.bool r3])∧Drawn0 w w':=by
  have H:((stringslite_Cut.f a0 a1).bind fun bt587=>(some (bt587.1,bt587.2.1,bt587.2.2)))=some (r1,r2,r3):=h
  clear h
  replace H:=Option.bind_eq_some_iff.mp H
  obtain⟨⟨t587,t588,t589⟩,A30,H⟩:=H
  dsimp only at H
  have A3:=Aside0.mk A30
  clear A30
  simp only[Option.some.injEq,Prod.mk.injEq] at H
  obtain⟨rfl,rfl,rfl⟩:=H
  go_enter Tryd.func39,Tryd.ntmps39
  go_wp2_with (first|((with_reducible refine gate_callee (f:=48) rfl ?_);refine gl_ (some 9) Tryd.func48 #[.string a0,.string a1] ?_;(with_reducible refine(stringslite_Cut.calls _ _ _ _ _ _ A3.out).mono ?_);rintro e w' ⟨rfl,⟨nd,rfl⟩⟩;refine⟨_,rfl,?_⟩))
  go_ret3
  exact⟨by first|rfl|(simp;done)|(simp[*];done)|(simp;first|exact given_isEmpty _|exact(given_isEmpty _).symm)|(unfold wrap64;omega)|(congr 1;unfold wrap64;omega),by repeat(first|exact Drawn0.refl _|apply Drawn0.step)⟩

/-! ### strings_TrimRight: function 40 -/
def strings_TrimRight.f (a b:ByteArray):Option ByteArray:=if h:b.size=1 then (if (b[0]'(by omega)).toNat<128∧a.size≤9223372036854775807 then some ⟨(Lib.trimRightB a.data.toList (b[0]'(by omega))).toArray⟩ else none) else none
theorem strings_TrimRight.one (b:ByteArray) (h:b.size=1):b=⟨#[b[0]'(by omega)]⟩:=by
  obtain⟨d⟩:=b
  have hd:d.size=1:=h
  congr 1
  apply Array.ext
  · exact hd
  · intro i h1 h2
    have:i=0:=by omega
    subst this
    rfl
theorem strings_TrimRight.calls (a0 a1:ByteArray) (r:ByteArray) (w:World) (h:strings_TrimRight.f a0 a1=some r) :
    Calls Tryd.prog 40 #[.string a0,.string a1] w fun e w'=>e= .returned (.string r)∧Drawn0 w w':=by
  unfold strings_TrimRight.f at h
  split at h
  · rename_i h1
    split at h
    · rename_i hc
      obtain rfl:=Option.some.inj h
      have c:=Tryd.strings_TrimRight_one a0 (a1[0]'(by omega)) hc.1 w hc.2
      rw[← strings_TrimRight.one a1 h1] at c
      refine c.mono ?_
      rintro e w' ⟨rfl,rfl⟩
      exact⟨rfl,Drawn0.refl _⟩
    · cases h
  · cases h

end Go.Proofs.YtcokjmnkieakiaaDoor.P
