-- written by a program of this session (wip/p2)
import Derived.Test.YtcokjmnkieakiaaDoorPx0
import Derived.Test.YtcokjmnkieakiaaDoorPx2
import Derived.Test.YtcokjmnkieakiaaDoorPx3
namespace Go.Proofs.YtcokjmnkieakiaaDoor.P
open Go.RowKit Go.Proofs.YtcokjmnkieakiaaDoorW.PrintWords Go.Proofs.YtcokjmnkieakiaaDoorW.PrintLast Go.Proofs.YtcokjmnkieakiaaDoorW.PrintMore
attribute [local go_sem] max2_int min2_int max_two min_two max_three min_three max_four min_four   -- for this text's walks alone
set_option linter.unusedVariables false
set_option linter.unusedSimpArgs false

/-! ### rule_reader_rel: function 38 -/
mutual
def rule_reader_rel.j0:Nat→ByteArray→Bool→ByteArray→Int→Int→Bool→Bool→Bool→Bool→Bool→Bool→Option (Int × Int × Bool × (List (S38)) × ByteArray × Int × Int × Bool × Bool × Bool × Bool × Bool × Bool)
 | 0,_,_,_,_,_,_,_,_,_,_,_=>none
 | k+1,x3,x16,x1000,x1001,x1002,x1003,x1004,x1005,x1006,x1007,x1008=>if x16=true then (none) else (if (wrap64 (x1002+1))>200 then (none) else (if 0<(x3.size:Int) then ((rule_reader_take.f k x1000 (wrap64 (x1001+1)) (wrap64 (x1002+1)) x1003 x1004 x1005 x1006 x1007 x1008 (⟨#[37]⟩:ByteArray)).bind fun bt307=>(if bt307.1=true then ((rule_reader_value.f k bt307.2.1 bt307.2.2.1 bt307.2.2.2.1 bt307.2.2.2.2.1 bt307.2.2.2.2.2.1 bt307.2.2.2.2.2.2.1 bt307.2.2.2.2.2.2.2.1 bt307.2.2.2.2.2.2.2.2.1 bt307.2.2.2.2.2.2.2.2.2).bind fun bt317=>(if bt317.1=0 then (none) else (rule_reader_rel.j1 k bt317.2.2.1 bt317.2.2.2.1 bt317.2.2.2.2.1 bt317.2.2.2.2.2.1 bt317.2.2.2.2.2.2.1 bt317.2.2.2.2.2.2.2.1 bt317.2.2.2.2.2.2.2.2.1 bt317.2.2.2.2.2.2.2.2.2.1 bt317.2.2.2.2.2.2.2.2.2.2 (bt x3 0) bt317.1 false))) else (rule_reader_rel.j1 k bt307.2.1 bt307.2.2.1 bt307.2.2.2.1 bt307.2.2.2.2.1 bt307.2.2.2.2.2.1 bt307.2.2.2.2.2.2.1 bt307.2.2.2.2.2.2.2.1 bt307.2.2.2.2.2.2.2.2.1 bt307.2.2.2.2.2.2.2.2.2 (bt x3 0) 0 false))) else (none)))
def rule_reader_rel.j1:Nat→ByteArray→Int→Int→Bool→Bool→Bool→Bool→Bool→Bool→Int→Int→Bool→Option (Int × Int × Bool × (List (S38)) × ByteArray × Int × Int × Bool × Bool × Bool × Bool × Bool × Bool)
 | 0,_,_,_,_,_,_,_,_,_,_,_,_=>none
 | k+1,x1000,x1001,x1002,x1003,x1004,x1005,x1006,x1007,x1008,x307000,x307001,x307002=>(rule_reader_take.f k x1000 x1001 x1002 x1003 x1004 x1005 x1006 x1007 x1008 (⟨#[33,61]⟩:ByteArray)).bind fun bt328=>(if bt328.1=true then (rule_reader_rel.j2 k bt328.2.1 bt328.2.2.1 bt328.2.2.2.1 bt328.2.2.2.2.1 bt328.2.2.2.2.2.1 bt328.2.2.2.2.2.2.1 bt328.2.2.2.2.2.2.2.1 bt328.2.2.2.2.2.2.2.2.1 bt328.2.2.2.2.2.2.2.2.2 x307000 x307001 bt328.1) else ((rule_reader_want.f k bt328.2.1 bt328.2.2.1 bt328.2.2.2.1 bt328.2.2.2.2.1 bt328.2.2.2.2.2.1 bt328.2.2.2.2.2.2.1 bt328.2.2.2.2.2.2.2.1 bt328.2.2.2.2.2.2.2.2.1 bt328.2.2.2.2.2.2.2.2.2 (⟨#[61]⟩:ByteArray)).bind fun bt338=>(rule_reader_rel.j2 k bt338.1 bt338.2.1 bt338.2.2.1 bt338.2.2.2.1 bt338.2.2.2.2.1 bt338.2.2.2.2.2.1 bt338.2.2.2.2.2.2.1 bt338.2.2.2.2.2.2.2.1 bt338.2.2.2.2.2.2.2.2 x307000 x307001 bt328.1)))
def rule_reader_rel.j2:Nat→ByteArray→Int→Int→Bool→Bool→Bool→Bool→Bool→Bool→Int→Int→Bool→Option (Int × Int × Bool × (List (S38)) × ByteArray × Int × Int × Bool × Bool × Bool × Bool × Bool × Bool)
 | 0,_,_,_,_,_,_,_,_,_,_,_,_=>none
 | k+1,x1000,x1001,x1002,x1003,x1004,x1005,x1006,x1007,x1008,x307000,x307001,x307002=>(rule_reader_span.f k x1000 x1001 x1002 x1003 x1004 x1005 x1006 x1007 x1008).bind fun bt347=>(if ([]:List (S38)).length<8796093022208 then (rule_reader_rel.l0 k bt347.2.2.1 bt347.2.2.2.1 bt347.2.2.2.2.1 bt347.2.2.2.2.2.1 bt347.2.2.2.2.2.2.1 bt347.2.2.2.2.2.2.2.1 bt347.2.2.2.2.2.2.2.2.1 bt347.2.2.2.2.2.2.2.2.2.1 bt347.2.2.2.2.2.2.2.2.2.2 x307000 x307001 x307002 (([]:List (S38))++[(⟨bt347.1,bt347.2.1⟩:S38)])) else (none))
def rule_reader_rel.l0:Nat→ByteArray→Int→Int→Bool→Bool→Bool→Bool→Bool→Bool→Int→Int→Bool→List (S38)→Option (Int × Int × Bool × (List (S38)) × ByteArray × Int × Int × Bool × Bool × Bool × Bool × Bool × Bool)
 | 0,_,_,_,_,_,_,_,_,_,_,_,_,_=>none
 | k+1,x1000,x1001,x1002,x1003,x1004,x1005,x1006,x1007,x1008,x307000,x307001,x307002,x307003=>(rule_reader_take.f k x1000 x1001 x1002 x1003 x1004 x1005 x1006 x1007 x1008 (⟨#[44]⟩:ByteArray)).bind fun bt361=>(if bt361.1=true then ((rule_reader_span.f k bt361.2.1 bt361.2.2.1 bt361.2.2.2.1 bt361.2.2.2.2.1 bt361.2.2.2.2.2.1 bt361.2.2.2.2.2.2.1 bt361.2.2.2.2.2.2.2.1 bt361.2.2.2.2.2.2.2.2.1 bt361.2.2.2.2.2.2.2.2.2).bind fun bt371=>(if x307003.length<8796093022208 then (rule_reader_rel.l0 k bt371.2.2.1 bt371.2.2.2.1 bt371.2.2.2.2.1 bt371.2.2.2.2.2.1 bt371.2.2.2.2.2.2.1 bt371.2.2.2.2.2.2.2.1 bt371.2.2.2.2.2.2.2.2.1 bt371.2.2.2.2.2.2.2.2.2.1 bt371.2.2.2.2.2.2.2.2.2.2 x307000 x307001 x307002 (x307003++[(⟨bt371.1,bt371.2.1⟩:S38)])) else (none))) else (some (x307000,x307001,x307002,x307003,bt361.2.1,bt361.2.2.1,bt361.2.2.2.1,bt361.2.2.2.2.1,bt361.2.2.2.2.2.1,bt361.2.2.2.2.2.2.1,bt361.2.2.2.2.2.2.2.1,bt361.2.2.2.2.2.2.2.2.1,bt361.2.2.2.2.2.2.2.2.2)))
end
def rule_reader_rel.f (k:Nat) (s0_0:ByteArray) (s0_1:Int) (s0_2:Int) (s0_3:Bool) (s0_4:Bool) (s0_5:Bool) (s0_6:Bool) (s0_7:Bool) (s0_8:Bool):Option (Int × Int × Bool × (List (S38)) × ByteArray × Int × Int × Bool × Bool × Bool × Bool × Bool × Bool):=(rule_reader_word.f k s0_0 s0_1 s0_2 s0_3 s0_4 s0_5 s0_6 s0_7 s0_8).bind fun bt295=>(if (bt295.1.size:Int)=1 then ((strings_Contains.f (⟨#[110,105,118,119,102,116,99,101]⟩:ByteArray) bt295.1).bind fun t305=>(rule_reader_rel.j0 k bt295.1 (!t305) bt295.2.1 bt295.2.2.1 bt295.2.2.2.1 bt295.2.2.2.2.1 bt295.2.2.2.2.2.1 bt295.2.2.2.2.2.2.1 bt295.2.2.2.2.2.2.2.1 bt295.2.2.2.2.2.2.2.2.1 bt295.2.2.2.2.2.2.2.2.2)) else (rule_reader_rel.j0 k bt295.1 true bt295.2.1 bt295.2.2.1 bt295.2.2.2.1 bt295.2.2.2.2.1 bt295.2.2.2.2.2.1 bt295.2.2.2.2.2.2.1 bt295.2.2.2.2.2.2.2.1 bt295.2.2.2.2.2.2.2.2.1 bt295.2.2.2.2.2.2.2.2.2))
def rule_reader_rel.T17:Bool × List (List Nat × List Nat):=(true,[([],[]),([0],[0]),([],[]),([2],[2]),([3],[3]),([1,4,3],[1,4]),([0,1,2,3,4,5],[]),([6,5,5,0,1,2,3,4,5],[5,6])])
def rule_reader_rel.B17:List Nat:=[0,1,0,4,12,31,63,127]
theorem rule_reader_rel.tab17:rtab .any (opsOf Tryd.f38 17)=rule_reader_rel.T17:=by kernel_rfl
theorem rule_reader_rel.bits17:waitsOk rule_reader_rel.T17.2 rule_reader_rel.B17=true:=by kernel_rfl
def rule_reader_rel.T19:Bool × List (List Nat × List Nat):=(true,[([],[]),([0],[0]),([],[]),([2],[2]),([3],[3]),([1,4,3],[1,4]),([0,1,2,3,4,5],[]),([6,5,5,0,1,2,3,4,5],[5,6])])
def rule_reader_rel.B19:List Nat:=[0,1,0,4,12,31,63,127]
theorem rule_reader_rel.tab19:rtab .any (opsOf Tryd.f38 19)=rule_reader_rel.T19:=by kernel_rfl
theorem rule_reader_rel.bits19:waitsOk rule_reader_rel.T19.2 rule_reader_rel.B19=true:=by kernel_rfl
set_option maxHeartbeats 64000000 in
set_option maxRecDepth 100000 in
theorem rule_reader_rel.calls (k:Nat) (g:Nat) (s0_0:ByteArray) (s0_1:Int) (s0_2:Int) (s0_3:Bool) (s0_4:Bool) (s0_5:Bool) (s0_6:Bool) (s0_7:Bool) (s0_8:Bool) (r1:Int) (r2:Int) (r3:Bool) (r4:List (S38)) (r5:ByteArray) (r6:Int) (r7:Int) (r8:Bool) (r9:Bool) (r10:Bool) (r11:Bool) (r12:Bool) (r13:Bool) (w0 w:World) (hI:IsS56 w0 w g s0_0 s0_1 s0_2 s0_3 s0_4 s0_5 s0_6 s0_7 s0_8) (hB:Below w0.heap.size w0 w) (h:rule_reader_rel.f k s0_0 s0_1 s0_2 s0_3 s0_4 s0_5 s0_6 s0_7 s0_8=some (r1,r2,r3,r4,r5,r6,r7,r8,r9,r10,r11,r12,r13)) :
  Calls Tryd.prog 38 #[.pointer (some ⟨g,0,none⟩)] w fun e w'=>∃v3_:Value,e= .returned (.agg #[.int .u8 r1,.int .i64 r2,.bool r3,v3_])∧Kd.R k38 38 w' w.heap.size (fun _=>True) v3_ r4∧IsS56 w0 w' g r5 r6 r7 r8 r9 r10 r11 r12 r13∧Below w0.heap.size w0 w'∧KeepBut w w' g none:=by
 have hu36:=Tryd.underlying36
 have HI0:=Aside0.mk hI
 have HK:=Aside0.mk (KeepBut.refl w g none)
 have HL:=Aside0.mk hB.size
 clear hI
 have HW0:=Aside0.mk hB.size
 have HB:=Aside0.mk hB
 clear hB
 have H:((rule_reader_word.f k s0_0 s0_1 s0_2 s0_3 s0_4 s0_5 s0_6 s0_7 s0_8).bind fun bt295=>(if (bt295.1.size:Int)=1 then ((strings_Contains.f (⟨#[110,105,118,119,102,116,99,101]⟩:ByteArray) bt295.1).bind fun t305=>(rule_reader_rel.j0 k bt295.1 (!t305) bt295.2.1 bt295.2.2.1 bt295.2.2.2.1 bt295.2.2.2.2.1 bt295.2.2.2.2.2.1 bt295.2.2.2.2.2.2.1 bt295.2.2.2.2.2.2.2.1 bt295.2.2.2.2.2.2.2.2.1 bt295.2.2.2.2.2.2.2.2.2)) else (rule_reader_rel.j0 k bt295.1 true bt295.2.1 bt295.2.2.1 bt295.2.2.2.1 bt295.2.2.2.2.1 bt295.2.2.2.2.2.1 bt295.2.2.2.2.2.2.1 bt295.2.2.2.2.2.2.2.1 bt295.2.2.2.2.2.2.2.2.1 bt295.2.2.2.2.2.2.2.2.2)))=some (r1,r2,r3,r4,r5,r6,r7,r8,r9,r10,r11,r12,r13):=h
 clear h
 replace H:=Option.bind_eq_some_iff.mp H
 obtain⟨⟨t295,t296,t297,t298,t299,t300,t301,t302,t303,t304⟩,A20,H⟩:=H
 dsimp only at H
 have A2:=Aside0.mk A20
 clear A20
 have HC3:=Aside0.mk H
 clear H
 go_enter Tryd.func38,Tryd.ntmps38
 go_upto_region 2 with (first|((with_reducible refine gate_dst (N:=2) rfl ?_);refine be_ 2 #[.int .u8 0,.int .i64 0,.bool false,.slice none 0 0] 36 ?_;intro gb294 hg w4 hbox hb;have n0_:=Aside0.mk (IsS56.below (is56_ HI0) hb);have n1_:=Aside0.mk (KeepBut.trans (kp_ HK) (KeepBut.of_below hb g none) (.inl rfl));have n2_:=Aside0.mk (below_step (bs56_ HB HI0) hb);have n3_:=Aside0.mk (hbox);have n4_:=Aside0.mk ((by rw[hg];exact(keep_size (w:=w) (g:=g) (row:=none) (kp_ HK)):w.heap.size≤gb294));have n5_:=Aside0.mk ((Nat.le_trans HW0.out (by rw[hg];exact(keep_size (w:=w) (g:=g) (row:=none) (kp_ HK)):w.heap.size≤gb294):w0.heap.size≤gb294));have n6_:=Aside0.mk ((by rw[hg];exact Nat.ne_of_lt (IsS56.lt (show IsS56 w0 _ g s0_0 s0_1 s0_2 s0_3 s0_4 s0_5 s0_6 s0_7 s0_8 from is56_ HI0)):g≠gb294));have n7_:=Aside0.mk ((by rw[hg];exact Nat.ne_of_gt (IsS56.lt (show IsS56 w0 _ g s0_0 s0_1 s0_2 s0_3 s0_4 s0_5 s0_6 s0_7 s0_8 from is56_ HI0)):gb294≠g));clear HI0;clear HK;clear HB;have HI0:=n0_;have HK:=n1_;have HB:=n2_;have BK294:=n3_;have GW294:=n4_;have GE294:=n5_;have NB0_294:=n6_;have NB294_0:=n7_;clear n0_ n1_ n2_ n3_ n4_ n5_ n6_ n7_;clear hb hbox hg)|((with_reducible refine gate_callee (f:=27) rfl ?_);refine gl_ (some 8) Tryd.func27 #[.pointer (some ⟨g,0,none⟩)] ?_;(with_reducible refine(rule_reader_word.calls _ _ _ _ _ _ _ _ _ _ _ _ _ _ _ _ _ _ _ _ _ w0 _ ?side1 ?side2 A2.out).mono ?_);(case side1=>exact is56_ HI0);(case side2=>exact bs56_ HB HI0);rintro e w5 ⟨rfl,hi,hb,hk⟩;refine⟨_,rfl,?_⟩;have n0_:=Aside0.mk (KeepBut.blk hk (bk_ BK294).out NB294_0.out (by simp));have n1_:=Aside0.mk (KeepBut.trans (kp_ HK) hk (.inl rfl));have n2_:=Aside0.mk (hb);have n3_:=Aside0.mk (hi);clear BK294;clear HK;clear HB;clear HI0;have BK294:=n0_;have HK:=n1_;have HB:=n2_;have HI0:=n3_;clear n0_ n1_ n2_ n3_;(try clear hb);(try clear hk);(try clear hi)))
 (try simp only[Act.put,List.setIfInBounds_toArray,List.set_cons_zero,List.set_cons_succ])
 go_cut [16] (fun v16 wc=>∃(kq:Nat) (x16_2:Bool),v16= .bool x16_2∧Aside0 (rule_reader_rel.j0 kq t295 x16_2 t296 t297 t298 t299 t300 t301 t302 t303 t304=some (r1,r2,r3,r4,r5,r6,r7,r8,r9,r10,r11,r12,r13))∧Aside0 (kq≤k)∧Aside0 (wc.heap[gb294]? = some (.cells #[.int .u8 0,.int .i64 0,.bool false,(.slice none 0 0)] 36 (0,0)))∧Aside0 (IsS56 w0 wc g t296 t297 t298 t299 t300 t301 t302 t303 t304)∧Aside0 (KeepBut w wc g none)∧Aside0 (Below w0.heap.size w0 wc))
 case first =>
  have H:=HC3.out
  clear HC3
  by_cases c6:(t295.size:Int)=1
  ·rw[if_pos c6] at H
   have c6b0:((t295.size:Int)==1)=true:=beq_iff_eq.mpr c6
   have c6b1:((t295.size:Int) !=1)=false:=bne_eq_false_iff_eq.mpr c6
   clear c6
   (first|rw[c6b0]|(simp only[i64_w,i32_w];rw[c6b0])|skip)
   replace H:=Option.bind_eq_some_iff.mp H
   obtain⟨t305,A70,H⟩:=H
   have A7:=Aside0.mk A70
   clear A70
   have H':=Aside0.mk H
   clear H
   go_wp2_with (first|(go_at_call 45;(with_reducible refine(strings_Contains.calls _ _ _ _ A7.out).mono ?_);rintro e w' ⟨rfl,⟨nd,rfl⟩⟩))
   go_meet
   case rel=>exact⟨_,(!t305),eq_,H',⟨by first|omega|exact Nat.le_refl _⟩,(bk_ BK294),⟨is56_ HI0⟩,⟨kp_ HK⟩,⟨bs56_ HB HI0⟩⟩
  ·rw[if_neg c6] at H
   have c6b0:((t295.size:Int)==1)=false:=beq_eq_false_iff_ne.mpr c6
   have c6b1:((t295.size:Int) !=1)=true:=bne_iff_ne.mpr c6
   (first|rw[c6b0]|(simp only[i64_w,i32_w];rw[c6b0])|skip)
   have H':=Aside0.mk H
   clear H
   go_wp2
   go_meet
   case rel=>exact⟨_,(true),eq_,H',⟨by first|omega|exact Nat.le_refl _⟩,(bk_ BK294),⟨is56_ HI0⟩,⟨kp_ HK⟩,⟨bs56_ HB HI0⟩⟩
 case rest =>
  clear HC3
  obtain⟨kq,x16_2,rfl,HA,HJ2,BK294,HI0,HK,HB⟩:=hcut
  cases kq with
  | zero=>exact absurd HA.out (by simp[rule_reader_rel.j0])
  | succ kj2 =>
   have H:=HA.out
   clear HA
   simp only[rule_reader_rel.j0] at H
   by_cases c8:x16_2=true
   ·subst c8
    have H1:(none)=some (r1,r2,r3,r4,r5,r6,r7,r8,r9,r10,r11,r12,r13):=by rw[if_pos rfl] at H;exact H
    clear H
    have H:=H1
    clear H1
    exact absurd H (by simp)
   ·replace c8:=Bool.eq_false_iff.mpr c8
    subst c8
    have H1:(if (wrap64 (t298+1))>200 then (none) else (if 0<(t295.size:Int) then ((rule_reader_take.f kj2 t296 (wrap64 (t297+1)) (wrap64 (t298+1)) t299 t300 t301 t302 t303 t304 (⟨#[37]⟩:ByteArray)).bind fun bt307=>(if bt307.1=true then ((rule_reader_value.f kj2 bt307.2.1 bt307.2.2.1 bt307.2.2.2.1 bt307.2.2.2.2.1 bt307.2.2.2.2.2.1 bt307.2.2.2.2.2.2.1 bt307.2.2.2.2.2.2.2.1 bt307.2.2.2.2.2.2.2.2.1 bt307.2.2.2.2.2.2.2.2.2).bind fun bt317=>(if bt317.1=0 then (none) else (rule_reader_rel.j1 kj2 bt317.2.2.1 bt317.2.2.2.1 bt317.2.2.2.2.1 bt317.2.2.2.2.2.1 bt317.2.2.2.2.2.2.1 bt317.2.2.2.2.2.2.2.1 bt317.2.2.2.2.2.2.2.2.1 bt317.2.2.2.2.2.2.2.2.2.1 bt317.2.2.2.2.2.2.2.2.2.2 (bt t295 0) bt317.1 false))) else (rule_reader_rel.j1 kj2 bt307.2.1 bt307.2.2.1 bt307.2.2.2.1 bt307.2.2.2.2.1 bt307.2.2.2.2.2.1 bt307.2.2.2.2.2.2.1 bt307.2.2.2.2.2.2.2.1 bt307.2.2.2.2.2.2.2.2.1 bt307.2.2.2.2.2.2.2.2.2 (bt t295 0) 0 false))) else (none)))=some (r1,r2,r3,r4,r5,r6,r7,r8,r9,r10,r11,r12,r13):=by rw[if_neg (show ¬(false=true) by decide)] at H;exact H
    clear H
    have H:=H1
    clear H1
    by_cases c9:(wrap64 (t298+1))>200
    ·rw[if_pos c9] at H
     have c9b0:decide (200<(wrap64 (t298+1)))=true:=decide_eq_true c9
     clear c9
     exact absurd H (by simp)
    ·rw[if_neg c9] at H
     have c9b0:decide (200<(wrap64 (t298+1)))=false:=decide_eq_false c9
     clear c9
     replace H:=ifn_ H
     obtain⟨c10,H⟩:=H
     have c10b0:decide (0<(t295.size:Int))=true:=decide_eq_true c10
     have c10b1:decide (0<t295.size)=true:=decide_eq_true (by omega)
     clear c10
     replace H:=Option.bind_eq_some_iff.mp H
     obtain⟨⟨t307,t308,t309,t310,t311,t312,t313,t314,t315,t316⟩,A120,H⟩:=H
     dsimp only at H
     have A12:=Aside0.mk A120
     clear A120
     have HC13:=Aside0.mk H
     clear H
     obtain⟨hcz14_0,hcz14_1,hcz14_2,hcz14_3,hcz14_4,hcz14_5,hcz14_6,hcz14_7,hcz14_8,hfz14_0,hfz14_1,hfz14_2,hfz14_3,hfz14_4,hfz14_5,hfz14_6,hfz14_7,hfz14_8⟩:=cs56_ HI0
     have p11:0≤(0:Int):=(by omega)
     have q11:0<t295.size:=(by have:(0:Int)<(t295.size:Int):=od_;omega)
     have hx11:∀h:0<t295.size,((t295[0]'h).toNat:Int)=bt t295 0:=bt_at t295 0
     clear p11
     have qi11:(0<(t295.size:Int))=True:=eq_true (od_)
     replace q11:=eq_true q11
     go_upto_if 50 with (first|((with_reducible refine gate_dst (N:=4) rfl ?_);refine be_ 4 #[.int .u8 0,.int .i64 0,.bool false,.slice none 0 0] 36 ?_;intro gb306 hg w15 hbox hb;have n0_:=bz_ BK294 hb;have n1_:=Aside0.mk (IsS56.below (show IsS56 w0 ((wc.setCell ⟨g,2,none⟩ (.int .i64 (wrap64 (t298+1)))).setCell ⟨g,1,none⟩ (.int .i64 (wrap64 (t297+1)))) g t296 (wrap64 (t297+1)) (wrap64 (t298+1)) t299 t300 t301 t302 t303 t304 from is56_ HI0) hb);have n2_:=Aside0.mk (KeepBut.trans (kp_ HK) (KeepBut.of_below hb g none) (.inl rfl));have n3_:=Aside0.mk (below_step (bs56_ HB HI0) hb);have n4_:=Aside0.mk (hbox);have n5_:=Aside0.mk ((by rw[hg];exact(keep_size (w:=w) (g:=g) (row:=none) (kp_ HK)):w.heap.size≤gb306));have n6_:=Aside0.mk ((Nat.le_trans HW0.out (by rw[hg];exact(keep_size (w:=w) (g:=g) (row:=none) (kp_ HK)):w.heap.size≤gb306):w0.heap.size≤gb306));have n7_:=Aside0.mk ((by rw[hg];exact Nat.ne_of_lt (blk_lt (g:=gb294) (o:= .cells #[.int .u8 0,.int .i64 0,.bool false,.slice none 0 0] 36 (0,0)) ((bf_ BK294).out)):gb294≠gb306));have n8_:=Aside0.mk ((by rw[hg];exact Nat.ne_of_gt (blk_lt (g:=gb294) (o:= .cells #[.int .u8 0,.int .i64 0,.bool false,.slice none 0 0] 36 (0,0)) ((bf_ BK294).out)):gb306≠gb294));have n9_:=Aside0.mk ((by rw[hg];exact Nat.ne_of_lt (IsS56.lt (show IsS56 w0 _ g t296 (wrap64 (t297+1)) (wrap64 (t298+1)) t299 t300 t301 t302 t303 t304 from is56_ HI0)):g≠gb306));have n10_:=Aside0.mk ((by rw[hg];exact Nat.ne_of_gt (IsS56.lt (show IsS56 w0 _ g t296 (wrap64 (t297+1)) (wrap64 (t298+1)) t299 t300 t301 t302 t303 t304 from is56_ HI0)):gb306≠g));clear BK294;clear HI0;clear HK;clear HB;have BK294:=n0_;have HI0:=n1_;have HK:=n2_;have HB:=n3_;have BK306:=n4_;have GW306:=n5_;have GE306:=n6_;have NB294_306:=n7_;have NB306_294:=n8_;have NB0_306:=n9_;have NB306_0:=n10_;clear n0_ n1_ n2_ n3_ n4_ n5_ n6_ n7_ n8_ n9_ n10_;clear hb hbox hg;have hnb16:=NB306_294.out;have hnc16:=NB294_306.out;have hnb17:=NB306_0.out;have hnc17:=NB0_306.out;obtain⟨hcz18_0,hcz18_1,hcz18_2,hcz18_3,hfz18_0,hfz18_1,hfz18_2,hfz18_3⟩:=bo4_ BK306)|((with_reducible refine gate_callee (f:=20) rfl ?_);refine gl_ (some 50) Tryd.func20 #[.pointer (some ⟨g,0,none⟩),.string (⟨#[37]⟩:ByteArray)] ?_;(with_reducible refine(rule_reader_take.calls _ _ _ _ _ _ _ _ _ _ _ _ _ _ _ _ _ _ _ _ _ _ w0 _ ?side1 ?side2 A12.out).mono ?_);(case side1=>exact is56_ HI0);(case side2=>exact bs56_ HB HI0);rintro e w19 ⟨rfl,hi,hb,hk⟩;refine⟨_,rfl,?_⟩;have n0_:=Aside0.mk (KeepBut.blk hk (g':=gb294) (o:= .cells #[.int .u8 0,.int .i64 0,.bool false,.slice none 0 0] 36 (0,0)) ((bf_ BK294).out) NB294_0.out (by simp));have n1_:=Aside0.mk (KeepBut.blk hk (g':=gb306) (o:= .cells #[.int .u8 (bt t295 0),.int .i64 0,.bool false,.slice none 0 0] 36 (0,0)) ((bp_ BK306).out) NB306_0.out (by simp));have n2_:=Aside0.mk (KeepBut.trans (kp_ HK) hk (.inl rfl));have n3_:=Aside0.mk (hb);have n4_:=Aside0.mk (hi);clear BK294;clear BK306;clear HK;clear HB;clear HI0;have BK294:=n0_;have BK306:=n1_;have HK:=n2_;have HB:=n3_;have HI0:=n4_;clear n0_ n1_ n2_ n3_ n4_;(try clear hb);(try clear hk);(try clear hi)))
     (try simp only[Act.put,List.setIfInBounds_toArray,List.set_cons_zero,List.set_cons_succ])
     go_cut [] (fun wc=>∃(kq:Nat) (x1000_12:ByteArray) (x1001_12:Int) (x1002_12:Int) (x1003_12:Bool) (x1004_12:Bool) (x1005_12:Bool) (x1006_12:Bool) (x1007_12:Bool) (x1008_12:Bool) (x307001_12:Int),Aside0 (rule_reader_rel.j1 kq x1000_12 x1001_12 x1002_12 x1003_12 x1004_12 x1005_12 x1006_12 x1007_12 x1008_12 (bt t295 0) x307001_12 false=some (r1,r2,r3,r4,r5,r6,r7,r8,r9,r10,r11,r12,r13))∧Aside0 (kq≤kj2)∧Aside0 (wc.heap[gb294]? = some (.cells #[.int .u8 0,.int .i64 0,.bool false,(.slice none 0 0)] 36 (0,0)))∧Aside0 (wc.heap[gb306]? = some (.cells #[.int .u8 (bt t295 0),.int .i64 x307001_12,.bool false,(.slice none 0 0)] 36 (0,0)))∧Aside0 (IsS56 w0 wc g x1000_12 x1001_12 x1002_12 x1003_12 x1004_12 x1005_12 x1006_12 x1007_12 x1008_12)∧Aside0 (KeepBut w wc g none)∧Aside0 (Below w0.heap.size w0 wc))
     case first =>
      have H:=HC13.out
      clear HC13
      by_cases c20:t307=true
      ·subst c20
       have H1:((rule_reader_value.f kj2 t308 t309 t310 t311 t312 t313 t314 t315 t316).bind fun bt317=>(if bt317.1=0 then (none) else (rule_reader_rel.j1 kj2 bt317.2.2.1 bt317.2.2.2.1 bt317.2.2.2.2.1 bt317.2.2.2.2.2.1 bt317.2.2.2.2.2.2.1 bt317.2.2.2.2.2.2.2.1 bt317.2.2.2.2.2.2.2.2.1 bt317.2.2.2.2.2.2.2.2.2.1 bt317.2.2.2.2.2.2.2.2.2.2 (bt t295 0) bt317.1 false)))=some (r1,r2,r3,r4,r5,r6,r7,r8,r9,r10,r11,r12,r13):=by rw[if_pos rfl] at H;exact H
       clear H
       have H:=H1
       clear H1
       replace H:=Option.bind_eq_some_iff.mp H
       obtain⟨⟨t317,t318,t319,t320,t321,t322,t323,t324,t325,t326,t327⟩,A210,H⟩:=H
       dsimp only at H
       have A21:=Aside0.mk A210
       clear A210
       replace H:=ifp_ H
       obtain⟨c22,H⟩:=H
       have c22b0:(t317==0)=false:=beq_eq_false_iff_ne.mpr c22
       have c22b1:(t317 !=0)=true:=bne_iff_ne.mpr c22
       (first|rw[c22b0]|(simp only[i64_w,i32_w];rw[c22b0])|skip)
       have H':=Aside0.mk H
       clear H
       go_wp2_with (first|((with_reducible refine gate_callee (f:=46) rfl ?_);refine gl_ (some 53) Tryd.func46 #[.pointer (some ⟨g,0,none⟩)] ?_;(with_reducible refine(rule_reader_value.calls _ _ _ _ _ _ _ _ _ _ _ _ _ _ _ _ _ _ _ _ _ _ w0 _ ?side1 ?side2 A21.out).mono ?_);(case side1=>exact is56_ HI0);(case side2=>exact bs56_ HB HI0);rintro e w23 ⟨rfl,hi,hb,hk⟩;refine⟨_,rfl,?_⟩;have n0_:=Aside0.mk (KeepBut.blk hk (bk_ BK294).out NB294_0.out (by simp));have n1_:=Aside0.mk (KeepBut.blk hk (bk_ BK306).out NB306_0.out (by simp));have n2_:=Aside0.mk (KeepBut.trans (kp_ HK) hk (.inl rfl));have n3_:=Aside0.mk (hb);have n4_:=Aside0.mk (hi);clear BK294;clear BK306;clear HK;clear HB;clear HI0;have BK294:=n0_;have BK306:=n1_;have HK:=n2_;have HB:=n3_;have HI0:=n4_;clear n0_ n1_ n2_ n3_ n4_;(try clear hb);(try clear hk);(try clear hi);have hnb24:=NB306_294.out;have hnc24:=NB294_306.out;have hnb25:=NB306_0.out;have hnc25:=NB0_306.out;obtain⟨hcz26_0,hcz26_1,hcz26_2,hcz26_3,hfz26_0,hfz26_1,hfz26_2,hfz26_3⟩:=bo4_ BK306))
       go_meet
       case rel=>exact⟨_,(t319),(t320),(t321),(t322),(t323),(t324),(t325),(t326),(t327),(t317),H',⟨by have:=HJ2.out;first|omega|exact Nat.le_refl _⟩,⟨(bf_ BK294).out⟩,⟨(bp_ BK306).out⟩,⟨is56_ HI0⟩,⟨kp_ HK⟩,⟨bs56_ HB HI0⟩⟩
      ·replace c20:=Bool.eq_false_iff.mpr c20
       subst c20
       have H1:(rule_reader_rel.j1 kj2 t308 t309 t310 t311 t312 t313 t314 t315 t316 (bt t295 0) 0 false)=some (r1,r2,r3,r4,r5,r6,r7,r8,r9,r10,r11,r12,r13):=by rw[if_neg (show ¬(false=true) by decide)] at H;exact H
       clear H
       have H:=H1
       clear H1
       have H':=Aside0.mk H
       clear H
       go_wp2
       go_meet
       case rel=>exact⟨_,(t308),(t309),(t310),(t311),(t312),(t313),(t314),(t315),(t316),(0),H',⟨by have:=HJ2.out;first|omega|exact Nat.le_refl _⟩,(bk_ BK294),(bk_ BK306),⟨is56_ HI0⟩,⟨kp_ HK⟩,⟨bs56_ HB HI0⟩⟩
     case rest =>
      clear HC13
      obtain⟨kq,x1000_12,x1001_12,x1002_12,x1003_12,x1004_12,x1005_12,x1006_12,x1007_12,x1008_12,x307001_12,HA,HJ12,BK294,BK306,HI0,HK,HB⟩:=hcut
      cases kq with
      | zero=>exact absurd HA.out (by simp[rule_reader_rel.j1])
      | succ kj12 =>
       have H:=HA.out
       clear HA
       simp only[rule_reader_rel.j1] at H
       replace H:=Option.bind_eq_some_iff.mp H
       obtain⟨⟨t328,t329,t330,t331,t332,t333,t334,t335,t336,t337⟩,A270,H⟩:=H
       dsimp only at H
       have A27:=Aside0.mk A270
       clear A270
       have HC28:=Aside0.mk H
       clear H
       go_upto_if 67 with (first|((with_reducible refine gate_callee (f:=20) rfl ?_);refine gl_ (some 63) Tryd.func20 #[.pointer (some ⟨g,0,none⟩),.string (⟨#[33,61]⟩:ByteArray)] ?_;(with_reducible refine(rule_reader_take.calls _ _ _ _ _ _ _ _ _ _ _ _ _ _ _ _ _ _ _ _ _ _ w0 _ ?side1 ?side2 A27.out).mono ?_);(case side1=>exact is56_ HI0);(case side2=>exact bs56_ HB HI0);rintro e w29 ⟨rfl,hi,hb,hk⟩;refine⟨_,rfl,?_⟩;have n0_:=Aside0.mk (KeepBut.blk hk (bk_ BK294).out NB294_0.out (by simp));have n1_:=Aside0.mk (KeepBut.blk hk (bk_ BK306).out NB306_0.out (by simp));have n2_:=Aside0.mk (KeepBut.trans (kp_ HK) hk (.inl rfl));have n3_:=Aside0.mk (hb);have n4_:=Aside0.mk (hi);clear BK294;clear BK306;clear HK;clear HB;clear HI0;have BK294:=n0_;have BK306:=n1_;have HK:=n2_;have HB:=n3_;have HI0:=n4_;clear n0_ n1_ n2_ n3_ n4_;(try clear hb);(try clear hk);(try clear hi);have hnb30:=NB306_294.out;have hnc30:=NB294_306.out;have hnb31:=NB306_0.out;have hnc31:=NB0_306.out;obtain⟨hcz32_0,hcz32_1,hcz32_2,hcz32_3,hfz32_0,hfz32_1,hfz32_2,hfz32_3⟩:=bo4_ BK306))
       (try simp only[Act.put,List.setIfInBounds_toArray,List.set_cons_zero,List.set_cons_succ])
       go_cut [] (fun wc=>∃(kq:Nat) (x1000_27:ByteArray) (x1001_27:Int) (x1002_27:Int) (x1003_27:Bool) (x1004_27:Bool) (x1005_27:Bool) (x1006_27:Bool) (x1007_27:Bool) (x1008_27:Bool),Aside0 (rule_reader_rel.j2 kq x1000_27 x1001_27 x1002_27 x1003_27 x1004_27 x1005_27 x1006_27 x1007_27 x1008_27 (bt t295 0) x307001_12 t328=some (r1,r2,r3,r4,r5,r6,r7,r8,r9,r10,r11,r12,r13))∧Aside0 (kq≤kj12)∧Aside0 (wc.heap[gb294]? = some (.cells #[.int .u8 0,.int .i64 0,.bool false,(.slice none 0 0)] 36 (0,0)))∧Aside0 (wc.heap[gb306]? = some (.cells #[.int .u8 (bt t295 0),.int .i64 x307001_12,.bool t328,(.slice none 0 0)] 36 (0,0)))∧Aside0 (IsS56 w0 wc g x1000_27 x1001_27 x1002_27 x1003_27 x1004_27 x1005_27 x1006_27 x1007_27 x1008_27)∧Aside0 (KeepBut w wc g none)∧Aside0 (Below w0.heap.size w0 wc))
       case first =>
        have H:=HC28.out
        clear HC28
        by_cases c33:t328=true
        ·subst c33
         have H1:(rule_reader_rel.j2 kj12 t329 t330 t331 t332 t333 t334 t335 t336 t337 (bt t295 0) x307001_12 true)=some (r1,r2,r3,r4,r5,r6,r7,r8,r9,r10,r11,r12,r13):=by rw[if_pos rfl] at H;exact H
         clear H
         have H:=H1
         clear H1
         have H':=Aside0.mk H
         clear H
         go_wp2
         go_meet
         case rel=>exact⟨_,(t329),(t330),(t331),(t332),(t333),(t334),(t335),(t336),(t337),H',⟨by have:=HJ2.out;have:=HJ12.out;first|omega|exact Nat.le_refl _⟩,⟨(bf_ BK294).out⟩,⟨(bp_ BK306).out⟩,⟨is56_ HI0⟩,⟨kp_ HK⟩,⟨bs56_ HB HI0⟩⟩
        ·replace c33:=Bool.eq_false_iff.mpr c33
         subst c33
         have H1:((rule_reader_want.f kj12 t329 t330 t331 t332 t333 t334 t335 t336 t337 (⟨#[61]⟩:ByteArray)).bind fun bt338=>(rule_reader_rel.j2 kj12 bt338.1 bt338.2.1 bt338.2.2.1 bt338.2.2.2.1 bt338.2.2.2.2.1 bt338.2.2.2.2.2.1 bt338.2.2.2.2.2.2.1 bt338.2.2.2.2.2.2.2.1 bt338.2.2.2.2.2.2.2.2 (bt t295 0) x307001_12 false))=some (r1,r2,r3,r4,r5,r6,r7,r8,r9,r10,r11,r12,r13):=by rw[if_neg (show ¬(false=true) by decide)] at H;exact H
         clear H
         have H:=H1
         clear H1
         replace H:=Option.bind_eq_some_iff.mp H
         obtain⟨⟨t338,t339,t340,t341,t342,t343,t344,t345,t346⟩,A340,H⟩:=H
         dsimp only at H
         have A34:=Aside0.mk A340
         clear A340
         have H':=Aside0.mk H
         clear H
         go_wp2_with (first|((with_reducible refine gate_callee (f:=28) rfl ?_);refine gl_ (some 69) Tryd.func28 #[.pointer (some ⟨g,0,none⟩),.string (⟨#[61]⟩:ByteArray)] ?_;(with_reducible refine(rule_reader_want.calls _ _ _ _ _ _ _ _ _ _ _ _ _ _ _ _ _ _ _ _ _ w0 _ ?side1 ?side2 A34.out).mono ?_);(case side1=>exact is56_ HI0);(case side2=>exact bs56_ HB HI0);rintro e w35 ⟨rfl,hi,hb,hk⟩;refine⟨_,rfl,?_⟩;have n0_:=Aside0.mk (KeepBut.blk hk (g':=gb294) (o:= .cells #[.int .u8 0,.int .i64 0,.bool false,.slice none 0 0] 36 (0,0)) ((bf_ BK294).out) NB294_0.out (by simp));have n1_:=Aside0.mk (KeepBut.blk hk (g':=gb306) (o:= .cells #[.int .u8 (bt t295 0),.int .i64 x307001_12,.bool false,.slice none 0 0] 36 (0,0)) ((bp_ BK306).out) NB306_0.out (by simp));have n2_:=Aside0.mk (KeepBut.trans (kp_ HK) hk (.inl rfl));have n3_:=Aside0.mk (hb);have n4_:=Aside0.mk (hi);clear BK294;clear BK306;clear HK;clear HB;clear HI0;have BK294:=n0_;have BK306:=n1_;have HK:=n2_;have HB:=n3_;have HI0:=n4_;clear n0_ n1_ n2_ n3_ n4_;(try clear hb);(try clear hk);(try clear hi)))
         go_meet
         case rel=>exact⟨_,(t338),(t339),(t340),(t341),(t342),(t343),(t344),(t345),(t346),H',⟨by have:=HJ2.out;have:=HJ12.out;first|omega|exact Nat.le_refl _⟩,(bk_ BK294),(bk_ BK306),⟨is56_ HI0⟩,⟨kp_ HK⟩,⟨bs56_ HB HI0⟩⟩
       case rest =>
        clear HC28
        obtain⟨kq,x1000_27,x1001_27,x1002_27,x1003_27,x1004_27,x1005_27,x1006_27,x1007_27,x1008_27,HA,HJ27,BK294,BK306,HI0,HK,HB⟩:=hcut
        cases kq with
        | zero=>exact absurd HA.out (by simp[rule_reader_rel.j2])
        | succ kj27 =>
         have H:=HA.out
         clear HA
         simp only[rule_reader_rel.j2] at H
         replace H:=Option.bind_eq_some_iff.mp H
         obtain⟨⟨t347,t348,t349,t350,t351,t352,t353,t354,t355,t356,t357⟩,A360,H⟩:=H
         dsimp only at H
         have A36:=Aside0.mk A360
         clear A360
         replace H:=ifn_ H
         obtain⟨c37,H⟩:=H
         have LMc37:=Aside0.mk c37
         clear c37
         obtain⟨y358,hy358⟩:∃y_:List (S38),y_=(([]:List (S38))++[(⟨t347,t348⟩:S38)]):=⟨_,rfl⟩
         replace H:(rule_reader_rel.l0 kj27 t349 t350 t351 t352 t353 t354 t355 t356 t357 (bt t295 0) x307001_12 t328 y358)=some (r1,r2,r3,r4,r5,r6,r7,r8,r9,r10,r11,r12,r13):=by first|(rw[hy358];with_reducible exact H)|(have H2_:=(Option.bind_some _ _).symm.trans H;rw[hy358];with_reducible exact H2_)|(have H2_:=(Option.bind_some _ _).symm.trans H;with_reducible exact H2_)|with_reducible exact H|(rw[hy358];exact H)|exact H
         have Ny358:=Aside0.mk hy358
         clear hy358
         have H':=Aside0.mk H
         clear H
         try go_wp2
         replace BK294:=Aside0.mk (blk_drew BK294.out)
         replace BK306:=Aside0.mk (blk_drew BK306.out)
         replace HI0:=Aside0.mk (IsS56.drew HI0.out)
         replace HK:=Aside0.mk (keep_drew HK.out)
         replace HB:=Aside0.mk (below_drew1 HB.out)
         refine start_ (n:=8) (S:=fun w'=>w'.cell? ⟨gb306,0,none⟩=some (.int .u8 (bt t295 0))∧w'.cell? ⟨gb306,1,none⟩=some (.int .i64 x307001_12)∧w'.cell? ⟨gb306,2,none⟩=some (.bool t328)∧w'.cell? ⟨gb306,3,none⟩=some (.slice none 0 0)) (ds:=[7]) #[false,false,false,false,false,false,false,false] (by kernel_rfl) rfl rfl ⟨bc_ BK306 0,bc_ BK306 1,bc_ BK306 2,bc_ BK306 3⟩ (fun hHeld=>?_);refine with_tabW rule_reader_rel.tab17 rule_reader_rel.bits17 (fun HT_ HW_=>?_)
         generalize wc.drew=w38 at BK294 BK306 HI0 HK HB hHeld ⊢
         refine pu_ 0 70 #[true,false,false,false,false,false,false,false] HT_ ?_
         refine pu_ 2 72 #[true,false,true,false,false,false,false,false] HT_ ?_
         refine tk_ 1 71 #[true,true,true,false,false,false,false,false] HT_ HW_ hHeld rfl (by rintro w' ⟨s0,s1,s2,s3⟩;go_simp;with_reducible rfl) ?_
         refine one_ (i:=3) (N:=some 73) #[true,true,true,true,false,false,false,false] rfl rfl (one_of HT_.out (by kernel_rfl)) (by decide) (fun K hK=>?_)
         refine gs_ Tryd.func47 #[.pointer (some ⟨g,0,none⟩)] ?_
         with_reducible refine(rule_reader_span.calls _ _ _ _ _ _ _ _ _ _ _ _ _ _ _ _ _ _ _ _ _ _ w0 _ ?side1 ?side2 A36.out).mono ?_
         (case side1=>exact is56_ HI0)
         (case side2=>exact bs56_ HB HI0)
         rintro e w39 ⟨rfl,hi,hb,hk⟩
         refine⟨_,rfl,?_⟩
         replace BK294:=Aside0.mk (KeepBut.blk hk (bk_ BK294).out NB294_0.out (by simp))
         replace BK306:=Aside0.mk (KeepBut.blk hk (bk_ BK306).out NB306_0.out (by simp))
         replace HK:=Aside0.mk (KeepBut.trans (kp_ HK) hk (.inl rfl))
         replace HB:=Aside0.mk (hb)
         replace HI0:=Aside0.mk (hi)
         (try clear hb)
         (try clear hb2)
         (try clear hk)
         (try clear hi)
         refine hK.out _ _ ⟨bc_ BK306 0,bc_ BK306 1,bc_ BK306 2,bc_ BK306 3⟩ (fun hHeld=>?_)
         clear hK K
         refine nm_ 73 ?_
         refine one_ (i:=4) (N:=some 74) #[true,true,true,true,true,false,false,false] rfl rfl (one_of HT_.out (by kernel_rfl)) (by decide) (fun K hK=>?_)
         refine value_ (w1:=?_) (v:=?_) (by rfl) rfl ?_ ?_
         rotate_left 2
         ·go_simp
          constructor
          ·rfl
          ·rfl
         refine hK.out _ _ ⟨(blk_cell (blk_alloc BK306.out _) 0).trans rfl,(blk_cell (blk_alloc BK306.out _) 1).trans rfl,(blk_cell (blk_alloc BK306.out _) 2).trans rfl,(blk_cell (blk_alloc BK306.out _) 3).trans rfl⟩ (fun hHeld=>?_)
         clear hK K
         refine nm_ 74 ?_
         refine one_ (i:=5) (N:=some 75) #[true,true,true,true,true,true,false,false] rfl rfl (one_of HT_.out (by kernel_rfl)) (by decide) (fun K hK=>?_)
         refine Kd.R_append_step k38 w.heap.size (by rfl) (.tmp 71) (.tmp 74) 34 38 (.agg #[(.int .i64 0),(.int .i64 0)]) 16 rfl Tryd.underlying34 info38 rfl (by decide) (by omega) (.slice none 0 0) ([]:List (S38)) (⟨t347,t348⟩:S38) [.int .i64 t347,.int .i64 t348] (fun _=>True) (fun _=>False) rfl rfl ?aP (fun _ hk=>hk.elim) ?aF ?aO (Below.refl _ _) ?aS ?aL ?_
         (case aP=>exact k38_mkM _ _ _ (⟨t347,t348⟩:S38))
         (case aF=>exact(fun _ _=>trivial))
         (case aO=>exact((Kd.R_nil _ _ _ _ (fun _=>True))))
         (case aS=>exact(keep_size (w:=w) (g:=g) (row:=none) (kp_ HK)))
         (case aL=>have:=LMc37.out;omega)
         intro v359 w40 ho hb hg hat
         rw[← Ny358.out] at ho
         have n0_:=Aside0.mk (blk_grown (bk_ BK294).out hg (by simp[Value.ownBlock]))
         have n1_:=Aside0.mk (blk_grown (bk_ BK306).out hg (by simp[Value.ownBlock]))
         have n2_:=Aside0.mk (IsS56.grown (is56_ HI0) hg (by simp[Value.ownBlock]))
         have n3_:=Aside0.mk (below_weaken (bs56_ HB HI0) HL.out hb)
         have n4_:=Aside0.mk (KeepBut.trans (kp_ HK) (KeepBut.of_grown hg g) (.inl (by simp[Value.ownBlock])))
         have n5_:=Aside0.mk (ho)
         clear BK294
         clear BK306
         clear HI0
         clear HB
         clear HK
         have BK294:=n0_
         have BK306:=n1_
         have HI0:=n2_
         have HB:=n3_
         have HK:=n4_
         have HO360:=n5_
         clear n0_ n1_ n2_ n3_ n4_ n5_
         clear ho hb hg hat
         obtain⟨Ao41,co41,eo41⟩:=Kd.R_slice HO360.out
         (first|subst eo41|(injection eo41 with f1_ f2_ f3_;have f4_:=f1_.symm;have f5_:=f3_.symm;clear f1_ f2_ f3_;subst f4_;subst f5_))
         refine hK.out _ _ ⟨bc_ BK306 0,bc_ BK306 1,bc_ BK306 2,bc_ BK306 3⟩ (fun hHeld=>?_)
         clear hK K
         refine nm_ 75 ?_
         refine pu_ 6 76 #[true,true,true,true,true,true,true,false] HT_ ?_
         refine last_ (i:=7) (N:=none) #[true,true,true,true,true,true,true,true] rfl rfl (one_of HT_.out (by kernel_rfl)) (by decide) (fun K hK=>?_)
         have hs42:w40.cell? ⟨gb306,3,none⟩=some (.slice none 0 0):=bc_ BK306 3
         have hfs42:=blk_frozen BK306.out 3
         have hns42_0:=NB294_306.out
         have hms42_0:=NB306_294.out
         refine skip_ (w1:=?_) (by rfl) rfl ?_ ?_
         rotate_left
         ·go_simp
          rfl
         refine hK.out _ _ ?_
         clear hK K
         refine done_ (done_of HT_.out (by kernel_rfl)) ?_
         try go_wp2
         go_loopg [] kj27 (fun kq w'=>∃(x1000_4:ByteArray) (x1001_4:Int) (x1002_4:Int) (x1003_4:Bool) (x1004_4:Bool) (x1005_4:Bool) (x1006_4:Bool) (x1007_4:Bool) (x1008_4:Bool) (x307003_4:List (S38)) (u307003:Value),Aside0 (rule_reader_rel.l0 kq x1000_4 x1001_4 x1002_4 x1003_4 x1004_4 x1005_4 x1006_4 x1007_4 x1008_4 (bt t295 0) x307001_12 t328 x307003_4=some (r1,r2,r3,r4,r5,r6,r7,r8,r9,r10,r11,r12,r13))∧Aside0 (kq≤kj27)∧Aside0 (Kd.R k38 38 w' w.heap.size (fun _=>True) u307003 x307003_4)∧Aside0 (w'.heap[gb294]? = some (.cells #[.int .u8 0,.int .i64 0,.bool false,(.slice none 0 0)] 36 (0,0)))∧Aside0 (w'.heap[gb306]? = some (.cells #[.int .u8 (bt t295 0),.int .i64 x307001_12,.bool t328,u307003] 36 (0,0)))∧Aside0 (IsS56 w0 w' g x1000_4 x1001_4 x1002_4 x1003_4 x1004_4 x1005_4 x1006_4 x1007_4 x1008_4)∧Aside0 (KeepBut w w' g none)∧Aside0 (Below w0.heap.size w0 w'))
         case atStart=>exact⟨(t349),(t350),(t351),(t352),(t353),(t354),(t355),(t356),(t357),(y358),(.slice Ao41 y358.length co41),H',⟨Nat.le_refl _⟩,⟨kdR_ (Kd.R_mono (Kd.R_far (Kd.R_types HO360.out BK306.out (by decide)) (fun _ hk=>hk.2) _) (fun _ hk=>trivial))⟩,⟨(bf_ BK294).out⟩,⟨(bp_ BK306).out⟩,⟨is56_ HI0⟩,⟨kp_ HK⟩,⟨bs56_ HB HI0⟩⟩
         case round =>
          clear H'
          obtain⟨x1000_4,x1001_4,x1002_4,x1003_4,x1004_4,x1005_4,x1006_4,x1007_4,x1008_4,x307003_4,u307003,HA,HK4,HO_307003,BK294,BK306,HI0,HK,HB⟩:=hrel
          cases gk with
          | zero=>exact absurd HA.out (by simp[rule_reader_rel.l0])
          | succ k4 =>
           have H:=HA.out
           clear HA
           simp only[rule_reader_rel.l0] at H
           replace H:=Option.bind_eq_some_iff.mp H
           obtain⟨⟨t361,t362,t363,t364,t365,t366,t367,t368,t369,t370⟩,A430,H⟩:=H
           dsimp only at H
           have A43:=Aside0.mk A430
           clear A430
           by_cases c44:t361=true
           ·subst c44
            have H1:((rule_reader_span.f k4 t362 t363 t364 t365 t366 t367 t368 t369 t370).bind fun bt371=>(if x307003_4.length<8796093022208 then (rule_reader_rel.l0 k4 bt371.2.2.1 bt371.2.2.2.1 bt371.2.2.2.2.1 bt371.2.2.2.2.2.1 bt371.2.2.2.2.2.2.1 bt371.2.2.2.2.2.2.2.1 bt371.2.2.2.2.2.2.2.2.1 bt371.2.2.2.2.2.2.2.2.2.1 bt371.2.2.2.2.2.2.2.2.2.2 (bt t295 0) x307001_12 t328 (x307003_4++[(⟨bt371.1,bt371.2.1⟩:S38)])) else (none)))=some (r1,r2,r3,r4,r5,r6,r7,r8,r9,r10,r11,r12,r13):=by rw[if_pos rfl] at H;exact H
            clear H
            have H:=H1
            clear H1
            replace H:=Option.bind_eq_some_iff.mp H
            obtain⟨⟨t371,t372,t373,t374,t375,t376,t377,t378,t379,t380,t381⟩,A450,H⟩:=H
            dsimp only at H
            have A45:=Aside0.mk A450
            clear A450
            replace H:=ifn_ H
            obtain⟨c46,H⟩:=H
            have LMc46:=Aside0.mk c46
            clear c46
            obtain⟨y382,hy382⟩:∃y_:List (S38),y_=(x307003_4++[(⟨t371,t372⟩:S38)]):=⟨_,rfl⟩
            replace H:(rule_reader_rel.l0 k4 t373 t374 t375 t376 t377 t378 t379 t380 t381 (bt t295 0) x307001_12 t328 y382)=some (r1,r2,r3,r4,r5,r6,r7,r8,r9,r10,r11,r12,r13):=by first|(rw[hy382];with_reducible exact H)|(have H2_:=(Option.bind_some _ _).symm.trans H;rw[hy382];with_reducible exact H2_)|(have H2_:=(Option.bind_some _ _).symm.trans H;with_reducible exact H2_)|with_reducible exact H|(rw[hy382];exact H)|exact H
            have Ny382:=Aside0.mk hy382
            clear hy382
            have H':=Aside0.mk H
            clear H
            try go_wp2_with (first|((with_reducible refine gate_callee (f:=20) rfl ?_);refine gl_ (some 78) Tryd.func20 #[.pointer (some ⟨g,0,none⟩),.string (⟨#[44]⟩:ByteArray)] ?_;(with_reducible refine(rule_reader_take.calls _ _ _ _ _ _ _ _ _ _ _ _ _ _ _ _ _ _ _ _ _ _ w0 _ ?side1 ?side2 A43.out).mono ?_);(case side1=>exact is56_ HI0);(case side2=>exact bs56_ HB HI0);rintro e w47 ⟨rfl,hi,hb,hk⟩;refine⟨_,rfl,?_⟩;have n0_:=Aside0.mk (Kd.R_mono (Kd.R_keep (IsS56.apart (show IsS56 w0 _ g x1000_4 x1001_4 x1002_4 x1003_4 x1004_4 x1005_4 x1006_4 x1007_4 x1008_4 from is56_ HI0) (kr_ HO_307003) (by decide)) hk (fun _ h=>h.2)) (fun _ h=>h.1));have n1_:=Aside0.mk (KeepBut.blk hk (bk_ BK294).out NB294_0.out (by simp));have n2_:=Aside0.mk (KeepBut.blk hk (bk_ BK306).out NB306_0.out (by simp));have n3_:=Aside0.mk (KeepBut.trans (kp_ HK) hk (.inl rfl));have n4_:=Aside0.mk (hb);have n5_:=Aside0.mk (hi);clear HO_307003;clear BK294;clear BK306;clear HK;clear HB;clear HI0;have HO_307003:=n0_;have BK294:=n1_;have BK306:=n2_;have HK:=n3_;have HB:=n4_;have HI0:=n5_;clear n0_ n1_ n2_ n3_ n4_ n5_;(try clear hb);(try clear hk);(try clear hi)))
            replace HO_307003:=Aside0.mk (Kd.R_drew HO_307003.out)
            replace BK294:=Aside0.mk (blk_drew BK294.out)
            replace BK306:=Aside0.mk (blk_drew BK306.out)
            replace HI0:=Aside0.mk (IsS56.drew HI0.out)
            replace HK:=Aside0.mk (keep_drew HK.out)
            replace HB:=Aside0.mk (below_drew1 HB.out)
            refine start_ (n:=8) (S:=fun w'=>w'.cell? ⟨gb306,0,none⟩=some (.int .u8 (bt t295 0))∧w'.cell? ⟨gb306,1,none⟩=some (.int .i64 x307001_12)∧w'.cell? ⟨gb306,2,none⟩=some (.bool t328)∧w'.cell? ⟨gb306,3,none⟩=some (u307003)) (ds:=[7]) #[false,false,false,false,false,false,false,false] (by kernel_rfl) rfl rfl ⟨bc_ BK306 0,bc_ BK306 1,bc_ BK306 2,bc_ BK306 3⟩ (fun hHeld=>?_);refine with_tabW rule_reader_rel.tab19 rule_reader_rel.bits19 (fun HT_ HW_=>?_)
            generalize w47.drew=w48 at HO_307003 BK294 BK306 HI0 HK HB hHeld ⊢
            refine pu_ 0 79 #[true,false,false,false,false,false,false,false] HT_ ?_
            refine pu_ 2 81 #[true,false,true,false,false,false,false,false] HT_ ?_
            refine tk_ 1 80 #[true,true,true,false,false,false,false,false] HT_ HW_ hHeld rfl (by rintro w' ⟨s0,s1,s2,s3⟩;go_simp;with_reducible rfl) ?_
            refine one_ (i:=3) (N:=some 82) #[true,true,true,true,false,false,false,false] rfl rfl (one_of HT_.out (by kernel_rfl)) (by decide) (fun K hK=>?_)
            refine gs_ Tryd.func47 #[.pointer (some ⟨g,0,none⟩)] ?_
            with_reducible refine(rule_reader_span.calls _ _ _ _ _ _ _ _ _ _ _ _ _ _ _ _ _ _ _ _ _ _ w0 _ ?side1 ?side2 A45.out).mono ?_
            (case side1=>exact is56_ HI0)
            (case side2=>exact bs56_ HB HI0)
            rintro e w49 ⟨rfl,hi,hb,hk⟩
            refine⟨_,rfl,?_⟩
            have n0_:=Aside0.mk (Kd.R_mono (Kd.R_keep (IsS56.apart (show IsS56 w0 _ g t362 t363 t364 t365 t366 t367 t368 t369 t370 from is56_ HI0) (kr_ HO_307003) (by decide)) hk (fun _ h=>h.2)) (fun _ h=>h.1))
            have n1_:=Aside0.mk (KeepBut.blk hk (bk_ BK294).out NB294_0.out (by simp))
            have n2_:=Aside0.mk (KeepBut.blk hk (bk_ BK306).out NB306_0.out (by simp))
            have n3_:=Aside0.mk (KeepBut.trans (kp_ HK) hk (.inl rfl))
            have n4_:=Aside0.mk (hb)
            have n5_:=Aside0.mk (hi)
            clear HO_307003
            clear BK294
            clear BK306
            clear HK
            clear HB
            clear HI0
            have HO_307003:=n0_
            have BK294:=n1_
            have BK306:=n2_
            have HK:=n3_
            have HB:=n4_
            have HI0:=n5_
            clear n0_ n1_ n2_ n3_ n4_ n5_
            (try clear hb)
            (try clear hb2)
            (try clear hk)
            (try clear hi)
            refine hK.out _ _ ⟨bc_ BK306 0,bc_ BK306 1,bc_ BK306 2,bc_ BK306 3⟩ (fun hHeld=>?_)
            clear hK K
            refine nm_ 82 ?_
            refine one_ (i:=4) (N:=some 83) #[true,true,true,true,true,false,false,false] rfl rfl (one_of HT_.out (by kernel_rfl)) (by decide) (fun K hK=>?_)
            refine value_ (w1:=?_) (v:=?_) (by rfl) rfl ?_ ?_
            rotate_left 2
            ·go_simp
             constructor
             ·rfl
             ·rfl
            refine hK.out _ _ ⟨(blk_cell (blk_alloc BK306.out _) 0).trans rfl,(blk_cell (blk_alloc BK306.out _) 1).trans rfl,(blk_cell (blk_alloc BK306.out _) 2).trans rfl,(blk_cell (blk_alloc BK306.out _) 3).trans rfl⟩ (fun hHeld=>?_)
            clear hK K
            refine nm_ 83 ?_
            refine one_ (i:=5) (N:=some 84) #[true,true,true,true,true,true,false,false] rfl rfl (one_of HT_.out (by kernel_rfl)) (by decide) (fun K hK=>?_)
            refine Kd.R_append_step k38 w.heap.size (by rfl) (.tmp 80) (.tmp 83) 34 38 (.agg #[(.int .i64 0),(.int .i64 0)]) 16 rfl Tryd.underlying34 info38 rfl (by decide) (by omega) u307003 x307003_4 (⟨t371,t372⟩:S38) [.int .i64 t371,.int .i64 t372] (fun _=>True) (fun _=>False) rfl rfl ?aP (fun _ hk=>hk.elim) ?aF ?aO (Below.refl _ _) ?aS ?aL ?_
            (case aP=>exact k38_mkM _ _ _ (⟨t371,t372⟩:S38))
            (case aF=>exact(fun _ _=>trivial))
            (case aO=>exact(kr_ HO_307003))
            (case aS=>exact(keep_size (w:=w) (g:=g) (row:=none) (kp_ HK)))
            (case aL=>have:=LMc46.out;omega)
            intro v383 w50 ho hb hg hat
            rw[← Ny382.out] at ho
            have n0_:=Aside0.mk (blk_grown (bk_ BK294).out hg (Kd.R_ne HO_307003.out BK294.out (by decide)))
            have n1_:=Aside0.mk (blk_grown (bk_ BK306).out hg (Kd.R_ne HO_307003.out BK306.out (by decide)))
            have n2_:=Aside0.mk (IsS56.grown (is56_ HI0) hg (IsS56.own_ne HI0.out HO_307003.out (by decide)))
            have n3_:=Aside0.mk (below_weaken (bs56_ HB HI0) HL.out hb)
            have n4_:=Aside0.mk (KeepBut.trans (kp_ HK) (KeepBut.of_grown hg g) (Kd.R_base2 HO_307003.out))
            have n5_:=Aside0.mk (ho)
            clear BK294
            clear BK306
            clear HI0
            clear HB
            clear HK
            clear HO_307003
            have BK294:=n0_
            have BK306:=n1_
            have HI0:=n2_
            have HB:=n3_
            have HK:=n4_
            have HO384:=n5_
            clear n0_ n1_ n2_ n3_ n4_ n5_
            clear ho hb hg hat
            obtain⟨Ao51,co51,eo51⟩:=Kd.R_slice HO384.out
            (first|subst eo51|(injection eo51 with f1_ f2_ f3_;have f4_:=f1_.symm;have f5_:=f3_.symm;clear f1_ f2_ f3_;subst f4_;subst f5_))
            refine hK.out _ _ ⟨bc_ BK306 0,bc_ BK306 1,bc_ BK306 2,bc_ BK306 3⟩ (fun hHeld=>?_)
            clear hK K
            refine nm_ 84 ?_
            refine pu_ 6 85 #[true,true,true,true,true,true,true,false] HT_ ?_
            refine last_ (i:=7) (N:=none) #[true,true,true,true,true,true,true,true] rfl rfl (one_of HT_.out (by kernel_rfl)) (by decide) (fun K hK=>?_)
            have hs52:w50.cell? ⟨gb306,3,none⟩=some (u307003):=bc_ BK306 3
            have hfs52:=blk_frozen BK306.out 3
            have hns52_0:=NB294_306.out
            have hms52_0:=NB306_294.out
            refine skip_ (w1:=?_) (by rfl) rfl ?_ ?_
            rotate_left
            ·go_simp
             rfl
            refine hK.out _ _ ?_
            clear hK K
            refine done_ (done_of HT_.out (by kernel_rfl)) ?_
            try go_wp2
            go_roundg k4
            case measure=>have:=HJ2.out;have:=HJ12.out;have:=HJ27.out;have:=HK4.out;omega
            case rel=>exact⟨(t373),(t374),(t375),(t376),(t377),(t378),(t379),(t380),(t381),(y382),(.slice Ao51 y382.length co51),H',⟨by have:=HJ2.out;have:=HJ12.out;have:=HJ27.out;have:=HK4.out;omega⟩,⟨kdR_ (Kd.R_mono (Kd.R_far (Kd.R_types HO384.out BK306.out (by decide)) (fun _ hk=>hk.2) _) (fun _ hk=>trivial))⟩,⟨(bf_ BK294).out⟩,⟨(bp_ BK306).out⟩,⟨is56_ HI0⟩,⟨kp_ HK⟩,⟨bs56_ HB HI0⟩⟩
           ·replace c44:=Bool.eq_false_iff.mpr c44
            subst c44
            have H1:(some ((bt t295 0),x307001_12,t328,x307003_4,t362,t363,t364,t365,t366,t367,t368,t369,t370))=some (r1,r2,r3,r4,r5,r6,r7,r8,r9,r10,r11,r12,r13):=by rw[if_neg (show ¬(false=true) by decide)] at H;exact H
            clear H
            have H:=H1
            clear H1
            simp only[Option.some.injEq,Prod.mk.injEq] at H
            obtain⟨rfl,rfl,rfl,rfl,rfl,rfl,rfl,rfl,rfl,rfl,rfl,rfl,rfl⟩:=H
            go_wp2_with (first|((with_reducible refine gate_callee (f:=20) rfl ?_);refine gl_ (some 78) Tryd.func20 #[.pointer (some ⟨g,0,none⟩),.string (⟨#[44]⟩:ByteArray)] ?_;(with_reducible refine(rule_reader_take.calls _ _ _ _ _ _ _ _ _ _ _ _ _ _ _ _ _ _ _ _ _ _ w0 _ ?side1 ?side2 A43.out).mono ?_);(case side1=>exact is56_ HI0);(case side2=>exact bs56_ HB HI0);rintro e w53 ⟨rfl,hi,hb,hk⟩;refine⟨_,rfl,?_⟩;have n0_:=Aside0.mk (Kd.R_mono (Kd.R_keep (IsS56.apart (show IsS56 w0 _ g x1000_4 x1001_4 x1002_4 x1003_4 x1004_4 x1005_4 x1006_4 x1007_4 x1008_4 from is56_ HI0) (kr_ HO_307003) (by decide)) hk (fun _ h=>h.2)) (fun _ h=>h.1));have n1_:=Aside0.mk (KeepBut.blk hk (bk_ BK294).out NB294_0.out (by simp));have n2_:=Aside0.mk (KeepBut.blk hk (bk_ BK306).out NB306_0.out (by simp));have n3_:=Aside0.mk (KeepBut.trans (kp_ HK) hk (.inl rfl));have n4_:=Aside0.mk (hb);have n5_:=Aside0.mk (hi);clear HO_307003;clear BK294;clear BK306;clear HK;clear HB;clear HI0;have HO_307003:=n0_;have BK294:=n1_;have BK306:=n2_;have HK:=n3_;have HB:=n4_;have HI0:=n5_;clear n0_ n1_ n2_ n3_ n4_ n5_;(try clear hb);(try clear hk);(try clear hi);have hnb54:=NB306_294.out;have hnc54:=NB294_306.out;have hnb55:=NB306_0.out;have hnc55:=NB0_306.out;obtain⟨hcz56_0,hcz56_1,hcz56_2,hcz56_3,hfz56_0,hfz56_1,hfz56_2,hfz56_3⟩:=bo4_ BK306;have hnb57:=NB294_0.out;have hnc57:=NB0_294.out;obtain⟨hcz58_0,hcz58_1,hcz58_2,hcz58_3,hfz58_0,hfz58_1,hfz58_2,hfz58_3⟩:=bo4_ BK294;obtain⟨Ao59,co59,eo59⟩:=Kd.R_slice HO_307003.out;subst eo59))
            refine bodyPost_ret (results_cell_row rfl _ _ gb294 36 #[.int .u8 (bt t295 0),.int .i64 x307001_12,.bool t328,.slice Ao59 x307003_4.length co59] (0,0) _ rfl ((bp_ BK294).out) Tryd.underlying36 rfl (by kernel_rfl)) rfl ?_
            exact⟨_,by first|rfl|(simp[errW_none,errW_some] <;> rfl)|(simp[*,errW_none,errW_some] <;> first|rfl|exact given_isEmpty _|exact(given_isEmpty _).symm),kdR_ (Kd.R_mono (Kd.R_far (Kd.R_far (Kd.R_far (Kd.R_far (Kd.R_types HO_307003.out BK294.out (by decide)) (fun _ hk=>hk.2) _) (fun _ hk=>hk.2) _) (fun _ hk=>hk.2) _) (fun _ hk=>hk.2) _) (fun _ hk=>trivial)),is56_ HI0,bs56_ HB HI0,kp_ HK⟩

end Go.Proofs.YtcokjmnkieakiaaDoor.P
