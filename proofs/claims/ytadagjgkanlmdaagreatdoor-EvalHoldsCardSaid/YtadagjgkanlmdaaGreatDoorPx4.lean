import Derived.Test.YtadagjgkanlmdaaGreatDoorPx0
import Derived.Test.YtadagjgkanlmdaaGreatDoorPx1
import Derived.Test.YtadagjgkanlmdaaGreatDoorPx2
import Derived.Test.YtadagjgkanlmdaaGreatDoorPx3
namespace Go.Proofs.YtadagjgkanlmdaaGreatDoor.P
open Go.RowKit Go.Proofs.YtadagjgkanlmdaaGreatDoorW.PrintWords Go.Proofs.YtadagjgkanlmdaaGreatDoorW.PrintLast Go.Proofs.YtadagjgkanlmdaaGreatDoorW.PrintMore
attribute [local go_sem] max2_int min2_int max_two min_two max_three min_three max_four min_four
set_option maxHeartbeats 64000000
set_option maxRecDepth 100000
set_option linter.unusedVariables false
set_option linter.unusedSimpArgs false

mutual
def rule_reader_rel.j0:Nat→ByteArray→Bool→ByteArray→Int→Int→Bool→Bool→Bool→Bool→Bool→Bool→Option (Int × Int × Bool × (List (S57)) × ByteArray × Int × Int × Bool × Bool × Bool × Bool × Bool × Bool)
 | 0,_,_,_,_,_,_,_,_,_,_,_=>none
 | k+1,x3,x16,x1000,x1001,x1002,x1003,x1004,x1005,x1006,x1007,x1008=>if x16=true then (none) else (if (wrap64 (x1002+1))>200 then (none) else (if 0<(x3.size:Int) then ((rule_reader_take.f k x1000 (wrap64 (x1001+1)) (wrap64 (x1002+1)) x1003 x1004 x1005 x1006 x1007 x1008 (⟨#[37]⟩:ByteArray)).bind fun bt292=>(if bt292.1=true then ((rule_reader_value.f k bt292.2.1 bt292.2.2.1 bt292.2.2.2.1 bt292.2.2.2.2.1 bt292.2.2.2.2.2.1 bt292.2.2.2.2.2.2.1 bt292.2.2.2.2.2.2.2.1 bt292.2.2.2.2.2.2.2.2.1 bt292.2.2.2.2.2.2.2.2.2).bind fun bt302=>(if bt302.1=0 then (none) else (rule_reader_rel.j1 k bt302.2.2.1 bt302.2.2.2.1 bt302.2.2.2.2.1 bt302.2.2.2.2.2.1 bt302.2.2.2.2.2.2.1 bt302.2.2.2.2.2.2.2.1 bt302.2.2.2.2.2.2.2.2.1 bt302.2.2.2.2.2.2.2.2.2.1 bt302.2.2.2.2.2.2.2.2.2.2 (bt x3 0) bt302.1 false))) else (rule_reader_rel.j1 k bt292.2.1 bt292.2.2.1 bt292.2.2.2.1 bt292.2.2.2.2.1 bt292.2.2.2.2.2.1 bt292.2.2.2.2.2.2.1 bt292.2.2.2.2.2.2.2.1 bt292.2.2.2.2.2.2.2.2.1 bt292.2.2.2.2.2.2.2.2.2 (bt x3 0) 0 false))) else (none)))
def rule_reader_rel.j1:Nat→ByteArray→Int→Int→Bool→Bool→Bool→Bool→Bool→Bool→Int→Int→Bool→Option (Int × Int × Bool × (List (S57)) × ByteArray × Int × Int × Bool × Bool × Bool × Bool × Bool × Bool)
 | 0,_,_,_,_,_,_,_,_,_,_,_,_=>none
 | k+1,x1000,x1001,x1002,x1003,x1004,x1005,x1006,x1007,x1008,x292000,x292001,x292002=>(rule_reader_take.f k x1000 x1001 x1002 x1003 x1004 x1005 x1006 x1007 x1008 (⟨#[33,61]⟩:ByteArray)).bind fun bt313=>(if bt313.1=true then (rule_reader_rel.j2 k bt313.2.1 bt313.2.2.1 bt313.2.2.2.1 bt313.2.2.2.2.1 bt313.2.2.2.2.2.1 bt313.2.2.2.2.2.2.1 bt313.2.2.2.2.2.2.2.1 bt313.2.2.2.2.2.2.2.2.1 bt313.2.2.2.2.2.2.2.2.2 x292000 x292001 bt313.1) else ((rule_reader_want.f k bt313.2.1 bt313.2.2.1 bt313.2.2.2.1 bt313.2.2.2.2.1 bt313.2.2.2.2.2.1 bt313.2.2.2.2.2.2.1 bt313.2.2.2.2.2.2.2.1 bt313.2.2.2.2.2.2.2.2.1 bt313.2.2.2.2.2.2.2.2.2 (⟨#[61]⟩:ByteArray)).bind fun bt323=>(rule_reader_rel.j2 k bt323.1 bt323.2.1 bt323.2.2.1 bt323.2.2.2.1 bt323.2.2.2.2.1 bt323.2.2.2.2.2.1 bt323.2.2.2.2.2.2.1 bt323.2.2.2.2.2.2.2.1 bt323.2.2.2.2.2.2.2.2 x292000 x292001 bt313.1)))
def rule_reader_rel.j2:Nat→ByteArray→Int→Int→Bool→Bool→Bool→Bool→Bool→Bool→Int→Int→Bool→Option (Int × Int × Bool × (List (S57)) × ByteArray × Int × Int × Bool × Bool × Bool × Bool × Bool × Bool)
 | 0,_,_,_,_,_,_,_,_,_,_,_,_=>none
 | k+1,x1000,x1001,x1002,x1003,x1004,x1005,x1006,x1007,x1008,x292000,x292001,x292002=>(rule_reader_span.f k x1000 x1001 x1002 x1003 x1004 x1005 x1006 x1007 x1008).bind fun bt332=>(if ([]:List (S57)).length<8796093022208 then (rule_reader_rel.l0 k bt332.2.2.1 bt332.2.2.2.1 bt332.2.2.2.2.1 bt332.2.2.2.2.2.1 bt332.2.2.2.2.2.2.1 bt332.2.2.2.2.2.2.2.1 bt332.2.2.2.2.2.2.2.2.1 bt332.2.2.2.2.2.2.2.2.2.1 bt332.2.2.2.2.2.2.2.2.2.2 x292000 x292001 x292002 (([]:List (S57))++[(⟨bt332.1,bt332.2.1⟩:S57)])) else (none))
def rule_reader_rel.l0:Nat→ByteArray→Int→Int→Bool→Bool→Bool→Bool→Bool→Bool→Int→Int→Bool→List (S57)→Option (Int × Int × Bool × (List (S57)) × ByteArray × Int × Int × Bool × Bool × Bool × Bool × Bool × Bool)
 | 0,_,_,_,_,_,_,_,_,_,_,_,_,_=>none
 | k+1,x1000,x1001,x1002,x1003,x1004,x1005,x1006,x1007,x1008,x292000,x292001,x292002,x292003=>(rule_reader_take.f k x1000 x1001 x1002 x1003 x1004 x1005 x1006 x1007 x1008 (⟨#[44]⟩:ByteArray)).bind fun bt346=>(if bt346.1=true then ((rule_reader_span.f k bt346.2.1 bt346.2.2.1 bt346.2.2.2.1 bt346.2.2.2.2.1 bt346.2.2.2.2.2.1 bt346.2.2.2.2.2.2.1 bt346.2.2.2.2.2.2.2.1 bt346.2.2.2.2.2.2.2.2.1 bt346.2.2.2.2.2.2.2.2.2).bind fun bt356=>(if x292003.length<8796093022208 then (rule_reader_rel.l0 k bt356.2.2.1 bt356.2.2.2.1 bt356.2.2.2.2.1 bt356.2.2.2.2.2.1 bt356.2.2.2.2.2.2.1 bt356.2.2.2.2.2.2.2.1 bt356.2.2.2.2.2.2.2.2.1 bt356.2.2.2.2.2.2.2.2.2.1 bt356.2.2.2.2.2.2.2.2.2.2 x292000 x292001 x292002 (x292003++[(⟨bt356.1,bt356.2.1⟩:S57)])) else (none))) else (some (x292000,x292001,x292002,x292003,bt346.2.1,bt346.2.2.1,bt346.2.2.2.1,bt346.2.2.2.2.1,bt346.2.2.2.2.2.1,bt346.2.2.2.2.2.2.1,bt346.2.2.2.2.2.2.2.1,bt346.2.2.2.2.2.2.2.2.1,bt346.2.2.2.2.2.2.2.2.2)))
end
def rule_reader_rel.f (k:Nat) (s0_0:ByteArray) (s0_1:Int) (s0_2:Int) (s0_3:Bool) (s0_4:Bool) (s0_5:Bool) (s0_6:Bool) (s0_7:Bool) (s0_8:Bool):Option (Int × Int × Bool × (List (S57)) × ByteArray × Int × Int × Bool × Bool × Bool × Bool × Bool × Bool):=(rule_reader_word.f k s0_0 s0_1 s0_2 s0_3 s0_4 s0_5 s0_6 s0_7 s0_8).bind fun bt280=>(if (bt280.1.size:Int)=1 then ((strings_Contains.f (⟨#[110,105,118,119,102,116,99,101]⟩:ByteArray) bt280.1).bind fun t290=>(rule_reader_rel.j0 k bt280.1 (!t290) bt280.2.1 bt280.2.2.1 bt280.2.2.2.1 bt280.2.2.2.2.1 bt280.2.2.2.2.2.1 bt280.2.2.2.2.2.2.1 bt280.2.2.2.2.2.2.2.1 bt280.2.2.2.2.2.2.2.2.1 bt280.2.2.2.2.2.2.2.2.2)) else (rule_reader_rel.j0 k bt280.1 true bt280.2.1 bt280.2.2.1 bt280.2.2.2.1 bt280.2.2.2.2.1 bt280.2.2.2.2.2.1 bt280.2.2.2.2.2.2.1 bt280.2.2.2.2.2.2.2.1 bt280.2.2.2.2.2.2.2.2.1 bt280.2.2.2.2.2.2.2.2.2))
def rule_reader_rel.T17:Bool × List (List Nat × List Nat):=(true,[([],[]),([0],[0]),([],[]),([2],[2]),([3],[3]),([1,4,3],[1,4]),([0,1,2,3,4,5],[]),([6,5,5,0,1,2,3,4,5],[5,6])])
def rule_reader_rel.B17:List Nat:=[0,1,0,4,12,31,63,127]
theorem rule_reader_rel.tab17:rtab .any (opsOf Tryz.f105 17)=rule_reader_rel.T17:=by kernel_rfl
theorem rule_reader_rel.bits17:waitsOk rule_reader_rel.T17.2 rule_reader_rel.B17=true:=by kernel_rfl
def rule_reader_rel.T19:Bool × List (List Nat × List Nat):=(true,[([],[]),([0],[0]),([],[]),([2],[2]),([3],[3]),([1,4,3],[1,4]),([0,1,2,3,4,5],[]),([6,5,5,0,1,2,3,4,5],[5,6])])
def rule_reader_rel.B19:List Nat:=[0,1,0,4,12,31,63,127]
theorem rule_reader_rel.tab19:rtab .any (opsOf Tryz.f105 19)=rule_reader_rel.T19:=by kernel_rfl
theorem rule_reader_rel.bits19:waitsOk rule_reader_rel.T19.2 rule_reader_rel.B19=true:=by kernel_rfl
theorem rule_reader_rel.calls (k:Nat) (g:Nat) (s0_0:ByteArray) (s0_1:Int) (s0_2:Int) (s0_3:Bool) (s0_4:Bool) (s0_5:Bool) (s0_6:Bool) (s0_7:Bool) (s0_8:Bool) (r1:Int) (r2:Int) (r3:Bool) (r4:List (S57)) (r5:ByteArray) (r6:Int) (r7:Int) (r8:Bool) (r9:Bool) (r10:Bool) (r11:Bool) (r12:Bool) (r13:Bool) (w0 w:World) (hI:IsS91 w0 w g s0_0 s0_1 s0_2 s0_3 s0_4 s0_5 s0_6 s0_7 s0_8) (hB:Below w0.heap.size w0 w) (h:rule_reader_rel.f k s0_0 s0_1 s0_2 s0_3 s0_4 s0_5 s0_6 s0_7 s0_8=some (r1,r2,r3,r4,r5,r6,r7,r8,r9,r10,r11,r12,r13)) :
  Calls Tryz.prog 105 #[.pointer (some ⟨g,0,none⟩)] w fun e w'=>∃v3_:Value,e= .returned (.agg #[.int .u8 r1,.int .i64 r2,.bool r3,v3_])∧Kd.R k57 57 w' w.heap.size (fun _=>True) v3_ r4∧IsS91 w0 w' g r5 r6 r7 r8 r9 r10 r11 r12 r13∧Below w0.heap.size w0 w'∧KeepBut w w' g none:=by
 have hu53:=Tryz.underlying53
 have HI0:=am_ hI
 have HK:=am_ (KeepBut.refl w g none)
 have HL:=am_ hB.size
 clear hI
 have HW0:=am_ hB.size
 have HB:=am_ hB
 clear hB
 have H:=h
 clear h
 unfold rule_reader_rel.f at H
 replace H:=Option.bind_eq_some_iff.mp H
 obtain⟨⟨t280,t281,t282,t283,t284,t285,t286,t287,t288,t289⟩,A20,H⟩:=H
 dsimp only at H
 have A2:=am_ A20
 clear A20
 have HC3:=am_ H
 clear H
 go_enter Tryz.func105,Tryz.ntmps105
 go_upto_region 2 with (first|((with_reducible refine gate_dst (N:=2) rfl ?_);refine be_ 2 #[.int .u8 0,.int .i64 0,.bool false,.slice none 0 0] 53 ?_;intro gb279 hg w4 hbox hb;have n0_:=am_ (IsS91.below (is91_ HI0) hb);have n1_:=am_ (KeepBut.trans (kp_ HK) (KeepBut.of_below hb g none) (.inl rfl));have n2_:=am_ (below_step (bs91_ HB HI0) hb);have n3_:=am_ (hbox);have n4_:=am_ ((by rw[hg];exact(keep_size (w:=w) (g:=g) (row:=none) (kp_ HK)):w.heap.size≤gb279));have n5_:=am_ ((Nat.le_trans HW0.out (by rw[hg];exact(keep_size (w:=w) (g:=g) (row:=none) (kp_ HK)):w.heap.size≤gb279):w0.heap.size≤gb279));have n6_:=am_ ((by rw[hg];exact Nat.ne_of_lt (IsS91.lt (show IsS91 w0 _ g s0_0 s0_1 s0_2 s0_3 s0_4 s0_5 s0_6 s0_7 s0_8 from is91_ HI0)):g≠gb279));have n7_:=am_ ((by rw[hg];exact Nat.ne_of_gt (IsS91.lt (show IsS91 w0 _ g s0_0 s0_1 s0_2 s0_3 s0_4 s0_5 s0_6 s0_7 s0_8 from is91_ HI0)):gb279≠g));clear HI0;clear HK;clear HB;revert n0_ n1_ n2_ n3_ n4_ n5_ n6_ n7_;intro HI0 HK HB BK279 GW279 GE279 NB0_279 NB279_0;clear hb hbox hg)|((with_reducible refine gate_callee (f:=83) rfl ?_);refine gl_ (some 8) Tryz.func83 #[.pointer (some ⟨g,0,none⟩)] ?_;(with_reducible refine(rule_reader_word.calls _ _ _ _ _ _ _ _ _ _ _ _ _ _ _ _ _ _ _ _ _ w0 _ ?side1 ?side2 A2.out).mono ?_);(case side1=>exact is91_ HI0);(case side2=>exact bs91_ HB HI0);rintro e w5 ⟨rfl,hi,hb,hk⟩;refine⟨_,rfl,?_⟩;have n0_:=am_ (KeepBut.blk hk (bk_ BK279).out NB279_0.out (by simp));have n1_:=am_ (KeepBut.trans (kp_ HK) hk (.inl rfl));have n2_:=am_ (hb);have n3_:=am_ (hi);clear BK279;clear HK;clear HB;clear HI0;revert n0_ n1_ n2_ n3_;intro BK279 HK HB HI0;(try clear hb);(try clear hk);(try clear hi)))
 (try simp only[Act.put,List.setIfInBounds_toArray,List.set_cons_zero,List.set_cons_succ])
 go_cut [16] (fun v16 wc=>∃(kq:Nat) (x16_2:Bool),v16= .bool x16_2∧Aside0 (rule_reader_rel.j0 kq t280 x16_2 t281 t282 t283 t284 t285 t286 t287 t288 t289=some (r1,r2,r3,r4,r5,r6,r7,r8,r9,r10,r11,r12,r13))∧Aside0 (kq≤k)∧Aside0 (wc.heap[gb279]? = some (.cells #[.int .u8 0,.int .i64 0,.bool false,(.slice none 0 0)] 53 (0,0)))∧Aside0 (IsS91 w0 wc g t281 t282 t283 t284 t285 t286 t287 t288 t289)∧Aside0 (KeepBut w wc g none)∧Aside0 (Below w0.heap.size w0 wc))
 case first =>
  have H:=HC3.out
  clear HC3
  by_cases c6:(t280.size:Int)=1
  ·rw[if_pos c6] at H
   have c6b0:((t280.size:Int)==1)=true:=beq_iff_eq.mpr c6
   have c6b1:((t280.size:Int) !=1)=false:=bne_eq_false_iff_eq.mpr c6
   clear c6
   (first|rw[c6b0]|(simp only[i64_w,i32_w];rw[c6b0])|skip)
   replace H:=Option.bind_eq_some_iff.mp H
   obtain⟨t290,A70,H⟩:=H
   have A7:=am_ A70
   clear A70
   have H':=am_ H
   clear H
   go_wp2_with (first|(go_at_call 113;(with_reducible refine(strings_Contains.calls _ _ _ _ A7.out).mono ?_);rintro e w' ⟨rfl,⟨nd,rfl⟩⟩))
   go_meet
   case rel=>exact⟨_,(!t290),eq_,H',⟨by first|omega|exact Nat.le_refl _⟩,(bk_ BK279),⟨is91_ HI0⟩,⟨kp_ HK⟩,⟨bs91_ HB HI0⟩⟩
  rw[if_neg c6] at H
  have c6b0:((t280.size:Int)==1)=false:=beq_eq_false_iff_ne.mpr c6
  have c6b1:((t280.size:Int) !=1)=true:=bne_iff_ne.mpr c6
  (first|rw[c6b0]|(simp only[i64_w,i32_w];rw[c6b0])|skip)
  have H':=am_ H
  clear H
  go_wp2
  go_meet
  case rel=>exact⟨_,(true),eq_,H',⟨by first|omega|exact Nat.le_refl _⟩,(bk_ BK279),⟨is91_ HI0⟩,⟨kp_ HK⟩,⟨bs91_ HB HI0⟩⟩
 clear HC3
 obtain⟨kq,x16_2,rfl,HA,HJ2,BK279,HI0,HK,HB⟩:=hcut
 cases kq with
 | zero=>exact absurd HA.out (by simp[rule_reader_rel.j0])
 | succ kj2=>?_
 have H:=HA.out
 clear HA
 simp only[rule_reader_rel.j0] at H
 by_cases c8:x16_2=true
 ·subst c8
  rw[if_pos rfl] at H
  exact absurd H (by simp)
 replace c8:=Bool.eq_false_iff.mpr c8
 subst c8
 rw[if_neg (show ¬(false=true) by decide)] at H
 by_cases c9:(wrap64 (t283+1))>200
 ·rw[if_pos c9] at H
  have c9b0:decide (200<(wrap64 (t283+1)))=true:=decide_eq_true c9
  clear c9
  exact absurd H (by simp)
 rw[if_neg c9] at H
 have c9b0:decide (200<(wrap64 (t283+1)))=false:=decide_eq_false c9
 clear c9
 replace H:=ifn_ H
 obtain⟨c10,H⟩:=H
 have c10b0:decide (0<(t280.size:Int))=true:=decide_eq_true c10
 have c10b1:decide (0<t280.size)=true:=decide_eq_true (by omega)
 clear c10
 replace H:=Option.bind_eq_some_iff.mp H
 obtain⟨⟨t292,t293,t294,t295,t296,t297,t298,t299,t300,t301⟩,A120,H⟩:=H
 dsimp only at H
 have A12:=am_ A120
 clear A120
 have HC13:=am_ H
 clear H
 obtain⟨hcz14_0,hcz14_1,hcz14_2,hcz14_3,hcz14_4,hcz14_5,hcz14_6,hcz14_7,hcz14_8,hfz14_0,hfz14_1,hfz14_2,hfz14_3,hfz14_4,hfz14_5,hfz14_6,hfz14_7,hfz14_8⟩:=cs91_ HI0
 have p11:0≤(0:Int):=(by omega)
 have q11:0<t280.size:=(by have:(0:Int)<(t280.size:Int):=od_;omega)
 have hx11:∀h:0<t280.size,((t280[0]'h).toNat:Int)=bt t280 0:=bt_at t280 0
 clear p11
 have qi11:(0<(t280.size:Int))=True:=eq_true (od_)
 replace q11:=eq_true q11
 go_upto_if 50 with (first|((with_reducible refine gate_dst (N:=4) rfl ?_);refine be_ 4 #[.int .u8 0,.int .i64 0,.bool false,.slice none 0 0] 53 ?_;intro gb291 hg w15 hbox hb;have n0_:=bz_ BK279 hb;have n1_:=am_ (IsS91.below (show IsS91 w0 ((wc.setCell ⟨g,2,none⟩ (.int .i64 (wrap64 (t283+1)))).setCell ⟨g,1,none⟩ (.int .i64 (wrap64 (t282+1)))) g t281 (wrap64 (t282+1)) (wrap64 (t283+1)) t284 t285 t286 t287 t288 t289 from is91_ HI0) hb);have n2_:=am_ (KeepBut.trans (kp_ HK) (KeepBut.of_below hb g none) (.inl rfl));have n3_:=am_ (below_step (bs91_ HB HI0) hb);have n4_:=am_ (hbox);have n5_:=am_ ((by rw[hg];exact(keep_size (w:=w) (g:=g) (row:=none) (kp_ HK)):w.heap.size≤gb291));have n6_:=am_ ((Nat.le_trans HW0.out (by rw[hg];exact(keep_size (w:=w) (g:=g) (row:=none) (kp_ HK)):w.heap.size≤gb291):w0.heap.size≤gb291));have n7_:=am_ ((by rw[hg];exact Nat.ne_of_lt (blk_lt (g:=gb279) (o:= .cells #[.int .u8 0,.int .i64 0,.bool false,.slice none 0 0] 53 (0,0)) ((bf_ BK279).out)):gb279≠gb291));have n8_:=am_ ((by rw[hg];exact Nat.ne_of_gt (blk_lt (g:=gb279) (o:= .cells #[.int .u8 0,.int .i64 0,.bool false,.slice none 0 0] 53 (0,0)) ((bf_ BK279).out)):gb291≠gb279));have n9_:=am_ ((by rw[hg];exact Nat.ne_of_lt (IsS91.lt (show IsS91 w0 _ g t281 (wrap64 (t282+1)) (wrap64 (t283+1)) t284 t285 t286 t287 t288 t289 from is91_ HI0)):g≠gb291));have n10_:=am_ ((by rw[hg];exact Nat.ne_of_gt (IsS91.lt (show IsS91 w0 _ g t281 (wrap64 (t282+1)) (wrap64 (t283+1)) t284 t285 t286 t287 t288 t289 from is91_ HI0)):gb291≠g));clear BK279;clear HI0;clear HK;clear HB;revert n0_ n1_ n2_ n3_ n4_ n5_ n6_ n7_ n8_ n9_ n10_;intro BK279 HI0 HK HB BK291 GW291 GE291 NB279_291 NB291_279 NB0_291 NB291_0;clear hb hbox hg;have hnb16:=NB291_279.out;have hnc16:=NB279_291.out;have hnb17:=NB291_0.out;have hnc17:=NB0_291.out;obtain⟨hcz18_0,hcz18_1,hcz18_2,hcz18_3,hfz18_0,hfz18_1,hfz18_2,hfz18_3⟩:=bo4_ BK291)|((with_reducible refine gate_callee (f:=61) rfl ?_);refine gl_ (some 50) Tryz.func61 #[.pointer (some ⟨g,0,none⟩),.string (⟨#[37]⟩:ByteArray)] ?_;(with_reducible refine(rule_reader_take.calls _ _ _ _ _ _ _ _ _ _ _ _ _ _ _ _ _ _ _ _ _ _ w0 _ ?side1 ?side2 A12.out).mono ?_);(case side1=>exact is91_ HI0);(case side2=>exact bs91_ HB HI0);rintro e w19 ⟨rfl,hi,hb,hk⟩;refine⟨_,rfl,?_⟩;have n0_:=am_ (KeepBut.blk hk (g':=gb279) (o:= .cells #[.int .u8 0,.int .i64 0,.bool false,.slice none 0 0] 53 (0,0)) ((bf_ BK279).out) NB279_0.out (by simp));have n1_:=am_ (KeepBut.blk hk (g':=gb291) (o:= .cells #[.int .u8 (bt t280 0),.int .i64 0,.bool false,.slice none 0 0] 53 (0,0)) ((bp_ BK291).out) NB291_0.out (by simp));have n2_:=am_ (KeepBut.trans (kp_ HK) hk (.inl rfl));have n3_:=am_ (hb);have n4_:=am_ (hi);clear BK279;clear BK291;clear HK;clear HB;clear HI0;revert n0_ n1_ n2_ n3_ n4_;intro BK279 BK291 HK HB HI0;(try clear hb);(try clear hk);(try clear hi)))
 (try simp only[Act.put,List.setIfInBounds_toArray,List.set_cons_zero,List.set_cons_succ])
 go_cut [] (fun wc=>∃(kq:Nat) (x1000_12:ByteArray) (x1001_12:Int) (x1002_12:Int) (x1003_12:Bool) (x1004_12:Bool) (x1005_12:Bool) (x1006_12:Bool) (x1007_12:Bool) (x1008_12:Bool) (x292001_12:Int),Aside0 (rule_reader_rel.j1 kq x1000_12 x1001_12 x1002_12 x1003_12 x1004_12 x1005_12 x1006_12 x1007_12 x1008_12 (bt t280 0) x292001_12 false=some (r1,r2,r3,r4,r5,r6,r7,r8,r9,r10,r11,r12,r13))∧Aside0 (kq≤kj2)∧Aside0 (wc.heap[gb279]? = some (.cells #[.int .u8 0,.int .i64 0,.bool false,(.slice none 0 0)] 53 (0,0)))∧Aside0 (wc.heap[gb291]? = some (.cells #[.int .u8 (bt t280 0),.int .i64 x292001_12,.bool false,(.slice none 0 0)] 53 (0,0)))∧Aside0 (IsS91 w0 wc g x1000_12 x1001_12 x1002_12 x1003_12 x1004_12 x1005_12 x1006_12 x1007_12 x1008_12)∧Aside0 (KeepBut w wc g none)∧Aside0 (Below w0.heap.size w0 wc))
 case first =>
  have H:=HC13.out
  clear HC13
  by_cases c20:t292=true
  ·subst c20
   rw[if_pos rfl] at H
   replace H:=Option.bind_eq_some_iff.mp H
   obtain⟨⟨t302,t303,t304,t305,t306,t307,t308,t309,t310,t311,t312⟩,A210,H⟩:=H
   dsimp only at H
   have A21:=am_ A210
   clear A210
   replace H:=ifp_ H
   obtain⟨c22,H⟩:=H
   have c22b0:(t302==0)=false:=beq_eq_false_iff_ne.mpr c22
   have c22b1:(t302 !=0)=true:=bne_iff_ne.mpr c22
   (first|rw[c22b0]|(simp only[i64_w,i32_w];rw[c22b0])|skip)
   have H':=am_ H
   clear H
   go_wp2_with (first|((with_reducible refine gate_callee (f:=114) rfl ?_);refine gl_ (some 53) Tryz.func114 #[.pointer (some ⟨g,0,none⟩)] ?_;(with_reducible refine(rule_reader_value.calls _ _ _ _ _ _ _ _ _ _ _ _ _ _ _ _ _ _ _ _ _ _ w0 _ ?side1 ?side2 A21.out).mono ?_);(case side1=>exact is91_ HI0);(case side2=>exact bs91_ HB HI0);rintro e w23 ⟨rfl,hi,hb,hk⟩;refine⟨_,rfl,?_⟩;have n0_:=am_ (KeepBut.blk hk (bk_ BK279).out NB279_0.out (by simp));have n1_:=am_ (KeepBut.blk hk (bk_ BK291).out NB291_0.out (by simp));have n2_:=am_ (KeepBut.trans (kp_ HK) hk (.inl rfl));have n3_:=am_ (hb);have n4_:=am_ (hi);clear BK279;clear BK291;clear HK;clear HB;clear HI0;revert n0_ n1_ n2_ n3_ n4_;intro BK279 BK291 HK HB HI0;(try clear hb);(try clear hk);(try clear hi);have hnb24:=NB291_279.out;have hnc24:=NB279_291.out;have hnb25:=NB291_0.out;have hnc25:=NB0_291.out;obtain⟨hcz26_0,hcz26_1,hcz26_2,hcz26_3,hfz26_0,hfz26_1,hfz26_2,hfz26_3⟩:=bo4_ BK291))
   go_meet
   case rel=>exact⟨_,(t304),(t305),(t306),(t307),(t308),(t309),(t310),(t311),(t312),(t302),H',⟨by have:=HJ2.out;first|omega|exact Nat.le_refl _⟩,⟨(bf_ BK279).out⟩,⟨(bp_ BK291).out⟩,⟨is91_ HI0⟩,⟨kp_ HK⟩,⟨bs91_ HB HI0⟩⟩
  replace c20:=Bool.eq_false_iff.mpr c20
  subst c20
  rw[if_neg (show ¬(false=true) by decide)] at H
  have H':=am_ H
  clear H
  go_wp2
  go_meet
  case rel=>exact⟨_,(t293),(t294),(t295),(t296),(t297),(t298),(t299),(t300),(t301),(0),H',⟨by have:=HJ2.out;first|omega|exact Nat.le_refl _⟩,(bk_ BK279),(bk_ BK291),⟨is91_ HI0⟩,⟨kp_ HK⟩,⟨bs91_ HB HI0⟩⟩
 clear HC13
 obtain⟨kq,x1000_12,x1001_12,x1002_12,x1003_12,x1004_12,x1005_12,x1006_12,x1007_12,x1008_12,x292001_12,HA,HJ12,BK279,BK291,HI0,HK,HB⟩:=hcut
 cases kq with
 | zero=>exact absurd HA.out (by simp[rule_reader_rel.j1])
 | succ kj12=>?_
 have H:=HA.out
 clear HA
 simp only[rule_reader_rel.j1] at H
 replace H:=Option.bind_eq_some_iff.mp H
 obtain⟨⟨t313,t314,t315,t316,t317,t318,t319,t320,t321,t322⟩,A270,H⟩:=H
 dsimp only at H
 have A27:=am_ A270
 clear A270
 have HC28:=am_ H
 clear H
 go_upto_if 67 with (first|((with_reducible refine gate_callee (f:=61) rfl ?_);refine gl_ (some 63) Tryz.func61 #[.pointer (some ⟨g,0,none⟩),.string (⟨#[33,61]⟩:ByteArray)] ?_;(with_reducible refine(rule_reader_take.calls _ _ _ _ _ _ _ _ _ _ _ _ _ _ _ _ _ _ _ _ _ _ w0 _ ?side1 ?side2 A27.out).mono ?_);(case side1=>exact is91_ HI0);(case side2=>exact bs91_ HB HI0);rintro e w29 ⟨rfl,hi,hb,hk⟩;refine⟨_,rfl,?_⟩;have n0_:=am_ (KeepBut.blk hk (bk_ BK279).out NB279_0.out (by simp));have n1_:=am_ (KeepBut.blk hk (bk_ BK291).out NB291_0.out (by simp));have n2_:=am_ (KeepBut.trans (kp_ HK) hk (.inl rfl));have n3_:=am_ (hb);have n4_:=am_ (hi);clear BK279;clear BK291;clear HK;clear HB;clear HI0;revert n0_ n1_ n2_ n3_ n4_;intro BK279 BK291 HK HB HI0;(try clear hb);(try clear hk);(try clear hi);have hnb30:=NB291_279.out;have hnc30:=NB279_291.out;have hnb31:=NB291_0.out;have hnc31:=NB0_291.out;obtain⟨hcz32_0,hcz32_1,hcz32_2,hcz32_3,hfz32_0,hfz32_1,hfz32_2,hfz32_3⟩:=bo4_ BK291))
 (try simp only[Act.put,List.setIfInBounds_toArray,List.set_cons_zero,List.set_cons_succ])
 go_cut [] (fun wc=>∃(kq:Nat) (x1000_27:ByteArray) (x1001_27:Int) (x1002_27:Int) (x1003_27:Bool) (x1004_27:Bool) (x1005_27:Bool) (x1006_27:Bool) (x1007_27:Bool) (x1008_27:Bool),Aside0 (rule_reader_rel.j2 kq x1000_27 x1001_27 x1002_27 x1003_27 x1004_27 x1005_27 x1006_27 x1007_27 x1008_27 (bt t280 0) x292001_12 t313=some (r1,r2,r3,r4,r5,r6,r7,r8,r9,r10,r11,r12,r13))∧Aside0 (kq≤kj12)∧Aside0 (wc.heap[gb279]? = some (.cells #[.int .u8 0,.int .i64 0,.bool false,(.slice none 0 0)] 53 (0,0)))∧Aside0 (wc.heap[gb291]? = some (.cells #[.int .u8 (bt t280 0),.int .i64 x292001_12,.bool t313,(.slice none 0 0)] 53 (0,0)))∧Aside0 (IsS91 w0 wc g x1000_27 x1001_27 x1002_27 x1003_27 x1004_27 x1005_27 x1006_27 x1007_27 x1008_27)∧Aside0 (KeepBut w wc g none)∧Aside0 (Below w0.heap.size w0 wc))
 case first =>
  have H:=HC28.out
  clear HC28
  by_cases c33:t313=true
  ·subst c33
   rw[if_pos rfl] at H
   have H':=am_ H
   clear H
   go_wp2
   go_meet
   case rel=>exact⟨_,(t314),(t315),(t316),(t317),(t318),(t319),(t320),(t321),(t322),H',⟨by have:=HJ2.out;have:=HJ12.out;first|omega|exact Nat.le_refl _⟩,⟨(bf_ BK279).out⟩,⟨(bp_ BK291).out⟩,⟨is91_ HI0⟩,⟨kp_ HK⟩,⟨bs91_ HB HI0⟩⟩
  replace c33:=Bool.eq_false_iff.mpr c33
  subst c33
  rw[if_neg (show ¬(false=true) by decide)] at H
  replace H:=Option.bind_eq_some_iff.mp H
  obtain⟨⟨t323,t324,t325,t326,t327,t328,t329,t330,t331⟩,A340,H⟩:=H
  dsimp only at H
  have A34:=am_ A340
  clear A340
  have H':=am_ H
  clear H
  go_wp2_with (first|((with_reducible refine gate_callee (f:=85) rfl ?_);refine gl_ (some 69) Tryz.func85 #[.pointer (some ⟨g,0,none⟩),.string (⟨#[61]⟩:ByteArray)] ?_;(with_reducible refine(rule_reader_want.calls _ _ _ _ _ _ _ _ _ _ _ _ _ _ _ _ _ _ _ _ _ w0 _ ?side1 ?side2 A34.out).mono ?_);(case side1=>exact is91_ HI0);(case side2=>exact bs91_ HB HI0);rintro e w35 ⟨rfl,hi,hb,hk⟩;refine⟨_,rfl,?_⟩;have n0_:=am_ (KeepBut.blk hk (g':=gb279) (o:= .cells #[.int .u8 0,.int .i64 0,.bool false,.slice none 0 0] 53 (0,0)) ((bf_ BK279).out) NB279_0.out (by simp));have n1_:=am_ (KeepBut.blk hk (g':=gb291) (o:= .cells #[.int .u8 (bt t280 0),.int .i64 x292001_12,.bool false,.slice none 0 0] 53 (0,0)) ((bp_ BK291).out) NB291_0.out (by simp));have n2_:=am_ (KeepBut.trans (kp_ HK) hk (.inl rfl));have n3_:=am_ (hb);have n4_:=am_ (hi);clear BK279;clear BK291;clear HK;clear HB;clear HI0;revert n0_ n1_ n2_ n3_ n4_;intro BK279 BK291 HK HB HI0;(try clear hb);(try clear hk);(try clear hi)))
  go_meet
  case rel=>exact⟨_,(t323),(t324),(t325),(t326),(t327),(t328),(t329),(t330),(t331),H',⟨by have:=HJ2.out;have:=HJ12.out;first|omega|exact Nat.le_refl _⟩,(bk_ BK279),(bk_ BK291),⟨is91_ HI0⟩,⟨kp_ HK⟩,⟨bs91_ HB HI0⟩⟩
 clear HC28
 obtain⟨kq,x1000_27,x1001_27,x1002_27,x1003_27,x1004_27,x1005_27,x1006_27,x1007_27,x1008_27,HA,HJ27,BK279,BK291,HI0,HK,HB⟩:=hcut
 cases kq with
 | zero=>exact absurd HA.out (by simp[rule_reader_rel.j2])
 | succ kj27=>?_
 have H:=HA.out
 clear HA
 simp only[rule_reader_rel.j2] at H
 replace H:=Option.bind_eq_some_iff.mp H
 obtain⟨⟨t332,t333,t334,t335,t336,t337,t338,t339,t340,t341,t342⟩,A360,H⟩:=H
 dsimp only at H
 have A36:=am_ A360
 clear A360
 replace H:=ifn_ H
 obtain⟨c37,H⟩:=H
 have LMc37:=am_ c37
 clear c37
 obtain⟨y343,hy343⟩:∃y_:List (S57),y_=(([]:List (S57))++[(⟨t332,t333⟩:S57)]):=⟨_,rfl⟩
 replace H:(rule_reader_rel.l0 kj27 t334 t335 t336 t337 t338 t339 t340 t341 t342 (bt t280 0) x292001_12 t313 y343)=some (r1,r2,r3,r4,r5,r6,r7,r8,r9,r10,r11,r12,r13):=by first|(rw[hy343];with_reducible exact H)|(have H2_:=(Option.bind_some _ _).symm.trans H;rw[hy343];with_reducible exact H2_)|(have H2_:=(Option.bind_some _ _).symm.trans H;with_reducible exact H2_)|with_reducible exact H|(rw[hy343];exact H)|exact H
 have Ny343:=am_ hy343
 clear hy343
 have H':=am_ H
 clear H
 try go_wp2
 replace BK279:=am_ (blk_drew BK279.out)
 replace BK291:=am_ (blk_drew BK291.out)
 replace HI0:=am_ (IsS91.drew HI0.out)
 replace HK:=am_ (keep_drew HK.out)
 replace HB:=am_ (below_drew1 HB.out)
 refine start_ (n:=8) (S:=fun w'=>w'.cell? ⟨gb291,0,none⟩=some (.int .u8 (bt t280 0))∧w'.cell? ⟨gb291,1,none⟩=some (.int .i64 x292001_12)∧w'.cell? ⟨gb291,2,none⟩=some (.bool t313)∧w'.cell? ⟨gb291,3,none⟩=some (.slice none 0 0)) (ds:=[7]) #[false,false,false,false,false,false,false,false] (by kernel_rfl) rfl rfl ⟨bc_ BK291 0,bc_ BK291 1,bc_ BK291 2,bc_ BK291 3⟩ (fun hHeld=>?_);refine with_tabW rule_reader_rel.tab17 rule_reader_rel.bits17 (fun HT_ HW_=>?_)
 generalize wc.drew=w38 at BK279 BK291 HI0 HK HB hHeld ⊢
 refine pu_ 0 70 #[true,false,false,false,false,false,false,false] HT_ ?_
 refine pu_ 2 72 #[true,false,true,false,false,false,false,false] HT_ ?_
 refine tk_ 1 71 #[true,true,true,false,false,false,false,false] HT_ HW_ hHeld rfl (by rintro w' ⟨s0,s1,s2,s3⟩;go_simp;with_reducible rfl) ?_
 refine one_ (i:=3) (N:=some 73) #[true,true,true,true,false,false,false,false] rfl rfl (one_of HT_.out (by kernel_rfl)) (by decide) (fun K hK=>?_)
 refine gs_ Tryz.func115 #[.pointer (some ⟨g,0,none⟩)] ?_
 with_reducible refine(rule_reader_span.calls _ _ _ _ _ _ _ _ _ _ _ _ _ _ _ _ _ _ _ _ _ _ w0 _ ?side1 ?side2 A36.out).mono ?_
 (case side1=>exact is91_ HI0)
 (case side2=>exact bs91_ HB HI0)
 rintro e w39 ⟨rfl,hi,hb,hk⟩
 refine⟨_,rfl,?_⟩
 replace BK279:=am_ (KeepBut.blk hk (bk_ BK279).out NB279_0.out (by simp))
 replace BK291:=am_ (KeepBut.blk hk (bk_ BK291).out NB291_0.out (by simp))
 replace HK:=am_ (KeepBut.trans (kp_ HK) hk (.inl rfl))
 replace HB:=am_ (hb)
 replace HI0:=am_ (hi)
 (try clear hb)
 (try clear hb2)
 (try clear hk)
 (try clear hi)
 refine hK.out _ _ ⟨bc_ BK291 0,bc_ BK291 1,bc_ BK291 2,bc_ BK291 3⟩ (fun hHeld=>?_)
 clear hK K
 refine nm_ 73 ?_
 refine one_ (i:=4) (N:=some 74) #[true,true,true,true,true,false,false,false] rfl rfl (one_of HT_.out (by kernel_rfl)) (by decide) (fun K hK=>?_)
 refine value_ (w1:=?_) (v:=?_) (by rfl) rfl ?_ ?_
 rotate_left 2
 ·go_simp
  constructor
  ·rfl
  rfl
 refine hK.out _ _ ⟨(blk_cell (blk_alloc BK291.out _) 0).trans rfl,(blk_cell (blk_alloc BK291.out _) 1).trans rfl,(blk_cell (blk_alloc BK291.out _) 2).trans rfl,(blk_cell (blk_alloc BK291.out _) 3).trans rfl⟩ (fun hHeld=>?_)
 clear hK K
 refine nm_ 74 ?_
 refine one_ (i:=5) (N:=some 75) #[true,true,true,true,true,true,false,false] rfl rfl (one_of HT_.out (by kernel_rfl)) (by decide) (fun K hK=>?_)
 refine Kd.R_append_step k57 w.heap.size (by rfl) (.tmp 71) (.tmp 74) 51 57 (.agg #[(.int .i64 0),(.int .i64 0)]) 16 rfl Tryz.underlying51 info57 rfl (by decide) (by omega) (.slice none 0 0) ([]:List (S57)) (⟨t332,t333⟩:S57) [.int .i64 t332,.int .i64 t333] (fun _=>True) (fun _=>False) rfl rfl ?aP (fun _ hk=>hk.elim) ?aF ?aO (Below.refl _ _) ?aS ?aL ?_
 (case aP=>exact k57_mkM _ _ _ (⟨t332,t333⟩:S57))
 (case aF=>exact(fun _ _=>trivial))
 (case aO=>exact((Kd.R_nil _ _ _ _ (fun _=>True))))
 (case aS=>exact(keep_size (w:=w) (g:=g) (row:=none) (kp_ HK)))
 (case aL=>have:=LMc37.out;omega)
 intro v344 w40 ho hb hg hat
 rw[← Ny343.out] at ho
 have n0_:=am_ (blk_grown (bk_ BK279).out hg (by simp[Value.ownBlock]))
 have n1_:=am_ (blk_grown (bk_ BK291).out hg (by simp[Value.ownBlock]))
 have n2_:=am_ (IsS91.grown (is91_ HI0) hg (by simp[Value.ownBlock]))
 have n3_:=am_ (below_weaken (bs91_ HB HI0) HL.out hb)
 have n4_:=am_ (KeepBut.trans (kp_ HK) (KeepBut.of_grown hg g) (.inl (by simp[Value.ownBlock])))
 have n5_:=am_ (ho)
 clear BK279
 clear BK291
 clear HI0
 clear HB
 clear HK
 revert n0_ n1_ n2_ n3_ n4_ n5_
 intro BK279 BK291 HI0 HB HK HO345
 clear ho hb hg hat
 obtain⟨Ao41,co41,eo41⟩:=Kd.R_slice HO345.out
 (first|subst eo41|(injection eo41 with f1_ f2_ f3_;have f4_:=f1_.symm;have f5_:=f3_.symm;clear f1_ f2_ f3_;subst f4_;subst f5_))
 refine hK.out _ _ ⟨bc_ BK291 0,bc_ BK291 1,bc_ BK291 2,bc_ BK291 3⟩ (fun hHeld=>?_)
 clear hK K
 refine nm_ 75 ?_
 refine pu_ 6 76 #[true,true,true,true,true,true,true,false] HT_ ?_
 refine last_ (i:=7) (N:=none) #[true,true,true,true,true,true,true,true] rfl rfl (one_of HT_.out (by kernel_rfl)) (by decide) (fun K hK=>?_)
 have hs42:w40.cell? ⟨gb291,3,none⟩=some (.slice none 0 0):=bc_ BK291 3
 have hfs42:=blk_frozen BK291.out 3
 have hns42_0:=NB279_291.out
 have hms42_0:=NB291_279.out
 refine skip_ (w1:=?_) (by rfl) rfl ?_ ?_
 rotate_left
 ·go_simp
  rfl
 refine hK.out _ _ ?_
 clear hK K
 refine done_ (done_of HT_.out (by kernel_rfl)) ?_
 try go_wp2
 go_loopg [] kj27 (fun kq w'=>∃(x1000_4:ByteArray) (x1001_4:Int) (x1002_4:Int) (x1003_4:Bool) (x1004_4:Bool) (x1005_4:Bool) (x1006_4:Bool) (x1007_4:Bool) (x1008_4:Bool) (x292003_4:List (S57)) (u292003:Value),Aside0 (rule_reader_rel.l0 kq x1000_4 x1001_4 x1002_4 x1003_4 x1004_4 x1005_4 x1006_4 x1007_4 x1008_4 (bt t280 0) x292001_12 t313 x292003_4=some (r1,r2,r3,r4,r5,r6,r7,r8,r9,r10,r11,r12,r13))∧Aside0 (kq≤kj27)∧Aside0 (Kd.R k57 57 w' w.heap.size (fun _=>True) u292003 x292003_4)∧Aside0 (w'.heap[gb279]? = some (.cells #[.int .u8 0,.int .i64 0,.bool false,(.slice none 0 0)] 53 (0,0)))∧Aside0 (w'.heap[gb291]? = some (.cells #[.int .u8 (bt t280 0),.int .i64 x292001_12,.bool t313,u292003] 53 (0,0)))∧Aside0 (IsS91 w0 w' g x1000_4 x1001_4 x1002_4 x1003_4 x1004_4 x1005_4 x1006_4 x1007_4 x1008_4)∧Aside0 (KeepBut w w' g none)∧Aside0 (Below w0.heap.size w0 w'))
 case atStart=>exact⟨(t334),(t335),(t336),(t337),(t338),(t339),(t340),(t341),(t342),(y343),(.slice Ao41 y343.length co41),H',⟨Nat.le_refl _⟩,⟨kdR_ (Kd.R_mono (Kd.R_far (Kd.R_types HO345.out BK291.out (by decide)) (fun _ hk=>hk.2) _) (fun _ hk=>trivial))⟩,⟨(bf_ BK279).out⟩,⟨(bp_ BK291).out⟩,⟨is91_ HI0⟩,⟨kp_ HK⟩,⟨bs91_ HB HI0⟩⟩
 clear H'
 obtain⟨x1000_4,x1001_4,x1002_4,x1003_4,x1004_4,x1005_4,x1006_4,x1007_4,x1008_4,x292003_4,u292003,HA,HK4,HO_292003,BK279,BK291,HI0,HK,HB⟩:=hrel
 cases gk with
 | zero=>exact absurd HA.out (by simp[rule_reader_rel.l0])
 | succ k4=>?_
 have H:=HA.out
 clear HA
 simp only[rule_reader_rel.l0] at H
 replace H:=Option.bind_eq_some_iff.mp H
 obtain⟨⟨t346,t347,t348,t349,t350,t351,t352,t353,t354,t355⟩,A430,H⟩:=H
 dsimp only at H
 have A43:=am_ A430
 clear A430
 by_cases c44:t346=true
 ·subst c44
  rw[if_pos rfl] at H
  replace H:=Option.bind_eq_some_iff.mp H
  obtain⟨⟨t356,t357,t358,t359,t360,t361,t362,t363,t364,t365,t366⟩,A450,H⟩:=H
  dsimp only at H
  have A45:=am_ A450
  clear A450
  replace H:=ifn_ H
  obtain⟨c46,H⟩:=H
  have LMc46:=am_ c46
  clear c46
  obtain⟨y367,hy367⟩:∃y_:List (S57),y_=(x292003_4++[(⟨t356,t357⟩:S57)]):=⟨_,rfl⟩
  replace H:(rule_reader_rel.l0 k4 t358 t359 t360 t361 t362 t363 t364 t365 t366 (bt t280 0) x292001_12 t313 y367)=some (r1,r2,r3,r4,r5,r6,r7,r8,r9,r10,r11,r12,r13):=by first|(rw[hy367];with_reducible exact H)|(have H2_:=(Option.bind_some _ _).symm.trans H;rw[hy367];with_reducible exact H2_)|(have H2_:=(Option.bind_some _ _).symm.trans H;with_reducible exact H2_)|with_reducible exact H|(rw[hy367];exact H)|exact H
  have Ny367:=am_ hy367
  clear hy367
  have H':=am_ H
  clear H
  try go_wp2_with (first|((with_reducible refine gate_callee (f:=61) rfl ?_);refine gl_ (some 78) Tryz.func61 #[.pointer (some ⟨g,0,none⟩),.string (⟨#[44]⟩:ByteArray)] ?_;(with_reducible refine(rule_reader_take.calls _ _ _ _ _ _ _ _ _ _ _ _ _ _ _ _ _ _ _ _ _ _ w0 _ ?side1 ?side2 A43.out).mono ?_);(case side1=>exact is91_ HI0);(case side2=>exact bs91_ HB HI0);rintro e w47 ⟨rfl,hi,hb,hk⟩;refine⟨_,rfl,?_⟩;have n0_:=am_ (Kd.R_mono (Kd.R_keep (IsS91.apart (show IsS91 w0 _ g x1000_4 x1001_4 x1002_4 x1003_4 x1004_4 x1005_4 x1006_4 x1007_4 x1008_4 from is91_ HI0) (kr_ HO_292003) (by decide)) hk (fun _ h=>h.2)) (fun _ h=>h.1));have n1_:=am_ (KeepBut.blk hk (bk_ BK279).out NB279_0.out (by simp));have n2_:=am_ (KeepBut.blk hk (bk_ BK291).out NB291_0.out (by simp));have n3_:=am_ (KeepBut.trans (kp_ HK) hk (.inl rfl));have n4_:=am_ (hb);have n5_:=am_ (hi);clear HO_292003;clear BK279;clear BK291;clear HK;clear HB;clear HI0;revert n0_ n1_ n2_ n3_ n4_ n5_;intro HO_292003 BK279 BK291 HK HB HI0;(try clear hb);(try clear hk);(try clear hi)))
  replace HO_292003:=am_ (Kd.R_drew HO_292003.out)
  replace BK279:=am_ (blk_drew BK279.out)
  replace BK291:=am_ (blk_drew BK291.out)
  replace HI0:=am_ (IsS91.drew HI0.out)
  replace HK:=am_ (keep_drew HK.out)
  replace HB:=am_ (below_drew1 HB.out)
  refine start_ (n:=8) (S:=fun w'=>w'.cell? ⟨gb291,0,none⟩=some (.int .u8 (bt t280 0))∧w'.cell? ⟨gb291,1,none⟩=some (.int .i64 x292001_12)∧w'.cell? ⟨gb291,2,none⟩=some (.bool t313)∧w'.cell? ⟨gb291,3,none⟩=some (u292003)) (ds:=[7]) #[false,false,false,false,false,false,false,false] (by kernel_rfl) rfl rfl ⟨bc_ BK291 0,bc_ BK291 1,bc_ BK291 2,bc_ BK291 3⟩ (fun hHeld=>?_);refine with_tabW rule_reader_rel.tab19 rule_reader_rel.bits19 (fun HT_ HW_=>?_)
  generalize w47.drew=w48 at HO_292003 BK279 BK291 HI0 HK HB hHeld ⊢
  refine pu_ 0 79 #[true,false,false,false,false,false,false,false] HT_ ?_
  refine pu_ 2 81 #[true,false,true,false,false,false,false,false] HT_ ?_
  refine tk_ 1 80 #[true,true,true,false,false,false,false,false] HT_ HW_ hHeld rfl (by rintro w' ⟨s0,s1,s2,s3⟩;go_simp;with_reducible rfl) ?_
  refine one_ (i:=3) (N:=some 82) #[true,true,true,true,false,false,false,false] rfl rfl (one_of HT_.out (by kernel_rfl)) (by decide) (fun K hK=>?_)
  refine gs_ Tryz.func115 #[.pointer (some ⟨g,0,none⟩)] ?_
  with_reducible refine(rule_reader_span.calls _ _ _ _ _ _ _ _ _ _ _ _ _ _ _ _ _ _ _ _ _ _ w0 _ ?side1 ?side2 A45.out).mono ?_
  (case side1=>exact is91_ HI0)
  (case side2=>exact bs91_ HB HI0)
  rintro e w49 ⟨rfl,hi,hb,hk⟩
  refine⟨_,rfl,?_⟩
  have n0_:=am_ (Kd.R_mono (Kd.R_keep (IsS91.apart (show IsS91 w0 _ g t347 t348 t349 t350 t351 t352 t353 t354 t355 from is91_ HI0) (kr_ HO_292003) (by decide)) hk (fun _ h=>h.2)) (fun _ h=>h.1))
  have n1_:=am_ (KeepBut.blk hk (bk_ BK279).out NB279_0.out (by simp))
  have n2_:=am_ (KeepBut.blk hk (bk_ BK291).out NB291_0.out (by simp))
  have n3_:=am_ (KeepBut.trans (kp_ HK) hk (.inl rfl))
  have n4_:=am_ (hb)
  have n5_:=am_ (hi)
  clear HO_292003
  clear BK279
  clear BK291
  clear HK
  clear HB
  clear HI0
  revert n0_ n1_ n2_ n3_ n4_ n5_
  intro HO_292003 BK279 BK291 HK HB HI0
  (try clear hb)
  (try clear hb2)
  (try clear hk)
  (try clear hi)
  refine hK.out _ _ ⟨bc_ BK291 0,bc_ BK291 1,bc_ BK291 2,bc_ BK291 3⟩ (fun hHeld=>?_)
  clear hK K
  refine nm_ 82 ?_
  refine one_ (i:=4) (N:=some 83) #[true,true,true,true,true,false,false,false] rfl rfl (one_of HT_.out (by kernel_rfl)) (by decide) (fun K hK=>?_)
  refine value_ (w1:=?_) (v:=?_) (by rfl) rfl ?_ ?_
  rotate_left 2
  ·go_simp
   constructor
   ·rfl
   rfl
  refine hK.out _ _ ⟨(blk_cell (blk_alloc BK291.out _) 0).trans rfl,(blk_cell (blk_alloc BK291.out _) 1).trans rfl,(blk_cell (blk_alloc BK291.out _) 2).trans rfl,(blk_cell (blk_alloc BK291.out _) 3).trans rfl⟩ (fun hHeld=>?_)
  clear hK K
  refine nm_ 83 ?_
  refine one_ (i:=5) (N:=some 84) #[true,true,true,true,true,true,false,false] rfl rfl (one_of HT_.out (by kernel_rfl)) (by decide) (fun K hK=>?_)
  refine Kd.R_append_step k57 w.heap.size (by rfl) (.tmp 80) (.tmp 83) 51 57 (.agg #[(.int .i64 0),(.int .i64 0)]) 16 rfl Tryz.underlying51 info57 rfl (by decide) (by omega) u292003 x292003_4 (⟨t356,t357⟩:S57) [.int .i64 t356,.int .i64 t357] (fun _=>True) (fun _=>False) rfl rfl ?aP (fun _ hk=>hk.elim) ?aF ?aO (Below.refl _ _) ?aS ?aL ?_
  (case aP=>exact k57_mkM _ _ _ (⟨t356,t357⟩:S57))
  (case aF=>exact(fun _ _=>trivial))
  (case aO=>exact(kr_ HO_292003))
  (case aS=>exact(keep_size (w:=w) (g:=g) (row:=none) (kp_ HK)))
  (case aL=>have:=LMc46.out;omega)
  intro v368 w50 ho hb hg hat
  rw[← Ny367.out] at ho
  have n0_:=am_ (blk_grown (bk_ BK279).out hg (Kd.R_ne HO_292003.out BK279.out (by decide)))
  have n1_:=am_ (blk_grown (bk_ BK291).out hg (Kd.R_ne HO_292003.out BK291.out (by decide)))
  have n2_:=am_ (IsS91.grown (is91_ HI0) hg (IsS91.own_ne HI0.out HO_292003.out (by decide)))
  have n3_:=am_ (below_weaken (bs91_ HB HI0) HL.out hb)
  have n4_:=am_ (KeepBut.trans (kp_ HK) (KeepBut.of_grown hg g) (Kd.R_base2 HO_292003.out))
  have n5_:=am_ (ho)
  clear BK279
  clear BK291
  clear HI0
  clear HB
  clear HK
  clear HO_292003
  revert n0_ n1_ n2_ n3_ n4_ n5_
  intro BK279 BK291 HI0 HB HK HO369
  clear ho hb hg hat
  obtain⟨Ao51,co51,eo51⟩:=Kd.R_slice HO369.out
  (first|subst eo51|(injection eo51 with f1_ f2_ f3_;have f4_:=f1_.symm;have f5_:=f3_.symm;clear f1_ f2_ f3_;subst f4_;subst f5_))
  refine hK.out _ _ ⟨bc_ BK291 0,bc_ BK291 1,bc_ BK291 2,bc_ BK291 3⟩ (fun hHeld=>?_)
  clear hK K
  refine nm_ 84 ?_
  refine pu_ 6 85 #[true,true,true,true,true,true,true,false] HT_ ?_
  refine last_ (i:=7) (N:=none) #[true,true,true,true,true,true,true,true] rfl rfl (one_of HT_.out (by kernel_rfl)) (by decide) (fun K hK=>?_)
  have hs52:w50.cell? ⟨gb291,3,none⟩=some (u292003):=bc_ BK291 3
  have hfs52:=blk_frozen BK291.out 3
  have hns52_0:=NB279_291.out
  have hms52_0:=NB291_279.out
  refine skip_ (w1:=?_) (by rfl) rfl ?_ ?_
  rotate_left
  ·go_simp
   rfl
  refine hK.out _ _ ?_
  clear hK K
  refine done_ (done_of HT_.out (by kernel_rfl)) ?_
  try go_wp2
  go_roundg k4
  case measure=>have:=HJ2.out;have:=HJ12.out;have:=HJ27.out;have:=HK4.out;omega
  case rel=>exact⟨(t358),(t359),(t360),(t361),(t362),(t363),(t364),(t365),(t366),(y367),(.slice Ao51 y367.length co51),H',⟨by have:=HJ2.out;have:=HJ12.out;have:=HJ27.out;have:=HK4.out;omega⟩,⟨kdR_ (Kd.R_mono (Kd.R_far (Kd.R_types HO369.out BK291.out (by decide)) (fun _ hk=>hk.2) _) (fun _ hk=>trivial))⟩,⟨(bf_ BK279).out⟩,⟨(bp_ BK291).out⟩,⟨is91_ HI0⟩,⟨kp_ HK⟩,⟨bs91_ HB HI0⟩⟩
 replace c44:=Bool.eq_false_iff.mpr c44
 subst c44
 rw[if_neg (show ¬(false=true) by decide)] at H
 simp only[Option.some.injEq,Prod.mk.injEq] at H
 obtain⟨rfl,rfl,rfl,rfl,rfl,rfl,rfl,rfl,rfl,rfl,rfl,rfl,rfl⟩:=H
 go_wp2_with (first|((with_reducible refine gate_callee (f:=61) rfl ?_);refine gl_ (some 78) Tryz.func61 #[.pointer (some ⟨g,0,none⟩),.string (⟨#[44]⟩:ByteArray)] ?_;(with_reducible refine(rule_reader_take.calls _ _ _ _ _ _ _ _ _ _ _ _ _ _ _ _ _ _ _ _ _ _ w0 _ ?side1 ?side2 A43.out).mono ?_);(case side1=>exact is91_ HI0);(case side2=>exact bs91_ HB HI0);rintro e w53 ⟨rfl,hi,hb,hk⟩;refine⟨_,rfl,?_⟩;have n0_:=am_ (Kd.R_mono (Kd.R_keep (IsS91.apart (show IsS91 w0 _ g x1000_4 x1001_4 x1002_4 x1003_4 x1004_4 x1005_4 x1006_4 x1007_4 x1008_4 from is91_ HI0) (kr_ HO_292003) (by decide)) hk (fun _ h=>h.2)) (fun _ h=>h.1));have n1_:=am_ (KeepBut.blk hk (bk_ BK279).out NB279_0.out (by simp));have n2_:=am_ (KeepBut.blk hk (bk_ BK291).out NB291_0.out (by simp));have n3_:=am_ (KeepBut.trans (kp_ HK) hk (.inl rfl));have n4_:=am_ (hb);have n5_:=am_ (hi);clear HO_292003;clear BK279;clear BK291;clear HK;clear HB;clear HI0;revert n0_ n1_ n2_ n3_ n4_ n5_;intro HO_292003 BK279 BK291 HK HB HI0;(try clear hb);(try clear hk);(try clear hi);have hnb54:=NB291_279.out;have hnc54:=NB279_291.out;have hnb55:=NB291_0.out;have hnc55:=NB0_291.out;obtain⟨hcz56_0,hcz56_1,hcz56_2,hcz56_3,hfz56_0,hfz56_1,hfz56_2,hfz56_3⟩:=bo4_ BK291;have hnb57:=NB279_0.out;have hnc57:=NB0_279.out;obtain⟨hcz58_0,hcz58_1,hcz58_2,hcz58_3,hfz58_0,hfz58_1,hfz58_2,hfz58_3⟩:=bo4_ BK279;obtain⟨Ao59,co59,eo59⟩:=Kd.R_slice HO_292003.out;subst eo59))
 refine bodyPost_ret (results_cell_row rfl _ _ gb279 53 #[.int .u8 (bt t280 0),.int .i64 x292001_12,.bool t313,.slice Ao59 x292003_4.length co59] (0,0) _ rfl ((bp_ BK279).out) Tryz.underlying53 rfl (by kernel_rfl)) rfl ?_
 exact⟨_,by first|rfl|(simp[errW_none,errW_some] <;> rfl)|(simp[*,errW_none,errW_some] <;> first|rfl|exact given_isEmpty _|exact(given_isEmpty _).symm),kdR_ (Kd.R_mono (Kd.R_far (Kd.R_far (Kd.R_far (Kd.R_far (Kd.R_types HO_292003.out BK279.out (by decide)) (fun _ hk=>hk.2) _) (fun _ hk=>hk.2) _) (fun _ hk=>hk.2) _) (fun _ hk=>hk.2) _) (fun _ hk=>trivial)),is91_ HI0,bs91_ HB HI0,kp_ HK⟩

def rule_reader_all.l0:Nat→List (S53)→ByteArray→Int→Int→Bool→Bool→Bool→Bool→Bool→Bool→Option ((List (S53)) × ByteArray × Int × Int × Bool × Bool × Bool × Bool × Bool × Bool)
 | 0,_,_,_,_,_,_,_,_,_,_=>none
 | k+1,x3,x1000,x1001,x1002,x1003,x1004,x1005,x1006,x1007,x1008=>(rule_reader_next.f k x1000 x1001 x1002 x1003 x1004 x1005 x1006 x1007 x1008 (⟨#[97,110,100]⟩:ByteArray)).bind fun bt388=>(if bt388.1=true then ((rule_reader_rel.f k bt388.2.1 bt388.2.2.1 bt388.2.2.2.1 bt388.2.2.2.2.1 bt388.2.2.2.2.2.1 bt388.2.2.2.2.2.2.1 bt388.2.2.2.2.2.2.2.1 bt388.2.2.2.2.2.2.2.2.1 bt388.2.2.2.2.2.2.2.2.2).bind fun bt398=>(if x3.length<2932031007402 then (rule_reader_all.l0 k (x3++[(⟨bt398.1,bt398.2.1,bt398.2.2.1,bt398.2.2.2.1⟩:S53)]) bt398.2.2.2.2.1 bt398.2.2.2.2.2.1 bt398.2.2.2.2.2.2.1 bt398.2.2.2.2.2.2.2.1 bt398.2.2.2.2.2.2.2.2.1 bt398.2.2.2.2.2.2.2.2.2.1 bt398.2.2.2.2.2.2.2.2.2.2.1 bt398.2.2.2.2.2.2.2.2.2.2.2.1 bt398.2.2.2.2.2.2.2.2.2.2.2.2) else (none))) else (some (x3,bt388.2.1,bt388.2.2.1,bt388.2.2.2.1,bt388.2.2.2.2.1,bt388.2.2.2.2.2.1,bt388.2.2.2.2.2.2.1,bt388.2.2.2.2.2.2.2.1,bt388.2.2.2.2.2.2.2.2.1,bt388.2.2.2.2.2.2.2.2.2)))
def rule_reader_all.f (k:Nat) (s0_0:ByteArray) (s0_1:Int) (s0_2:Int) (s0_3:Bool) (s0_4:Bool) (s0_5:Bool) (s0_6:Bool) (s0_7:Bool) (s0_8:Bool):Option ((List (S53)) × ByteArray × Int × Int × Bool × Bool × Bool × Bool × Bool × Bool):=(rule_reader_rel.f k s0_0 s0_1 s0_2 s0_3 s0_4 s0_5 s0_6 s0_7 s0_8).bind fun bt370=>(rule_reader_all.l0 k (([(⟨bt370.1,bt370.2.1,bt370.2.2.1,bt370.2.2.2.1⟩:S53)]:List (S53))) bt370.2.2.2.2.1 bt370.2.2.2.2.2.1 bt370.2.2.2.2.2.2.1 bt370.2.2.2.2.2.2.2.1 bt370.2.2.2.2.2.2.2.2.1 bt370.2.2.2.2.2.2.2.2.2.1 bt370.2.2.2.2.2.2.2.2.2.2.1 bt370.2.2.2.2.2.2.2.2.2.2.2.1 bt370.2.2.2.2.2.2.2.2.2.2.2.2)
theorem rule_reader_all.calls (k:Nat) (g:Nat) (s0_0:ByteArray) (s0_1:Int) (s0_2:Int) (s0_3:Bool) (s0_4:Bool) (s0_5:Bool) (s0_6:Bool) (s0_7:Bool) (s0_8:Bool) (r1:List (S53)) (r2:ByteArray) (r3:Int) (r4:Int) (r5:Bool) (r6:Bool) (r7:Bool) (r8:Bool) (r9:Bool) (r10:Bool) (w0 w:World) (hI:IsS91 w0 w g s0_0 s0_1 s0_2 s0_3 s0_4 s0_5 s0_6 s0_7 s0_8) (hB:Below w0.heap.size w0 w) (h:rule_reader_all.f k s0_0 s0_1 s0_2 s0_3 s0_4 s0_5 s0_6 s0_7 s0_8=some (r1,r2,r3,r4,r5,r6,r7,r8,r9,r10)) :
  Calls Tryz.prog 86 #[.pointer (some ⟨g,0,none⟩)] w fun e w'=>∃v0_:Value,e= .returned (v0_)∧Kd.N k53 53 w' w.heap.size (fun k_=>(w.heap.size≤k_)) v0_ r1∧IsS91 w0 w' g r2 r3 r4 r5 r6 r7 r8 r9 r10∧Below w0.heap.size w0 w'∧KeepBut w w' g none:=by
 have HI0:=am_ hI
 have HK:=am_ (KeepBut.refl w g none)
 have HL:=am_ hB.size
 clear hI
 have HW0:=am_ hB.size
 have HB:=am_ hB
 clear hB
 have H:=h
 clear h
 unfold rule_reader_all.f at H
 replace H:=Option.bind_eq_some_iff.mp H
 obtain⟨⟨t370,t371,t372,t373,t376,t377,t378,t379,t380,t381,t382,t383,t384⟩,A20,H⟩:=H
 dsimp only at H
 have A2:=am_ A20
 clear A20
 obtain⟨y385,hy385⟩:∃y_:List (S53),y_=(([(⟨t370,t371,t372,t373⟩:S53)]:List (S53))):=⟨_,rfl⟩
 replace H:(rule_reader_all.l0 k y385 t376 t377 t378 t379 t380 t381 t382 t383 t384)=some (r1,r2,r3,r4,r5,r6,r7,r8,r9,r10):=by first|(rw[hy385];with_reducible exact H)|(have H2_:=(Option.bind_some _ _).symm.trans H;rw[hy385];with_reducible exact H2_)|(have H2_:=(Option.bind_some _ _).symm.trans H;with_reducible exact H2_)|with_reducible exact H|(rw[hy385];exact H)|exact H
 have Ny385:=am_ hy385
 clear hy385
 have H':=am_ H
 clear H
 go_enter Tryz.func86,Tryz.ntmps86
 go_wp2_with (first|((with_reducible refine gate_callee (f:=105) rfl ?_);refine gl_ (some 5) Tryz.func105 #[.pointer (some ⟨g,0,none⟩)] ?_;(with_reducible refine(rule_reader_rel.calls _ _ _ _ _ _ _ _ _ _ _ _ _ _ _ _ _ _ _ _ _ _ _ _ w0 _ ?side1 ?side2 A2.out).mono ?_);(case side1=>exact is91_ HI0);(case side2=>exact bs91_ HB HI0);rintro e w3 ⟨v374,rfl,ho0,hi,hb,hk⟩;refine⟨_,rfl,?_⟩;have HO375:=am_ (Kd.R_lower (Kd.R_newM (M:=fun k_=>(w.heap.size≤k_)) ho0 (keep_size (w:=w) (g:=g) (row:=none) (kp_ HK)) (fun k_ h_=>h_)) (keep_size (w:=w) (g:=g) (row:=none) (kp_ HK)));replace HK:=am_ (KeepBut.trans (kp_ HK) hk (.inl rfl));replace HB:=am_ (hb);replace HI0:=am_ (hi);(try clear hb);(try clear hk);(try clear hi);(try clear ho0);obtain⟨Ao4,co4,eo4⟩:=Kd.R_slice HO375.out;subst eo4)|((with_reducible refine gate_dst (N:=6) rfl ?_);refine Kd.N_lit k53 _ 53 ?hg (N':=6) ?hd (xs:=([(⟨t370,t371,t372,t373⟩:S53)]:List (S53))) (inner:=[.int .u8 t370,.int .i64 t371,.bool t372,.slice Ao4 t373.length co4]) (ok:=(fun k_=>(w.heap.size≤k_)∧k_≠g)) (okp:=(fun k_=>(w.heap.size≤k_)∧k_≠g)) ?hr ?hp (fun _ hk=>hk) ((show ∀k_,w3.heap.size≤k_→(fun k_=>(w.heap.size≤k_)∧k_≠g) k_ from fun k_ hk=>⟨(Nat.le_trans (keep_size (w:=w) (g:=g) (row:=none) (kp_ HK)) hk),IsS91.fresh (is91_ HI0) k_ hk⟩) _ (Nat.le_refl _)) (Below.refl _ _) (Nat.le_refl _) (by simp) ?_;(case hd=>rfl);(case hg=>rfl);(case hr=>first|(go_simp;done)|(go_simp;rfl));(case hp=>exact(Reps.c4 (show Kd.FK k53 _ _ (⟨t370,t371,t372,t373⟩:S53) [.int .u8 t370,.int .i64 t371,.bool t372,.slice Ao4 t373.length co4] from(k53_mkF _ _ (⟨t370,t371,t372,t373⟩:S53) (Kd.R_reads' (Kd.R_mono (ok':=(fun k_=>(w.heap.size≤k_)∧k_≠g)) (IsS91.apart HI0.out (HO375.out) (by decide)) (fun k_ hk=>⟨hk.1.1,hk.2⟩))).2.1 (Kd.R_F (Kd.R_mono (ok':=(fun k_=>(w.heap.size≤k_)∧k_≠g)) (IsS91.apart HI0.out (HO375.out) (by decide)) (fun k_ hk=>⟨hk.1.1,hk.2⟩))))) (Reps.none _ _)));intro v386 w5 ho6 hb hg_ hnew_;clear hg_ hnew_;(first|rw[← Ny385.out] at ho6|(simp only[Int.reduceToNat] at ho6;rw[← Ny385.out] at ho6));have n0_:=am_ (Kd.N_lower ho6 (keep_size (w:=w) (g:=g) (row:=none) (kp_ HK)));have n1_:=am_ (IsS91.below (is91_ HI0) hb);have n2_:=am_ (KeepBut.trans (kp_ HK) (KeepBut.of_below hb g none) (.inl rfl));have n3_:=am_ (below_step (bs91_ HB HI0) hb);clear HI0;clear HK;clear HB;clear HO375;revert n0_ n1_ n2_ n3_;intro HO387 HI0 HK HB;clear hb ho6))
 go_loopg [3] k (fun kq v3 w'=>∃(x3_1:List (S53)) (x1000_1:ByteArray) (x1001_1:Int) (x1002_1:Int) (x1003_1:Bool) (x1004_1:Bool) (x1005_1:Bool) (x1006_1:Bool) (x1007_1:Bool) (x1008_1:Bool),Aside0 (rule_reader_all.l0 kq x3_1 x1000_1 x1001_1 x1002_1 x1003_1 x1004_1 x1005_1 x1006_1 x1007_1 x1008_1=some (r1,r2,r3,r4,r5,r6,r7,r8,r9,r10))∧Aside0 (kq≤k)∧Aside0 (Kd.N k53 53 w' w.heap.size (fun k_=>(w.heap.size≤k_)∧k_≠g) v3 x3_1)∧Aside0 (IsS91 w0 w' g x1000_1 x1001_1 x1002_1 x1003_1 x1004_1 x1005_1 x1006_1 x1007_1 x1008_1)∧Aside0 (KeepBut w w' g none)∧Aside0 (Below w0.heap.size w0 w'))
 case atStart=>exact⟨(y385),(t376),(t377),(t378),(t379),(t380),(t381),(t382),(t383),(t384),H',⟨Nat.le_refl _⟩,⟨kdN_ HO387.out⟩,⟨is91_ HI0⟩,⟨kp_ HK⟩,⟨bs91_ HB HI0⟩⟩
 clear H'
 obtain⟨x3_1,x1000_1,x1001_1,x1002_1,x1003_1,x1004_1,x1005_1,x1006_1,x1007_1,x1008_1,HA,HK1,HO_3,HI0,HK,HB⟩:=hrel
 cases gk with
 | zero=>exact absurd HA.out (by simp[rule_reader_all.l0])
 | succ k1=>?_
 have H:=HA.out
 clear HA
 simp only[rule_reader_all.l0] at H
 replace H:=Option.bind_eq_some_iff.mp H
 obtain⟨⟨t388,t389,t390,t391,t392,t393,t394,t395,t396,t397⟩,A70,H⟩:=H
 dsimp only at H
 have A7:=am_ A70
 clear A70
 by_cases c8:t388=true
 ·subst c8
  rw[if_pos rfl] at H
  replace H:=Option.bind_eq_some_iff.mp H
  obtain⟨⟨t398,t399,t400,t401,t404,t405,t406,t407,t408,t409,t410,t411,t412⟩,A90,H⟩:=H
  dsimp only at H
  have A9:=am_ A90
  clear A90
  replace H:=ifn_ H
  obtain⟨c10,H⟩:=H
  have LMc10:=am_ c10
  clear c10
  obtain⟨y413,hy413⟩:∃y_:List (S53),y_=(x3_1++[(⟨t398,t399,t400,t401⟩:S53)]):=⟨_,rfl⟩
  replace H:(rule_reader_all.l0 k1 y413 t404 t405 t406 t407 t408 t409 t410 t411 t412)=some (r1,r2,r3,r4,r5,r6,r7,r8,r9,r10):=by first|(rw[hy413];with_reducible exact H)|(have H2_:=(Option.bind_some _ _).symm.trans H;rw[hy413];with_reducible exact H2_)|(have H2_:=(Option.bind_some _ _).symm.trans H;with_reducible exact H2_)|with_reducible exact H|(rw[hy413];exact H)|exact H
  have Ny413:=am_ hy413
  clear hy413
  have H':=am_ H
  clear H
  go_wp2_with (first|((with_reducible refine gate_callee (f:=87) rfl ?_);refine gl_ (some 8) Tryz.func87 #[.pointer (some ⟨g,0,none⟩),.string (⟨#[97,110,100]⟩:ByteArray)] ?_;(with_reducible refine(rule_reader_next.calls _ _ _ _ _ _ _ _ _ _ _ _ _ _ _ _ _ _ _ _ _ _ w0 _ ?side1 ?side2 A7.out).mono ?_);(case side1=>exact is91_ HI0);(case side2=>exact bs91_ HB HI0);rintro e w11 ⟨rfl,hi,hb,hk⟩;refine⟨_,rfl,?_⟩;replace HO_3:=am_ (Kd.N_mono (Kd.N_keep (Kd.N_mono (ok:=fun k_=>(((w.heap.size≤k_))∧k_≠g)) (krN_ HO_3) (fun k_ hk_=>(⟨hk_,hk_.2⟩:_∧k_≠g))) hk (fun _ h=>h.2)) (fun _ h=>h.1));replace HK:=am_ (KeepBut.trans (kp_ HK) hk (.inl rfl));replace HB:=am_ (hb);replace HI0:=am_ (hi);(try clear hb);(try clear hk);(try clear hi))|((with_reducible refine gate_callee (f:=105) rfl ?_);refine gl_ (some 11) Tryz.func105 #[.pointer (some ⟨g,0,none⟩)] ?_;(with_reducible refine(rule_reader_rel.calls _ _ _ _ _ _ _ _ _ _ _ _ _ _ _ _ _ _ _ _ _ _ _ _ w0 _ ?side1 ?side2 A9.out).mono ?_);(case side1=>exact is91_ HI0);(case side2=>exact bs91_ HB HI0);rintro e w12 ⟨v402,rfl,ho0,hi,hb,hk⟩;refine⟨_,rfl,?_⟩;have HO403:=am_ (Kd.R_lower (Kd.R_newM (M:=fun k_=>(w.heap.size≤k_)) ho0 (keep_size (w:=w) (g:=g) (row:=none) (kp_ HK)) (fun k_ h_=>h_)) (keep_size (w:=w) (g:=g) (row:=none) (kp_ HK)));replace HO_3:=am_ (Kd.N_mono (Kd.N_told (Kd.N_oldK (Kd.N_mono (ok:=fun k_=>(((w.heap.size≤k_))∧k_≠g)) (krN_ HO_3) (fun k_ hk_=>(⟨hk_,hk_.2⟩:_∧k_≠g))) hk) (Kd.R_base ho0)) (fun _ h_=>h_.1));replace HK:=am_ (KeepBut.trans (kp_ HK) hk (.inl rfl));replace HB:=am_ (hb);replace HI0:=am_ (hi);(try clear hb);(try clear hk);(try clear hi);(try clear ho0);obtain⟨Ao14,co14,eo14⟩:=Kd.R_slice HO403.out;subst eo14)|((with_reducible refine gate_builtin (b:= .append) (xs:= #[.tmp 9,.tmp 12]) rfl ?_);at_builtin;refine Kd.N_append k53 w.heap.size rfl (.tmp 9) (.tmp 12) 54 53 (.agg #[(.int .u8 0),(.int .i64 0),(.bool false),(.slice none 0 0)]) 48 rfl Tryz.underlying54 info53 rfl (by decide) (by omega) u3 x3_1 (⟨t398,t399,t400,t401⟩:S53) [.int .u8 t398,.int .i64 t399,.bool t400,.slice Ao14 t401.length co14] (fun k_=>(w.heap.size≤k_)∧k_≠g) (fun k_=>((fun k_=>(w.heap.size≤k_)∧k_≠g)) k_∧some k_≠(u3:Value).ownBlock) rfl rfl ?aP (fun _ hk=>hk) ?aF ?aO (Below.refl _ _) ?aS ?aL ?_;(case aP=>exact(k53_mkF _ _ (⟨t398,t399,t400,t401⟩:S53) (Kd.R_reads' (Kd.R_mono (ok':=(fun k_=>((fun k_=>(w.heap.size≤k_)∧k_≠g)) k_∧some k_≠(u3:Value).ownBlock)) (IsS91.apart HI0.out (Kd.R_apart' (HO403.out) (Kd.N_typed HO_3.out) (by decide)) (by decide)) (fun k_ hk=>⟨⟨hk.1.1.1,hk.2⟩,hk.1.2⟩))).2.1 (Kd.R_F (Kd.R_mono (ok':=(fun k_=>((fun k_=>(w.heap.size≤k_)∧k_≠g)) k_∧some k_≠(u3:Value).ownBlock)) (IsS91.apart HI0.out (Kd.R_apart' (HO403.out) (Kd.N_typed HO_3.out) (by decide)) (by decide)) (fun k_ hk=>⟨⟨hk.1.1.1,hk.2⟩,hk.1.2⟩)))));(case aF=>exact(fun k_ hk=>⟨(Nat.le_trans (keep_size (w:=w) (g:=g) (row:=none) (kp_ HK)) hk),IsS91.fresh (is91_ HI0) k_ hk⟩));(case aO=>exact(kdN_ (Kd.N_mono HO_3.out (fun _ hk=>⟨hk.1.1,hk.1.2⟩))));(case aS=>exact(keep_size (w:=w) (g:=g) (row:=none) (kp_ HK)));(case aL=>have:=LMc10.out;omega);intro v414 w13 ho hb hg hat;rw[← Ny413.out] at ho;have n0_:=am_ (IsS91.grown (is91_ HI0) hg (IsS91.own_neN HI0.out HO_3.out (by decide)));have n1_:=am_ (below_weaken (bs91_ HB HI0) HL.out hb);have n2_:=am_ (KeepBut.trans (kp_ HK) (KeepBut.of_grown hg g) (Kd.N_base2 HO_3.out));have n3_:=am_ (ho);clear HI0;clear HB;clear HK;clear HO_3;clear HO403;revert n0_ n1_ n2_ n3_;intro HI0 HB HK HO415;clear ho hb hg hat))
  go_roundg k1
  case measure=>have:=HK1.out;omega
  case rel=>exact⟨(y413),(t404),(t405),(t406),(t407),(t408),(t409),(t410),(t411),(t412),H',⟨by have:=HK1.out;omega⟩,⟨kdN_ HO415.out⟩,⟨is91_ HI0⟩,⟨kp_ HK⟩,⟨bs91_ HB HI0⟩⟩
 replace c8:=Bool.eq_false_iff.mpr c8
 subst c8
 rw[if_neg (show ¬(false=true) by decide)] at H
 simp only[Option.some.injEq,Prod.mk.injEq] at H
 obtain⟨rfl,rfl,rfl,rfl,rfl,rfl,rfl,rfl,rfl,rfl⟩:=H
 go_wp2_with (first|((with_reducible refine gate_callee (f:=87) rfl ?_);refine gl_ (some 8) Tryz.func87 #[.pointer (some ⟨g,0,none⟩),.string (⟨#[97,110,100]⟩:ByteArray)] ?_;(with_reducible refine(rule_reader_next.calls _ _ _ _ _ _ _ _ _ _ _ _ _ _ _ _ _ _ _ _ _ _ w0 _ ?side1 ?side2 A7.out).mono ?_);(case side1=>exact is91_ HI0);(case side2=>exact bs91_ HB HI0);rintro e w15 ⟨rfl,hi,hb,hk⟩;refine⟨_,rfl,?_⟩;replace HO_3:=am_ (Kd.N_mono (Kd.N_keep (Kd.N_mono (ok:=fun k_=>(((w.heap.size≤k_))∧k_≠g)) (krN_ HO_3) (fun k_ hk_=>(⟨hk_,hk_.2⟩:_∧k_≠g))) hk (fun _ h=>h.2)) (fun _ h=>h.1));replace HK:=am_ (KeepBut.trans (kp_ HK) hk (.inl rfl));replace HB:=am_ (hb);replace HI0:=am_ (hi);(try clear hb);(try clear hk);(try clear hi)))
 go_ret
 exact⟨_,by first|rfl|(simp[errW_none,errW_some] <;> rfl)|(simp[*,errW_none,errW_some] <;> first|rfl|exact given_isEmpty _|exact(given_isEmpty _).symm),kdN_ (Kd.N_mono HO_3.out (fun _ hk=>hk.1)),is91_ HI0,bs91_ HB HI0,kp_ HK⟩

def stringslite_Cut.f (a0:ByteArray) (a1:ByteArray):Option (ByteArray × ByteArray × Bool):=(stringslite_Index.f a0 a1).bind fun t416=>(if t416≥0 then (if 0≤t416 then (if t416≤(a0.size:Int) then (if 0≤(wrap64 (t416+(a1.size:Int))) then (if (wrap64 (t416+(a1.size:Int)))≤(a0.size:Int) then (some (a0.extract 0 (t416:Int).toNat,a0.extract ((wrap64 (t416+(a1.size:Int))):Int).toNat a0.size,true)) else (none)) else (none)) else (none)) else (none)) else (some (a0,(⟨#[]⟩:ByteArray),false)))
theorem stringslite_Cut.calls (a0:ByteArray) (a1:ByteArray) (r1:ByteArray) (r2:ByteArray) (r3:Bool) (w:World) (h:stringslite_Cut.f a0 a1=some (r1,r2,r3)) :
  Calls Tryz.prog 116 #[.string a0,.string a1] w fun e w'=>e= .returned (.tuple #[.string r1,.string r2,.bool r3])∧Drawn0 w w':=by
 have H:=h
 clear h
 unfold stringslite_Cut.f at H
 replace H:=Option.bind_eq_some_iff.mp H
 obtain⟨t416,A30,H⟩:=H
 have A3:=am_ A30
 clear A30
 by_cases c4:t416≥0
 ·rw[if_pos c4] at H
  have c4b0:decide (0≤t416)=true:=decide_eq_true c4
  clear c4
  replace H:=ifn_ H
  obtain⟨c5,H⟩:=H
  have c5b0:=eq_true c5
  have c5b1:decide (0≤t416)=true:=decide_eq_true c5
  clear c5
  replace H:=ifn_ H
  obtain⟨c6,H⟩:=H
  have c6b0:=eq_true c6
  have c6b1:decide (t416≤(a0.size:Int))=true:=decide_eq_true c6
  clear c6
  obtain⟨ji7,hji7⟩:∃j_:Int,(wrap64 (t416+(a1.size:Int)))=j_:=⟨_,rfl⟩
  replace H:(if 0≤(ji7) then (if (ji7)≤(a0.size:Int) then (some (a0.extract 0 (t416:Int).toNat,a0.extract ((ji7):Int).toNat a0.size,true)) else (none)) else (none))=some (r1,r2,r3):=by first|(rw[hji7] at H;exact H)|(simp only[hji7] at H ⊢;exact H)
  (try rw[hji7] at A3)
  have hji7w:(IntKind.i64.wrap (t416+(a1.size:Int)))=ji7:=(i64_w _).trans hji7
  replace H:=ifn_ H
  obtain⟨c8,H⟩:=H
  have c8b0:=eq_true c8
  have c8b1:decide (0≤(ji7))=true:=decide_eq_true c8
  clear c8
  replace H:=ifn_ H
  obtain⟨c9,H⟩:=H
  have c9b0:=eq_true c9
  have c9b1:decide ((ji7)≤(a0.size:Int))=true:=decide_eq_true c9
  clear c9
  simp only[Option.some.injEq,Prod.mk.injEq] at H
  obtain⟨rfl,rfl,rfl⟩:=H
  go_enter Tryz.func116,Tryz.ntmps116
  go_wp2_with (first|(go_at_call 125;(with_reducible refine(stringslite_Index.calls _ _ _ _ A3.out).mono ?_);rintro e w' ⟨rfl,⟨nd,rfl⟩⟩;(try first|exact⟨rfl,_,World.drewN_drewN _ _ _⟩|exact⟨rfl,_,Eq.trans (World.drewN_drewN _ _ _) (congrArg (World.drewN _) (Nat.add_assoc _ _ _))⟩)))
  repeat(go_quiet (first|(go_at_call 125;(with_reducible refine(stringslite_Index.calls _ _ _ _ A3.out).mono ?_);rintro e w' ⟨rfl,⟨nd,rfl⟩⟩;(try first|exact⟨rfl,_,World.drewN_drewN _ _ _⟩|exact⟨rfl,_,Eq.trans (World.drewN_drewN _ _ _) (congrArg (World.drewN _) (Nat.add_assoc _ _ _))⟩)));try go_wp2_with (first|(go_at_call 125;(with_reducible refine(stringslite_Index.calls _ _ _ _ A3.out).mono ?_);rintro e w' ⟨rfl,⟨nd,rfl⟩⟩;(try first|exact⟨rfl,_,World.drewN_drewN _ _ _⟩|exact⟨rfl,_,Eq.trans (World.drewN_drewN _ _ _) (congrArg (World.drewN _) (Nat.add_assoc _ _ _))⟩))))
  go_ret3
  exact⟨by first|rfl|(simp;done)|(simp only[← hji7] <;> (first|rfl|simp))|(simp[*];done),by repeat(first|exact Drawn0.refl _|apply Drawn0.step)⟩
 rw[if_neg c4] at H
 have c4b0:decide (0≤t416)=false:=decide_eq_false c4
 clear c4
 simp only[Option.some.injEq,Prod.mk.injEq] at H
 obtain⟨rfl,rfl,rfl⟩:=H
 go_enter Tryz.func116,Tryz.ntmps116
 go_wp2_with (first|(go_at_call 125;(with_reducible refine(stringslite_Index.calls _ _ _ _ A3.out).mono ?_);rintro e w' ⟨rfl,⟨nd,rfl⟩⟩;(try first|exact⟨rfl,_,World.drewN_drewN _ _ _⟩|exact⟨rfl,_,Eq.trans (World.drewN_drewN _ _ _) (congrArg (World.drewN _) (Nat.add_assoc _ _ _))⟩)))
 repeat(go_quiet (first|(go_at_call 125;(with_reducible refine(stringslite_Index.calls _ _ _ _ A3.out).mono ?_);rintro e w' ⟨rfl,⟨nd,rfl⟩⟩;(try first|exact⟨rfl,_,World.drewN_drewN _ _ _⟩|exact⟨rfl,_,Eq.trans (World.drewN_drewN _ _ _) (congrArg (World.drewN _) (Nat.add_assoc _ _ _))⟩)));try go_wp2_with (first|(go_at_call 125;(with_reducible refine(stringslite_Index.calls _ _ _ _ A3.out).mono ?_);rintro e w' ⟨rfl,⟨nd,rfl⟩⟩;(try first|exact⟨rfl,_,World.drewN_drewN _ _ _⟩|exact⟨rfl,_,Eq.trans (World.drewN_drewN _ _ _) (congrArg (World.drewN _) (Nat.add_assoc _ _ _))⟩))))
 go_ret3
 exact⟨by first|rfl|(simp;done)|(simp[*];done)|(simp;first|exact given_isEmpty _|exact(given_isEmpty _).symm)|(unfold wrap64;omega)|(congr 1;unfold wrap64;omega),by repeat(first|exact Drawn0.refl _|apply Drawn0.step)⟩

def strings_Cut.f (a0:ByteArray) (a1:ByteArray):Option (ByteArray × ByteArray × Bool):=(stringslite_Cut.f a0 a1).bind fun bt417=>(some (bt417.1,bt417.2.1,bt417.2.2))
theorem strings_Cut.calls (a0:ByteArray) (a1:ByteArray) (r1:ByteArray) (r2:ByteArray) (r3:Bool) (w:World) (h:strings_Cut.f a0 a1=some (r1,r2,r3)) :
    Calls Tryz.prog 106 #[.string a0,.string a1] w fun e w'=>e= .returned (.tuple #[.string r1,.string r2,.bool r3])∧Drawn0 w w':=by
  have H:=h
  clear h
  unfold strings_Cut.f at H
  replace H:=Option.bind_eq_some_iff.mp H
  obtain⟨⟨t417,t418,t419⟩,A30,H⟩:=H
  dsimp only at H
  have A3:=am_ A30
  clear A30
  simp only[Option.some.injEq,Prod.mk.injEq] at H
  obtain⟨rfl,rfl,rfl⟩:=H
  go_enter Tryz.func106,Tryz.ntmps106
  go_wp2_with (first|((with_reducible refine gate_callee (f:=116) rfl ?_);refine gl_ (some 9) Tryz.func116 #[.string a0,.string a1] ?_;(with_reducible refine(stringslite_Cut.calls _ _ _ _ _ _ A3.out).mono ?_);rintro e w' ⟨rfl,⟨nd,rfl⟩⟩;refine⟨_,rfl,?_⟩))
  go_ret3
  exact⟨by first|rfl|(simp;done)|(simp[*];done)|(simp;first|exact given_isEmpty _|exact(given_isEmpty _).symm)|(unfold wrap64;omega)|(congr 1;unfold wrap64;omega),by repeat(first|exact Drawn0.refl _|apply Drawn0.step)⟩

def rule_reader_sample.f (k:Nat) (s0_0:ByteArray) (s0_1:Int) (s0_2:Int) (s0_3:Bool) (s0_4:Bool) (s0_5:Bool) (s0_6:Bool) (s0_7:Bool) (s0_8:Bool):Option (ByteArray × ByteArray × Int × Int × Bool × Bool × Bool × Bool × Bool × Bool):=(rule_reader_peek.f k s0_0 s0_1 s0_2 s0_3 s0_4 s0_5 s0_6 s0_7 s0_8).bind fun bt420=>(if bt420.1=64 then (if 0≤bt420.2.2.1 then (if bt420.2.2.1≤(bt420.2.1.size:Int) then ((strings_Cut.f (bt420.2.1.extract (bt420.2.2.1:Int).toNat bt420.2.1.size) (⟨#[59]⟩:ByteArray)).bind fun bt430=>((strings_TrimRight.f bt430.1 (⟨#[32]⟩:ByteArray)).bind fun t433=>(some (t433,bt420.2.1,wrap64 (bt420.2.2.1+(bt430.1.size:Int)),bt420.2.2.2.1,bt420.2.2.2.2.1,bt420.2.2.2.2.2.1,bt420.2.2.2.2.2.2.1,bt420.2.2.2.2.2.2.2.1,bt420.2.2.2.2.2.2.2.2.1,bt420.2.2.2.2.2.2.2.2.2)))) else (none)) else (none)) else (some ((⟨#[]⟩:ByteArray),bt420.2.1,bt420.2.2.1,bt420.2.2.2.1,bt420.2.2.2.2.1,bt420.2.2.2.2.2.1,bt420.2.2.2.2.2.2.1,bt420.2.2.2.2.2.2.2.1,bt420.2.2.2.2.2.2.2.2.1,bt420.2.2.2.2.2.2.2.2.2)))
theorem rule_reader_sample.calls (k:Nat) (g:Nat) (s0_0:ByteArray) (s0_1:Int) (s0_2:Int) (s0_3:Bool) (s0_4:Bool) (s0_5:Bool) (s0_6:Bool) (s0_7:Bool) (s0_8:Bool) (r1:ByteArray) (r2:ByteArray) (r3:Int) (r4:Int) (r5:Bool) (r6:Bool) (r7:Bool) (r8:Bool) (r9:Bool) (r10:Bool) (w0 w:World) (hI:IsS91 w0 w g s0_0 s0_1 s0_2 s0_3 s0_4 s0_5 s0_6 s0_7 s0_8) (hB:Below w0.heap.size w0 w) (h:rule_reader_sample.f k s0_0 s0_1 s0_2 s0_3 s0_4 s0_5 s0_6 s0_7 s0_8=some (r1,r2,r3,r4,r5,r6,r7,r8,r9,r10)) :
  Calls Tryz.prog 88 #[.pointer (some ⟨g,0,none⟩)] w fun e w'=>e= .returned (.string r1)∧IsS91 w0 w' g r2 r3 r4 r5 r6 r7 r8 r9 r10∧Below w0.heap.size w0 w'∧KeepBut w w' g none:=by
 have HI0:=am_ hI
 have HK:=am_ (KeepBut.refl w g none)
 have HL:=am_ hB.size
 clear hI
 have HW0:=am_ hB.size
 have HB:=am_ hB
 clear hB
 have H:=h
 clear h
 unfold rule_reader_sample.f at H
 replace H:=Option.bind_eq_some_iff.mp H
 obtain⟨⟨t420,t421,t422,t423,t424,t425,t426,t427,t428,t429⟩,A20,H⟩:=H
 dsimp only at H
 have A2:=am_ A20
 clear A20
 by_cases c3:t420=64
 ·rw[if_pos c3] at H
  have c3b0:(t420==64)=true:=beq_iff_eq.mpr c3
  have c3b1:(t420 !=64)=false:=bne_eq_false_iff_eq.mpr c3
  clear c3
  replace H:=ifn_ H
  obtain⟨c4,H⟩:=H
  have c4b0:=eq_true c4
  have c4b1:decide (0≤t422)=true:=decide_eq_true c4
  clear c4
  replace H:=ifn_ H
  obtain⟨c5,H⟩:=H
  have c5b0:=eq_true c5
  have c5b1:decide (t422≤(t421.size:Int))=true:=decide_eq_true c5
  clear c5
  replace H:=Option.bind_eq_some_iff.mp H
  obtain⟨⟨t430,t431,t432⟩,A60,H⟩:=H
  dsimp only at H
  have A6:=am_ A60
  clear A60
  replace H:=Option.bind_eq_some_iff.mp H
  obtain⟨t433,A70,H⟩:=H
  have A7:=am_ A70
  clear A70
  simp only[Option.some.injEq,Prod.mk.injEq] at H
  obtain⟨rfl,rfl,rfl,rfl,rfl,rfl,rfl,rfl,rfl,rfl⟩:=H
  go_enter Tryz.func88,Tryz.ntmps88
  go_wp2_with (first|(go_at_call 59;(with_reducible refine(rule_reader_peek.calls _ _ _ _ _ _ _ _ _ _ _ _ _ _ _ _ _ _ _ _ _ w0 _ ?side1 ?side2 A2.out).mono ?_);(case side1=>exact is91_ HI0);(case side2=>exact bs91_ HB HI0);rintro e w8 ⟨rfl,hi,hb,hk⟩;replace HK:=am_ (KeepBut.trans (kp_ HK) hk (.inl rfl));replace HB:=am_ (hb);replace HI0:=am_ (hi);(try clear hb);(try clear hk);(try clear hi);obtain⟨hcz9_0,hcz9_1,hcz9_2,hcz9_3,hcz9_4,hcz9_5,hcz9_6,hcz9_7,hcz9_8,hfz9_0,hfz9_1,hfz9_2,hfz9_3,hfz9_4,hfz9_5,hfz9_6,hfz9_7,hfz9_8⟩:=cs91_ HI0)|(go_at_call 106;(with_reducible refine(strings_Cut.calls _ _ _ _ _ _ A6.out).mono ?_);rintro e w' ⟨rfl,⟨nd,rfl⟩⟩;(try first|exact⟨rfl,_,World.drewN_drewN _ _ _⟩|exact⟨rfl,_,Eq.trans (World.drewN_drewN _ _ _) (congrArg (World.drewN _) (Nat.add_assoc _ _ _))⟩))|(go_at_call 65;(with_reducible refine(strings_TrimRight.calls _ _ _ _ A7.out).mono ?_);rintro e w' ⟨rfl,⟨nd,rfl⟩⟩;(try first|exact⟨rfl,_,World.drewN_drewN _ _ _⟩|exact⟨rfl,_,Eq.trans (World.drewN_drewN _ _ _) (congrArg (World.drewN _) (Nat.add_assoc _ _ _))⟩)))
  repeat(go_quiet (first|(go_at_call 59;(with_reducible refine(rule_reader_peek.calls _ _ _ _ _ _ _ _ _ _ _ _ _ _ _ _ _ _ _ _ _ w0 _ ?side1 ?side2 A2.out).mono ?_);(case side1=>exact is91_ HI0);(case side2=>exact bs91_ HB HI0);rintro e w8 ⟨rfl,hi,hb,hk⟩;replace HK:=am_ (KeepBut.trans (kp_ HK) hk (.inl rfl));replace HB:=am_ (hb);replace HI0:=am_ (hi);(try clear hb);(try clear hk);(try clear hi);obtain⟨hcz9_0,hcz9_1,hcz9_2,hcz9_3,hcz9_4,hcz9_5,hcz9_6,hcz9_7,hcz9_8,hfz9_0,hfz9_1,hfz9_2,hfz9_3,hfz9_4,hfz9_5,hfz9_6,hfz9_7,hfz9_8⟩:=cs91_ HI0)|(go_at_call 106;(with_reducible refine(strings_Cut.calls _ _ _ _ _ _ A6.out).mono ?_);rintro e w' ⟨rfl,⟨nd,rfl⟩⟩;(try first|exact⟨rfl,_,World.drewN_drewN _ _ _⟩|exact⟨rfl,_,Eq.trans (World.drewN_drewN _ _ _) (congrArg (World.drewN _) (Nat.add_assoc _ _ _))⟩))|(go_at_call 65;(with_reducible refine(strings_TrimRight.calls _ _ _ _ A7.out).mono ?_);rintro e w' ⟨rfl,⟨nd,rfl⟩⟩;(try first|exact⟨rfl,_,World.drewN_drewN _ _ _⟩|exact⟨rfl,_,Eq.trans (World.drewN_drewN _ _ _) (congrArg (World.drewN _) (Nat.add_assoc _ _ _))⟩)));try go_wp2_with (first|(go_at_call 59;(with_reducible refine(rule_reader_peek.calls _ _ _ _ _ _ _ _ _ _ _ _ _ _ _ _ _ _ _ _ _ w0 _ ?side1 ?side2 A2.out).mono ?_);(case side1=>exact is91_ HI0);(case side2=>exact bs91_ HB HI0);rintro e w8 ⟨rfl,hi,hb,hk⟩;replace HK:=am_ (KeepBut.trans (kp_ HK) hk (.inl rfl));replace HB:=am_ (hb);replace HI0:=am_ (hi);(try clear hb);(try clear hk);(try clear hi);obtain⟨hcz9_0,hcz9_1,hcz9_2,hcz9_3,hcz9_4,hcz9_5,hcz9_6,hcz9_7,hcz9_8,hfz9_0,hfz9_1,hfz9_2,hfz9_3,hfz9_4,hfz9_5,hfz9_6,hfz9_7,hfz9_8⟩:=cs91_ HI0)|(go_at_call 106;(with_reducible refine(strings_Cut.calls _ _ _ _ _ _ A6.out).mono ?_);rintro e w' ⟨rfl,⟨nd,rfl⟩⟩;(try first|exact⟨rfl,_,World.drewN_drewN _ _ _⟩|exact⟨rfl,_,Eq.trans (World.drewN_drewN _ _ _) (congrArg (World.drewN _) (Nat.add_assoc _ _ _))⟩))|(go_at_call 65;(with_reducible refine(strings_TrimRight.calls _ _ _ _ A7.out).mono ?_);rintro e w' ⟨rfl,⟨nd,rfl⟩⟩;(try first|exact⟨rfl,_,World.drewN_drewN _ _ _⟩|exact⟨rfl,_,Eq.trans (World.drewN_drewN _ _ _) (congrArg (World.drewN _) (Nat.add_assoc _ _ _))⟩))))
  go_ret
  exact⟨ew_,is91_ HI0,bs91_ HB HI0,kp_ HK⟩
 rw[if_neg c3] at H
 have c3b0:(t420==64)=false:=beq_eq_false_iff_ne.mpr c3
 have c3b1:(t420 !=64)=true:=bne_iff_ne.mpr c3
 simp only[Option.some.injEq,Prod.mk.injEq] at H
 obtain⟨rfl,rfl,rfl,rfl,rfl,rfl,rfl,rfl,rfl,rfl⟩:=H
 go_enter Tryz.func88,Tryz.ntmps88
 go_wp2_with (first|(go_at_call 59;(with_reducible refine(rule_reader_peek.calls _ _ _ _ _ _ _ _ _ _ _ _ _ _ _ _ _ _ _ _ _ w0 _ ?side1 ?side2 A2.out).mono ?_);(case side1=>exact is91_ HI0);(case side2=>exact bs91_ HB HI0);rintro e w10 ⟨rfl,hi,hb,hk⟩;replace HK:=am_ (KeepBut.trans (kp_ HK) hk (.inl rfl));replace HB:=am_ (hb);replace HI0:=am_ (hi);(try clear hb);(try clear hk);(try clear hi)))
 repeat(go_quiet (first|(go_at_call 59;(with_reducible refine(rule_reader_peek.calls _ _ _ _ _ _ _ _ _ _ _ _ _ _ _ _ _ _ _ _ _ w0 _ ?side1 ?side2 A2.out).mono ?_);(case side1=>exact is91_ HI0);(case side2=>exact bs91_ HB HI0);rintro e w10 ⟨rfl,hi,hb,hk⟩;replace HK:=am_ (KeepBut.trans (kp_ HK) hk (.inl rfl));replace HB:=am_ (hb);replace HI0:=am_ (hi);(try clear hb);(try clear hk);(try clear hi)));try go_wp2_with (first|(go_at_call 59;(with_reducible refine(rule_reader_peek.calls _ _ _ _ _ _ _ _ _ _ _ _ _ _ _ _ _ _ _ _ _ w0 _ ?side1 ?side2 A2.out).mono ?_);(case side1=>exact is91_ HI0);(case side2=>exact bs91_ HB HI0);rintro e w10 ⟨rfl,hi,hb,hk⟩;replace HK:=am_ (KeepBut.trans (kp_ HK) hk (.inl rfl));replace HB:=am_ (hb);replace HI0:=am_ (hi);(try clear hb);(try clear hk);(try clear hi))))
 go_ret
 exact⟨ew_,is91_ HI0,bs91_ HB HI0,kp_ HK⟩

end Go.Proofs.YtadagjgkanlmdaaGreatDoor.P
