-- written by a program of this session (wip/p2)
import Derived.Test.YtcokjmnkieakiaaDoorPx0
import Derived.Test.YtcokjmnkieakiaaDoorPx1
import Derived.Test.YtcokjmnkieakiaaDoorPx3
namespace Go.Proofs.YtcokjmnkieakiaaDoor.P
open Go.RowKit Go.Proofs.YtcokjmnkieakiaaDoorW.PrintWords Go.Proofs.YtcokjmnkieakiaaDoorW.PrintLast Go.Proofs.YtcokjmnkieakiaaDoorW.PrintMore
attribute [local go_sem] max2_int min2_int max_two min_two max_three min_three max_four min_four   -- for this text's walks alone
set_option linter.unusedVariables false
set_option linter.unusedSimpArgs false

/-! ### rule_Range_String: function 34 -/
def rule_Range_String.f (a0_0:Int) (a0_1:Int):Option (ByteArray):=if a0_0=a0_1 then ((strconv_Itoa.f a0_0).bind fun t504=>(some t504)) else ((strconv_Itoa.f a0_0).bind fun t505=>(if t505.size+2≤9223372036854775807 then ((strconv_Itoa.f a0_1).bind fun t506=>(if (t505++(⟨#[46,46]⟩:ByteArray)).size+t506.size≤9223372036854775807 then (some ((t505++(⟨#[46,46]⟩:ByteArray))++t506)) else (none))) else (none)))
def rule_Range_String.T3:Bool × List (List Nat × List Nat):=(true,[([],[]),([0],[0]),([1],[1]),([2],[2]),([],[]),([4],[4]),([5,2],[5]),([3,6],[3,6]),([7,6,0,1,2,3,4,5,6,7],[7])])
def rule_Range_String.B3:List Nat:=[0,1,3,7,0,16,55,127,255]
theorem rule_Range_String.tab3:rtab .any (opsOf Tryd.f34 3)=rule_Range_String.T3:=by kernel_rfl
theorem rule_Range_String.bits3:waitsOk rule_Range_String.T3.2 rule_Range_String.B3=true:=by kernel_rfl
set_option maxHeartbeats 64000000 in
set_option maxRecDepth 100000 in
theorem rule_Range_String.calls (a0_0:Int) (a0_1:Int) (r:ByteArray) (w:World) (h:rule_Range_String.f a0_0 a0_1=some r) (ht:Lib.TabIs Tryd.prog w "internal/strconv.uint64pow10" .u64 Lib.pow10Tab:=by first|assumption|exact tb_ (by assumption) (bl_ (by assumption)).out) :
  Calls Tryd.prog 34 #[.agg #[.int .i64 a0_0,.int .i64 a0_1]] w fun e w'=>e= .returned (.string r)∧Below w.heap.size w w':=by
 have hu38:=Tryd.underlying38
 have HB:=Aside0.mk (Below.refl w.heap.size w)
 have H:(if a0_0=a0_1 then ((strconv_Itoa.f a0_0).bind fun t504=>(some t504)) else ((strconv_Itoa.f a0_0).bind fun t505=>(if t505.size+2≤9223372036854775807 then ((strconv_Itoa.f a0_1).bind fun t506=>(if (t505++(⟨#[46,46]⟩:ByteArray)).size+t506.size≤9223372036854775807 then (some ((t505++(⟨#[46,46]⟩:ByteArray))++t506)) else (none))) else (none))))=some r:=h
 clear h
 by_cases c2:a0_0=a0_1
 ·rw[if_pos c2] at H
  have c2b0:(a0_0==a0_1)=true:=beq_iff_eq.mpr c2
  have c2b1:(a0_0 !=a0_1)=false:=bne_eq_false_iff_eq.mpr c2
  clear c2
  replace H:=Option.bind_eq_some_iff.mp H
  obtain⟨t504,A30,H⟩:=H
  have A3:=Aside0.mk A30
  clear A30
  obtain rfl:=Option.some.inj H
  go_enter Tryd.func34,Tryd.ntmps34
  go_wp2_with (first|((with_reducible refine gate_dst (N:=1) rfl ?_);refine be_ 1 #[.int .i64 a0_0,.int .i64 a0_1] 38 ?_;intro gb503 hg w4 hbox hb;have BK503:=Aside0.mk (hbox);have GW503:=sz_ HB hg;have GE503:=sz_ HB hg;replace HB:=Aside0.mk (below_step (bl_ HB).out hb);clear hb hbox hg;obtain⟨hcz5_0,hcz5_1,hfz5_0,hfz5_1⟩:=bo2_ BK503)|((with_reducible refine gate_callee (f:=33) rfl ?_);refine gl_ (some 10) Tryd.func33 #[.int .i64 a0_0] ?_;(with_reducible refine(strconv_Itoa.calls _ _ _ A3.out).mono ?_);rintro e w6 ⟨rfl,hb⟩;refine⟨_,rfl,?_⟩;replace BK503:=bb_ BK503 hb;replace HB:=Aside0.mk (below_step (bl_ HB).out hb);(try clear hb);(try clear hi)))
  go_ret
  exact⟨ew_,(bl_ HB).out⟩
 ·rw[if_neg c2] at H
  have c2b0:(a0_0==a0_1)=false:=beq_eq_false_iff_ne.mpr c2
  have c2b1:(a0_0 !=a0_1)=true:=bne_iff_ne.mpr c2
  replace H:=Option.bind_eq_some_iff.mp H
  obtain⟨t505,A70,H⟩:=H
  have A7:=Aside0.mk A70
  clear A70
  replace H:=ifn_ H
  obtain⟨c8,H⟩:=H
  have c8b0:=eq_true c8
  have c8b1:decide (t505.size+2≤9223372036854775807)=true:=decide_eq_true c8
  try have c8b2:=eq_false (Nat.not_lt.2 c8)
  replace H:=Option.bind_eq_some_iff.mp H
  obtain⟨t506,A90,H⟩:=H
  have A9:=Aside0.mk A90
  clear A90
  replace H:=ifn_ H
  obtain⟨c10,H⟩:=H
  have c10b0:=eq_true c10
  have c10b1:decide ((t505++(⟨#[46,46]⟩:ByteArray)).size+t506.size≤9223372036854775807)=true:=decide_eq_true c10
  try (have c10b5:=c10b0;simp only[ByteArray.size_append,Int.natCast_add] at c10b5)
  try have c10b2:=eq_false (Nat.not_lt.2 c10)
  try have c10b3:(9223372036854775807<t505.size+2+t506.size)=False:=eq_false (Nat.not_lt.2 (by have h_:=c10;simp only[ByteArray.size_append] at h_;exact h_))
  try have c10b4:(t505.size+2+t506.size≤9223372036854775807)=True:=eq_true (by have h_:=c10;simp only[ByteArray.size_append] at h_;exact h_)
  obtain rfl:=Option.some.inj H
  go_enter Tryd.func34,Tryd.ntmps34
  try go_wp2_with (first|((with_reducible refine gate_dst (N:=1) rfl ?_);refine be_ 1 #[.int .i64 a0_0,.int .i64 a0_1] 38 ?_;intro gb503 hg w11 hbox hb;have BK503:=Aside0.mk (hbox);have GW503:=sz_ HB hg;have GE503:=sz_ HB hg;replace HB:=Aside0.mk (below_step (bl_ HB).out hb);clear hb hbox hg;obtain⟨hcz12_0,hcz12_1,hfz12_0,hfz12_1⟩:=bo2_ BK503))
  replace BK503:=Aside0.mk (blk_drew BK503.out)
  replace HB:=Aside0.mk (below_drew1 HB.out)
  refine start_ (n:=9) (S:=fun w'=>w'.cell? ⟨gb503,0,none⟩=some (.int .i64 a0_0)∧w'.cell? ⟨gb503,1,none⟩=some (.int .i64 a0_1)) (ds:=[]) #[false,false,false,false,false,false,false,false,false] (by kernel_rfl) rfl rfl ⟨bc_ BK503 0,bc_ BK503 1⟩ (fun hHeld=>?_);refine with_tabW rule_Range_String.tab3 rule_Range_String.bits3 (fun HT_ HW_=>?_)
  generalize w11.drew=w13 at BK503 HB hHeld ⊢
  refine pu_ 0 11 #[true,false,false,false,false,false,false,false,false] HT_ ?_
  refine pu_ 4 15 #[true,false,false,false,true,false,false,false,false] HT_ ?_
  refine tk_ 1 12 #[true,true,false,false,true,false,false,false,false] HT_ HW_ hHeld rfl (by rintro w' ⟨s0,s1⟩;go_simp;with_reducible rfl) ?_
  refine tk_ 5 16 #[true,true,false,false,true,true,false,false,false] HT_ HW_ hHeld rfl (by rintro w' ⟨s0,s1⟩;go_simp;with_reducible rfl) ?_
  refine one_ (i:=2) (N:=some 13) #[true,true,true,false,true,true,false,false,false] rfl rfl (one_of HT_.out (by kernel_rfl)) (by decide) (fun K hK=>?_)
  refine gs_ Tryd.func33 #[.int .i64 a0_0] ?_
  with_reducible refine(strconv_Itoa.calls _ _ _ A7.out).mono ?_
  rintro e w14 ⟨rfl,hb⟩
  refine⟨_,rfl,?_⟩
  replace BK503:=bb_ BK503 hb
  replace HB:=Aside0.mk (below_step (bl_ HB).out hb)
  (try clear hb)
  (try clear hb2)
  (try clear hk)
  (try clear hi)
  refine hK.out _ _ ⟨bc_ BK503 0,bc_ BK503 1⟩ (fun hHeld=>?_)
  clear hK K
  refine nm_ 13 ?_
  refine pu_ 3 14 #[true,true,true,true,true,true,false,false,false] HT_ ?_
  refine one_ (i:=6) (N:=some 17) #[true,true,true,true,true,true,true,false,false] rfl rfl (one_of HT_.out (by kernel_rfl)) (by decide) (fun K hK=>?_)
  refine gs_ Tryd.func33 #[.int .i64 a0_1] ?_
  with_reducible refine(strconv_Itoa.calls _ _ _ A9.out).mono ?_
  rintro e w15 ⟨rfl,hb⟩
  refine⟨_,rfl,?_⟩
  replace BK503:=bb_ BK503 hb
  replace HB:=Aside0.mk (below_step (bl_ HB).out hb)
  (try clear hb)
  (try clear hb2)
  (try clear hk)
  (try clear hi)
  refine hK.out _ _ ⟨bc_ BK503 0,bc_ BK503 1⟩ (fun hHeld=>?_)
  clear hK K
  refine nm_ 17 ?_
  refine pu_ 7 18 #[true,true,true,true,true,true,true,true,false] HT_ ?_
  refine pu_ 8 2 #[true,true,true,true,true,true,true,true,true] HT_ ?_
  refine done_ (done_of HT_.out (by kernel_rfl)) ?_
  try go_wp2
  go_ret
  exact⟨ew_,(bl_ HB).out⟩

/-! ### rule_Rel_String: function 22 -/
mutual
def rule_Rel_String.j0:Nat→ByteArray→Int→Int→Bool→List (S38)→Option (ByteArray)
 | 0,_,_,_,_,_=>none
 | k+1,x3,x508000,x508001,x508002,x508003=>if x508002=true then (rule_Rel_String.j1 k x3 (⟨#[32,33,61,32]⟩:ByteArray) x508000 x508001 x508002 x508003) else (rule_Rel_String.j1 k x3 (⟨#[32,61,32]⟩:ByteArray) x508000 x508001 x508002 x508003)
def rule_Rel_String.j1:Nat→ByteArray→ByteArray→Int→Int→Bool→List (S38)→Option (ByteArray)
 | 0,_,_,_,_,_,_=>none
 | k+1,x3,x4,x508000,x508001,x508002,x508003=>rule_Rel_String.l0 k x3 x4 ([]:List ByteArray) x508003 (x508003.length:Int) 0
def rule_Rel_String.l0:Nat→ByteArray→ByteArray→List ByteArray→List (S38)→Int→Int→Option (ByteArray)
 | 0,_,_,_,_,_,_=>none
 | k+1,x3,x4,x5,x24,x25,x26=>if x26<x25 then (if 0≤x26 then (if x26<(x24.length:Int) then ((rule_Range_String.f ((rd_T38 x24 x26).f0) ((rd_T38 x24 x26).f1)).bind fun t511=>(if x5.length<8796093022208 then (rule_Rel_String.l0 k x3 x4 (x5++[t511]) x24 x25 (wrap64 (x26+1))) else (none))) else (none)) else (none)) else (if x3.size+x4.size≤9223372036854775807 then ((strings_Join.f x5 (⟨#[44]⟩:ByteArray)).bind fun t515=>(if (x3++x4).size+t515.size≤9223372036854775807 then (some ((x3++x4)++t515)) else (none))) else (none))
end
def rule_Rel_String.f (k:Nat) (a0_0:Int) (a0_1:Int) (a0_2:Bool) (l0_3:List (S38)):Option (ByteArray):=if a0_1=0 then (rule_Rel_String.j0 k (Utf8.encode (wrap32 (a0_0))) a0_0 a0_1 a0_2 l0_3) else ((strconv_Itoa.f a0_1).bind fun t508=>(if 3+t508.size≤9223372036854775807 then (if (Utf8.encode (wrap32 (a0_0))).size+((⟨#[32,37,32]⟩:ByteArray)++t508).size≤9223372036854775807 then (rule_Rel_String.j0 k ((Utf8.encode (wrap32 (a0_0)))++((⟨#[32,37,32]⟩:ByteArray)++t508)) a0_0 a0_1 a0_2 l0_3) else (none)) else (none)))
set_option maxHeartbeats 64000000 in
set_option maxRecDepth 100000 in
theorem rule_Rel_String.calls (k:Nat) (a0_0:Int) (a0_1:Int) (a0_2:Bool) (A0_3:Option Addr) (c0_3:Nat) (l0_3:List (S38)) (r:ByteArray) (w:World) (hr0_3:Kd.C k38 w A0_3 l0_3.length l0_3) (hc0_3:l0_3.length≤c0_3) (h:rule_Rel_String.f k a0_0 a0_1 a0_2 l0_3=some r) (ht:Lib.TabIs Tryd.prog w "internal/strconv.uint64pow10" .u64 Lib.pow10Tab:=by first|assumption|exact tb_ (by assumption) (bl_ (by assumption)).out) :
  Calls Tryd.prog 22 #[.agg #[.int .u8 a0_0,.int .i64 a0_1,.bool a0_2,.slice A0_3 l0_3.length c0_3]] w fun e w'=>e= .returned (.string r)∧Below w.heap.size w w':=by
 have hu36:=Tryd.underlying36
 have hu38:=Tryd.underlying38
 have HR0_3:=Aside0.mk hr0_3
 have HC0_3:=Aside0.mk hc0_3
 clear hr0_3 hc0_3
 have HB:=Aside0.mk (Below.refl w.heap.size w)
 have H:(if a0_1=0 then (rule_Rel_String.j0 k (Utf8.encode (wrap32 (a0_0))) a0_0 a0_1 a0_2 l0_3) else ((strconv_Itoa.f a0_1).bind fun t508=>(if 3+t508.size≤9223372036854775807 then (if (Utf8.encode (wrap32 (a0_0))).size+((⟨#[32,37,32]⟩:ByteArray)++t508).size≤9223372036854775807 then (rule_Rel_String.j0 k ((Utf8.encode (wrap32 (a0_0)))++((⟨#[32,37,32]⟩:ByteArray)++t508)) a0_0 a0_1 a0_2 l0_3) else (none)) else (none))))=some r:=h
 clear h
 have HC2:=Aside0.mk H
 clear H
 go_enter Tryd.func22,Tryd.ntmps22
 go_upto_if 14 with (first|((with_reducible refine gate_dst (N:=1) rfl ?_);refine be_ 1 #[.int .u8 a0_0,.int .i64 a0_1,.bool a0_2,.slice A0_3 l0_3.length c0_3] 36 ?_;intro gb507 hg w3 hbox hb;have BK507:=Aside0.mk (hbox);have GW507:=sz_ HB hg;have GE507:=sz_ HB hg;replace HB:=Aside0.mk (below_step (bl_ HB).out hb);clear hb hbox hg;obtain⟨hcz4_0,hcz4_1,hcz4_2,hcz4_3,hfz4_0,hfz4_1,hfz4_2,hfz4_3⟩:=bo4_ BK507))
 (try simp only[Act.put,List.setIfInBounds_toArray,List.set_cons_zero,List.set_cons_succ])
 go_cut [3] (fun v3 wc=>∃(kq:Nat) (x3_1:ByteArray),v3= .string x3_1∧Aside0 (rule_Rel_String.j0 kq x3_1 a0_0 a0_1 a0_2 l0_3=some r)∧Aside0 (kq≤k)∧Aside0 (wc.heap[gb507]? = some (.cells #[.int .u8 a0_0,.int .i64 a0_1,.bool a0_2,(.slice A0_3 l0_3.length c0_3)] 36 (0,0)))∧Aside0 (Below w.heap.size w wc))
 case first =>
  have H:=HC2.out
  clear HC2
  by_cases c5:a0_1=0
  ·rw[if_pos c5] at H
   have c5b0:(a0_1==0)=true:=beq_iff_eq.mpr c5
   have c5b1:(a0_1 !=0)=false:=bne_eq_false_iff_eq.mpr c5
   clear c5
   (first|rw[c5b0]|(simp only[i64_w,i32_w];rw[c5b0])|skip)
   have H':=Aside0.mk H
   clear H
   go_wp2
   go_meet
   case rel=>exact⟨_,(Utf8.encode (wrap32 (a0_0))),eq_,H',⟨by first|omega|exact Nat.le_refl _⟩,(bk_ BK507),(bl_ HB)⟩
  ·rw[if_neg c5] at H
   have c5b0:(a0_1==0)=false:=beq_eq_false_iff_ne.mpr c5
   have c5b1:(a0_1 !=0)=true:=bne_iff_ne.mpr c5
   (first|rw[c5b0]|(simp only[i64_w,i32_w];rw[c5b0])|skip)
   replace H:=Option.bind_eq_some_iff.mp H
   obtain⟨t508,A60,H⟩:=H
   have A6:=Aside0.mk A60
   clear A60
   replace H:=ifn_ H
   obtain⟨c7,H⟩:=H
   have c7b0:=eq_true c7
   have c7b1:decide (3+t508.size≤9223372036854775807)=true:=decide_eq_true c7
   try have c7b2:=eq_false (Nat.not_lt.2 c7)
   replace H:=ifn_ H
   obtain⟨c8,H⟩:=H
   have c8b0:=eq_true c8
   have c8b1:decide ((Utf8.encode (wrap32 (a0_0))).size+((⟨#[32,37,32]⟩:ByteArray)++t508).size≤9223372036854775807)=true:=decide_eq_true c8
   try (have c8b5:=c8b0;simp only[ByteArray.size_append,Int.natCast_add] at c8b5)
   try have c8b2:=eq_false (Nat.not_lt.2 c8)
   try have c8b3:(9223372036854775807<(Utf8.encode (wrap32 (a0_0))).size+3+t508.size)=False:=eq_false (Nat.not_lt.2 (by have h_:=c8;simp only[ByteArray.size_append] at h_;exact h_))
   try have c8b4:((Utf8.encode (wrap32 (a0_0))).size+3+t508.size≤9223372036854775807)=True:=eq_true (by have h_:=c8;simp only[ByteArray.size_append] at h_;exact h_)
   have H':=Aside0.mk H
   clear H
   obtain⟨hcz9_0,hcz9_1,hcz9_2,hcz9_3,hfz9_0,hfz9_1,hfz9_2,hfz9_3⟩:=bo4_ BK507
   go_wp2_with (first|((with_reducible refine gate_callee (f:=33) rfl ?_);refine gl_ (some 18) Tryd.func33 #[.int .i64 a0_1] ?_;(with_reducible refine(strconv_Itoa.calls _ _ _ A6.out).mono ?_);rintro e w10 ⟨rfl,hb⟩;refine⟨_,rfl,?_⟩;replace BK507:=bb_ BK507 hb;replace HB:=Aside0.mk (below_step (bl_ HB).out hb);(try clear hb);(try clear hi)))
   go_meet
   case rel=>exact⟨_,((Utf8.encode (wrap32 (a0_0)))++((⟨#[32,37,32]⟩:ByteArray)++t508)),eq_,H',⟨by first|omega|exact Nat.le_refl _⟩,(bk_ BK507),(bl_ HB)⟩
 case rest =>
  clear HC2
  obtain⟨kq,x3_1,rfl,HA,HJ1,BK507,HB⟩:=hcut
  cases kq with
  | zero=>exact absurd HA.out (by simp[rule_Rel_String.j0])
  | succ kj1 =>
   have H:=HA.out
   clear HA
   simp only[rule_Rel_String.j0] at H
   have HC11:=Aside0.mk H
   clear H
   obtain⟨hcz12_0,hcz12_1,hcz12_2,hcz12_3,hfz12_0,hfz12_1,hfz12_2,hfz12_3⟩:=bo4_ BK507
   go_upto_if 22 with (fail)
   go_cut [4] (fun v4 wc=>∃(kq:Nat) (x4_10:ByteArray),v4= .string x4_10∧Aside0 (rule_Rel_String.j1 kq x3_1 x4_10 a0_0 a0_1 a0_2 l0_3=some r)∧Aside0 (kq≤kj1)∧Aside0 (wc.heap[gb507]? = some (.cells #[.int .u8 a0_0,.int .i64 a0_1,.bool a0_2,(.slice A0_3 l0_3.length c0_3)] 36 (0,0)))∧Aside0 (Below w.heap.size w wc))
   case first =>
    have H:=HC11.out
    clear HC11
    by_cases c13:a0_2=true
    ·subst c13
     have H1:(rule_Rel_String.j1 kj1 x3_1 (⟨#[32,33,61,32]⟩:ByteArray) a0_0 a0_1 true l0_3)=some r:=by rw[if_pos rfl] at H;exact H
     clear H
     have H:=H1
     clear H1
     have H':=Aside0.mk H
     clear H
     go_wp2
     go_meet
     case rel=>exact⟨_,((⟨#[32,33,61,32]⟩:ByteArray)),eq_,H',⟨by have:=HJ1.out;first|omega|exact Nat.le_refl _⟩,(bk_ BK507),(bl_ HB)⟩
    ·replace c13:=Bool.eq_false_iff.mpr c13
     subst c13
     have H1:(rule_Rel_String.j1 kj1 x3_1 (⟨#[32,61,32]⟩:ByteArray) a0_0 a0_1 false l0_3)=some r:=by rw[if_neg (show ¬(false=true) by decide)] at H;exact H
     clear H
     have H:=H1
     clear H1
     have H':=Aside0.mk H
     clear H
     go_wp2
     go_meet
     case rel=>exact⟨_,((⟨#[32,61,32]⟩:ByteArray)),eq_,H',⟨by have:=HJ1.out;first|omega|exact Nat.le_refl _⟩,(bk_ BK507),(bl_ HB)⟩
   case rest =>
    clear HC11
    obtain⟨kq,x4_10,rfl,HA,HJ10,BK507,HB⟩:=hcut
    cases kq with
    | zero=>exact absurd HA.out (by simp[rule_Rel_String.j1])
    | succ kj10 =>
     have H:=HA.out
     clear HA
     simp only[rule_Rel_String.j1] at H
     have H':=Aside0.mk H
     clear H
     obtain⟨hcz14_0,hcz14_1,hcz14_2,hcz14_3,hfz14_0,hfz14_1,hfz14_2,hfz14_3⟩:=bo4_ BK507
     go_wp2
     go_loopg [5,26] kj10 (fun kq v5 v26 w'=>∃(x5_3:List ByteArray) (x26_3:Int),v26= .int .i64 x26_3∧Aside0 (rule_Rel_String.l0 kq x3_1 x4_10 x5_3 l0_3 (l0_3.length:Int) x26_3=some r)∧Aside0 (kq≤kj10)∧Aside0 (Kd.R Kd.string 9 w' w.heap.size (fun _=>True) v5 x5_3)∧Aside0 (w'.heap[gb507]? = some (.cells #[.int .u8 a0_0,.int .i64 a0_1,.bool a0_2,(.slice A0_3 l0_3.length c0_3)] 36 (0,0)))∧Aside0 (Below w.heap.size w w'))
     case atStart=>exact⟨(([]:List ByteArray)),(0),eq_,H',⟨Nat.le_refl _⟩,⟨by first|exact Kd.R_nil _ _ _ _ _|exact Kd.N_nil _ _ _ _ _|exact Kd.V_nil _ _ _ _ _|exact Kd.Q_nil _ _ _ _ _|exact Kd.S_nil _ _ _ _ _⟩,(bk_ BK507),(bl_ HB)⟩
     case round =>
      clear H'
      obtain⟨x5_3,x26_3,rfl,HA,HK3,HO_5,BK507,HB⟩:=hrel
      cases gk with
      | zero=>exact absurd HA.out (by simp[rule_Rel_String.l0])
      | succ k3 =>
       have H:=HA.out
       clear HA
       simp only[rule_Rel_String.l0] at H
       by_cases c15:x26_3<(l0_3.length:Int)
       ·rw[if_pos c15] at H
        have c15b0:=decide_eq_true c15
        clear c15
        replace H:=ifn_ H
        obtain⟨c16,H⟩:=H
        have c16b0:decide (0≤x26_3)=true:=decide_eq_true c16
        clear c16
        replace H:=ifn_ H
        obtain⟨c17,H⟩:=H
        have c17b0:decide (x26_3<(l0_3.length:Int))=true:=decide_eq_true c17
        clear c17
        replace H:=Option.bind_eq_some_iff.mp H
        obtain⟨t511,A180,H⟩:=H
        have A18:=Aside0.mk A180
        clear A180
        replace H:=ifn_ H
        obtain⟨c19,H⟩:=H
        have LMc19:=Aside0.mk c19
        clear c19
        obtain⟨y512,hy512⟩:∃y_:List ByteArray,y_=(x5_3++[t511]):=⟨_,rfl⟩
        replace H:(rule_Rel_String.l0 k3 x3_1 x4_10 y512 l0_3 (l0_3.length:Int) (wrap64 (x26_3+1)))=some r:=by first|(rw[hy512];with_reducible exact H)|(have H2_:=(Option.bind_some _ _).symm.trans H;rw[hy512];with_reducible exact H2_)|(have H2_:=(Option.bind_some _ _).symm.trans H;with_reducible exact H2_)|with_reducible exact H|(rw[hy512];exact H)|exact H
        have Ny512:=Aside0.mk hy512
        clear hy512
        have H':=Aside0.mk H
        clear H
        have p509:0≤(x26_3:Int):=od_
        have q509:x26_3<(l0_3.length:Int):=od_
        obtain⟨ad509,e509,hx509_0,hx509_1⟩:=at_T38 HR0_3.out x26_3 p509 q509
        cases e509
        replace hx509_0:=hbc_ HB hx509_0
        replace hx509_1:=hbc_ HB hx509_1
        replace p509:=eq_true p509
        replace q509:=eq_true q509
        go_wp2_with (first|((with_reducible refine gate_dst (N:=7) rfl ?_);refine be_ 7 #[.int .i64 0,.int .i64 0] 38 ?_;intro gb510 hg w20 hbox hb;have BK510:=Aside0.mk (hbox);have GW510:=sz_ HB hg;have GE510:=sz_ HB hg;have NB507_510:=na_ BK507 hg;have NB510_507:=nb_ BK507 hg;replace HO_5:=kb_ HO_5 hb;replace BK507:=bb_ BK507 hb;replace HB:=Aside0.mk (below_step (bl_ HB).out hb);clear hb hbox hg;have hnb21:=NB510_507.out;have hnc21:=NB507_510.out;obtain⟨hcz22_0,hcz22_1,hfz22_0,hfz22_1⟩:=bo2_ BK510)|((with_reducible refine gate_callee (f:=34) rfl ?_);refine gl_ (some 32) Tryd.func34 #[.agg #[.int .i64 ((rd_T38 l0_3 x26_3).f0),.int .i64 ((rd_T38 l0_3 x26_3).f1)]] ?_;(with_reducible refine(rule_Range_String.calls _ _ _ _ A18.out).mono ?_);rintro e w23 ⟨rfl,hb⟩;refine⟨_,rfl,?_⟩;have n0_:=Aside0.mk (Kd.R_below (kdR_ ((Kd.R_mono (Kd.R_far (Kd.R_far (Kd.R_types HO_5.out BK510.out (by decide)) (fun _ hk=>hk.2) _) (fun _ hk=>hk.2) _) (fun _ h_=>h_.1)))) hb);have n1_:=bz_ BK507 hb;have n2_:=Aside0.mk (blk_below (g:=gb510) (o:= .cells #[.int .i64 ((rd_T38 l0_3 x26_3).f0),.int .i64 ((rd_T38 l0_3 x26_3).f1)] 38 (0,0)) ((bp_ BK510).out) hb);have n3_:=Aside0.mk (below_step (bl_ HB).out hb);clear HO_5;clear BK507;clear BK510;clear HB;have HO_5:=n0_;have BK507:=n1_;have BK510:=n2_;have HB:=n3_;clear n0_ n1_ n2_ n3_;(try clear hb);(try clear hi))|((with_reducible refine gate_builtin (b:= .append) (xs:= #[.tmp 30,.tmp 33]) rfl ?_);at_builtin;refine Kd.R_append Kd.string (w0:=w) w.heap.size rfl (.tmp 30) (.tmp 33) 47 9 (.string ⟨#[]⟩) 16 rfl Tryd.underlying47 info9 rfl (by decide) (by omega) u5 x5_3 t511 [.string t511] (fun _=>True) (fun _=>False) rfl rfl ?aP (fun _ hk=>hk.elim) ?aF ?aO ?aB ?aS ?aL ?_;(case aP=>exact rfl);(case aB=>exact(bl_ HB).out);(case aF=>exact(fun _ _=>trivial));(case aO=>exact(kr_ HO_5));(case aS=>exact(below_size (bl_ HB).out));(case aL=>have:=LMc19.out;omega);intro v513 w24 ho hb hg hat;rw[← Ny512.out] at ho;have n0_:=Aside0.mk (blk_grown (bk_ BK507).out hg (Kd.R_ne HO_5.out BK507.out (by decide)));have n1_:=Aside0.mk (blk_grown (bk_ BK510).out hg (Kd.R_ne HO_5.out BK510.out (by decide)));have n2_:=Aside0.mk (hb);have n3_:=Aside0.mk (ho);clear BK507;clear BK510;clear HB;clear HO_5;have BK507:=n0_;have BK510:=n1_;have HB:=n2_;have HO514:=n3_;clear n0_ n1_ n2_ n3_;clear ho hb hg hat))
        go_roundg k3
        case measure=>have:=HJ1.out;have:=HJ10.out;have:=HK3.out;omega
        case rel=>exact⟨(y512),(wrap64 (x26_3+1)),eq_,H',⟨by have:=HJ1.out;have:=HJ10.out;have:=HK3.out;omega⟩,⟨kdR_ HO514.out⟩,(bk_ BK507),(bl_ HB)⟩
       ·rw[if_neg c15] at H
        have c15b0:=decide_eq_false c15
        clear c15
        replace H:=ifn_ H
        obtain⟨c25,H⟩:=H
        have c25b0:=eq_true c25
        have c25b1:decide (x3_1.size+x4_10.size≤9223372036854775807)=true:=decide_eq_true c25
        try have c25b2:=eq_false (Nat.not_lt.2 c25)
        replace H:=Option.bind_eq_some_iff.mp H
        obtain⟨t515,A260,H⟩:=H
        have A26:=Aside0.mk A260
        clear A260
        replace H:=ifn_ H
        obtain⟨c27,H⟩:=H
        have c27b0:=eq_true c27
        have c27b1:decide ((x3_1++x4_10).size+t515.size≤9223372036854775807)=true:=decide_eq_true c27
        try (have c27b5:=c27b0;simp only[ByteArray.size_append,Int.natCast_add] at c27b5)
        try have c27b2:=eq_false (Nat.not_lt.2 c27)
        try have c27b3:(9223372036854775807<x3_1.size+x4_10.size+t515.size)=False:=eq_false (Nat.not_lt.2 (by have h_:=c27;simp only[ByteArray.size_append] at h_;exact h_))
        try have c27b4:(x3_1.size+x4_10.size+t515.size≤9223372036854775807)=True:=eq_true (by have h_:=c27;simp only[ByteArray.size_append] at h_;exact h_)
        obtain rfl:=Option.some.inj H
        obtain⟨Ao28,co28,eo28⟩:=Kd.R_slice HO_5.out
        subst eo28
        go_wp2_with (first|((with_reducible refine gate_callee (f:=16) rfl ?_);refine gl_ (some 40) Tryd.func16 #[.slice Ao28 x5_3.length co28,.string (⟨#[44]⟩:ByteArray)] ?_;(with_reducible refine(strings_Join.calls _ _ _ _ _ _ ?side1 ?side2 A26.out).mono ?_);(case side1=>exact kc_ HO_5);(case side2=>exact kl_ HO_5);rintro e w29 ⟨rfl,hb⟩;refine⟨_,rfl,?_⟩;replace HO_5:=kb_ HO_5 hb;replace BK507:=bb_ BK507 hb;replace HB:=Aside0.mk (below_step (bl_ HB).out hb);(try clear hb);(try clear hi)))
        go_ret
        exact⟨ew_,(bl_ HB).out⟩

/-! ### rule_Rule_String: function 15 -/
mutual
def rule_Rule_String.l0:Nat→List ByteArray→List (List (S36))→Int→Int→Int→List (List (S36))→ByteArray→Option (ByteArray)
 | 0,_,_,_,_,_,_,_=>none
 | k+1,x3,x11,x12,x13,x517000,x517001,x517002=>if x13<x12 then (if 0≤x13 then (if x13<(x11.length:Int) then (rule_Rule_String.l1 k x3 ([]:List ByteArray) x11 x12 x13 (rd_L7 x11 x13) ((rd_L7 x11 x13).length:Int) 0 x517000 x517001 x517002) else (none)) else (none)) else ((rule_Cat_String.f x517000).bind fun t528=>(if t528.size+1≤9223372036854775807 then (if (x3.length:Int)>0 then ((strings_Join.f x3 (⟨#[32,111,114,32]⟩:ByteArray)).bind fun t529=>(if 1+t529.size≤9223372036854775807 then (if (t528++(⟨#[58]⟩:ByteArray)).size+((⟨#[32]⟩:ByteArray)++t529).size≤9223372036854775807 then (if x517002.toList=([]:List UInt8) then (some ((t528++(⟨#[58]⟩:ByteArray))++((⟨#[32]⟩:ByteArray)++t529))) else (if 1+x517002.size≤9223372036854775807 then (if ((t528++(⟨#[58]⟩:ByteArray))++((⟨#[32]⟩:ByteArray)++t529)).size+((⟨#[32]⟩:ByteArray)++x517002).size≤9223372036854775807 then (some (((t528++(⟨#[58]⟩:ByteArray))++((⟨#[32]⟩:ByteArray)++t529))++((⟨#[32]⟩:ByteArray)++x517002))) else (none)) else (none))) else (none)) else (none))) else (if x517002.toList=([]:List UInt8) then (some (t528++(⟨#[58]⟩:ByteArray))) else (if 1+x517002.size≤9223372036854775807 then (if (t528++(⟨#[58]⟩:ByteArray)).size+((⟨#[32]⟩:ByteArray)++x517002).size≤9223372036854775807 then (some ((t528++(⟨#[58]⟩:ByteArray))++((⟨#[32]⟩:ByteArray)++x517002))) else (none)) else (none)))) else (none)))
def rule_Rule_String.l1:Nat→List ByteArray→List ByteArray→List (List (S36))→Int→Int→List (S36)→Int→Int→Int→List (List (S36))→ByteArray→Option (ByteArray)
 | 0,_,_,_,_,_,_,_,_,_,_,_=>none
 | k+1,x3,x6,x11,x12,x13,x17,x18,x19,x517000,x517001,x517002=>if x19<x18 then (if 0≤x19 then (if x19<(x17.length:Int) then ((rule_Rel_String.f k ((rd_T36 x17 x19).f0) ((rd_T36 x17 x19).f1) ((rd_T36 x17 x19).f2) ((rd_T36 x17 x19).f3)).bind fun t520=>(if x6.length<8796093022208 then (rule_Rule_String.l1 k x3 (x6++[t520]) x11 x12 x13 x17 x18 (wrap64 (x19+1)) x517000 x517001 x517002) else (none))) else (none)) else (none)) else ((strings_Join.f x6 (⟨#[32,97,110,100,32]⟩:ByteArray)).bind fun t524=>(if x3.length<8796093022208 then (rule_Rule_String.l0 k (x3++[t524]) x11 x12 (wrap64 (x13+1)) x517000 x517001 x517002) else (none)))
end
def rule_Rule_String.f (k:Nat) (a0_0:Int) (l0_1:List (List (S36))) (a0_2:ByteArray):Option (ByteArray):=rule_Rule_String.l0 k ([]:List ByteArray) l0_1 (l0_1.length:Int) 0 a0_0 l0_1 a0_2
set_option maxHeartbeats 64000000 in
set_option maxRecDepth 100000 in
theorem rule_Rule_String.calls (k:Nat) (a0_0:Int) (A0_1:Option Addr) (c0_1:Nat) (l0_1:List (List (S36))) (a0_2:ByteArray) (r:ByteArray) (w:World) (hr0_1:Kd.C (Kd.slice 36 k36) w A0_1 l0_1.length l0_1) (hc0_1:l0_1.length≤c0_1) (h:rule_Rule_String.f k a0_0 l0_1 a0_2=some r) (ht:Lib.TabIs Tryd.prog w "internal/strconv.uint64pow10" .u64 Lib.pow10Tab:=by first|assumption|exact tb_ (by assumption) (bl_ (by assumption)).out) :
  Calls Tryd.prog 15 #[.agg #[.int .i64 a0_0,.slice A0_1 l0_1.length c0_1,.string a0_2]] w fun e w'=>e= .returned (.string r)∧Below w.heap.size w w':=by
 have hu32:=Tryd.underlying32
 have hu36:=Tryd.underlying36
 have HR0_1:=Aside0.mk hr0_1
 have HC0_1:=Aside0.mk hc0_1
 clear hr0_1 hc0_1
 have HB:=Aside0.mk (Below.refl w.heap.size w)
 have H:(rule_Rule_String.l0 k ([]:List ByteArray) l0_1 (l0_1.length:Int) 0 a0_0 l0_1 a0_2)=some r:=h
 clear h
 have H':=Aside0.mk H
 clear H
 go_enter Tryd.func15,Tryd.ntmps15
 go_wp2_with (first|((with_reducible refine gate_dst (N:=1) rfl ?_);refine be_ 1 #[.int .i64 a0_0,.slice A0_1 l0_1.length c0_1,.string a0_2] 32 ?_;intro gb516 hg w2 hbox hb;have BK516:=Aside0.mk (hbox);have GW516:=sz_ HB hg;have GE516:=sz_ HB hg;replace HB:=Aside0.mk (below_step (bl_ HB).out hb);clear hb hbox hg;obtain⟨hcz3_0,hcz3_1,hcz3_2,hfz3_0,hfz3_1,hfz3_2⟩:=bo3_ BK516))
 go_loopg [3,13] k (fun kq v3 v13 w'=>∃(x3_1:List ByteArray) (x13_1:Int),v13= .int .i64 x13_1∧Aside0 (rule_Rule_String.l0 kq x3_1 l0_1 (l0_1.length:Int) x13_1 a0_0 l0_1 a0_2=some r)∧Aside0 (kq≤k)∧Aside0 (Kd.R Kd.string 9 w' w.heap.size (fun _=>True) v3 x3_1)∧Aside0 (w'.heap[gb516]? = some (.cells #[.int .i64 a0_0,(.slice A0_1 l0_1.length c0_1),.string a0_2] 32 (0,0)))∧Aside0 (Below w.heap.size w w'))
 case atStart=>exact⟨(([]:List ByteArray)),(0),eq_,H',⟨Nat.le_refl _⟩,⟨by first|exact Kd.R_nil _ _ _ _ _|exact Kd.N_nil _ _ _ _ _|exact Kd.V_nil _ _ _ _ _|exact Kd.Q_nil _ _ _ _ _|exact Kd.S_nil _ _ _ _ _⟩,(bk_ BK516),(bl_ HB)⟩
 case round =>
  clear H'
  obtain⟨x3_1,x13_1,rfl,HA,HK1,HO_3,BK516,HB⟩:=hrel
  cases gk with
  | zero=>exact absurd HA.out (by simp[rule_Rule_String.l0])
  | succ k1 =>
   have H:=HA.out
   clear HA
   simp only[rule_Rule_String.l0] at H
   by_cases c4:x13_1<(l0_1.length:Int)
   ·rw[if_pos c4] at H
    have c4b0:=decide_eq_true c4
    clear c4
    replace H:=ifn_ H
    obtain⟨c5,H⟩:=H
    have c5b0:decide (0≤x13_1)=true:=decide_eq_true c5
    clear c5
    replace H:=ifn_ H
    obtain⟨c6,H⟩:=H
    have c6b0:decide (x13_1<(l0_1.length:Int))=true:=decide_eq_true c6
    clear c6
    have H':=Aside0.mk H
    clear H
    have p517:0≤(x13_1:Int):=od_
    have q517:x13_1<(l0_1.length:Int):=od_
    obtain⟨ad517,A517_0,c517_0,e517,hx517_0,hl517_0,hi517_0⟩:=at_L7 HR0_1.out x13_1 p517 q517
    cases e517
    replace hx517_0:=hbc_ HB hx517_0
    have HR517_0:=Aside0.mk hi517_0
    have HC517_0:=Aside0.mk hl517_0
    clear hi517_0 hl517_0
    replace p517:=eq_true p517
    replace q517:=eq_true q517
    go_wp2
    go_loopg [6,19] k1 (fun kq v6 v19 w'=>∃(x6_2:List ByteArray) (x19_2:Int),v19= .int .i64 x19_2∧Aside0 (rule_Rule_String.l1 kq x3_1 x6_2 l0_1 (l0_1.length:Int) x13_1 (rd_L7 l0_1 x13_1) ((rd_L7 l0_1 x13_1).length:Int) x19_2 a0_0 l0_1 a0_2=some r)∧Aside0 (kq≤k1)∧Aside0 (Kd.R Kd.string 9 w' w.heap.size (fun k_=>some k_≠(v6:Value).ownBlock) u3 x3_1)∧Aside0 (Kd.R Kd.string 9 w' w.heap.size (fun k_=>some k_≠(u3:Value).ownBlock) v6 x6_2)∧Aside0 (w'.heap[gb516]? = some (.cells #[.int .i64 a0_0,(.slice (some ad517) l0_1.length c0_1),.string a0_2] 32 (0,0)))∧Aside0 (Below w.heap.size w w'))
    case atStart=>exact⟨(([]:List ByteArray)),(0),eq_,H',⟨Nat.le_refl _⟩,⟨kdR_ (Kd.R_mono HO_3.out (fun _ hk=>(by simp[Value.ownBlock])))⟩,⟨by first|exact Kd.R_nil _ _ _ _ _|exact Kd.N_nil _ _ _ _ _|exact Kd.V_nil _ _ _ _ _|exact Kd.Q_nil _ _ _ _ _|exact Kd.S_nil _ _ _ _ _⟩,(bk_ BK516),(bl_ HB)⟩
    case round =>
     clear H'
     obtain⟨x6_2,x19_2,rfl,HA,HK2,HO_3,HO_6,BK516,HB⟩:=hrel
     cases gk with
     | zero=>exact absurd HA.out (by simp[rule_Rule_String.l1])
     | succ k2 =>
      have H:=HA.out
      clear HA
      simp only[rule_Rule_String.l1] at H
      by_cases c7:x19_2<((rd_L7 l0_1 x13_1).length:Int)
      ·rw[if_pos c7] at H
       have c7b0:=decide_eq_true c7
       clear c7
       replace H:=ifn_ H
       obtain⟨c8,H⟩:=H
       have c8b0:decide (0≤x19_2)=true:=decide_eq_true c8
       clear c8
       replace H:=ifn_ H
       obtain⟨c9,H⟩:=H
       have c9b0:decide (x19_2<((rd_L7 l0_1 x13_1).length:Int))=true:=decide_eq_true c9
       clear c9
       replace H:=Option.bind_eq_some_iff.mp H
       obtain⟨t520,A100,H⟩:=H
       have A10:=Aside0.mk A100
       clear A100
       replace H:=ifn_ H
       obtain⟨c11,H⟩:=H
       have LMc11:=Aside0.mk c11
       clear c11
       obtain⟨y521,hy521⟩:∃y_:List ByteArray,y_=(x6_2++[t520]):=⟨_,rfl⟩
       replace H:(rule_Rule_String.l1 k2 x3_1 y521 l0_1 (l0_1.length:Int) x13_1 (rd_L7 l0_1 x13_1) ((rd_L7 l0_1 x13_1).length:Int) (wrap64 (x19_2+1)) a0_0 l0_1 a0_2)=some r:=by first|(rw[hy521];with_reducible exact H)|(have H2_:=(Option.bind_some _ _).symm.trans H;rw[hy521];with_reducible exact H2_)|(have H2_:=(Option.bind_some _ _).symm.trans H;with_reducible exact H2_)|with_reducible exact H|(rw[hy521];exact H)|exact H
       have Ny521:=Aside0.mk hy521
       clear hy521
       have H':=Aside0.mk H
       clear H
       have p518:0≤(x19_2:Int):=od_
       have q518:x19_2<((rd_L7 l0_1 x13_1).length:Int):=od_
       obtain⟨ad518,A518_3,c518_3,e518,hx518_0,hx518_1,hx518_2,hx518_3,hl518_3,hi518_3⟩:=at_T36 HR517_0.out x19_2 p518 q518
       cases e518
       replace hx518_0:=hbc_ HB hx518_0
       replace hx518_1:=hbc_ HB hx518_1
       replace hx518_2:=hbc_ HB hx518_2
       replace hx518_3:=hbc_ HB hx518_3
       have HR518_3:=Aside0.mk hi518_3
       have HC518_3:=Aside0.mk hl518_3
       clear hi518_3 hl518_3
       replace p518:=eq_true p518
       replace q518:=eq_true q518
       go_wp2_with (first|((with_reducible refine gate_dst (N:=8) rfl ?_);refine be_ 8 #[.int .u8 0,.int .i64 0,.bool false,.slice none 0 0] 36 ?_;intro gb519 hg w12 hbox hb;have BK519:=Aside0.mk (hbox);have GW519:=sz_ HB hg;have GE519:=sz_ HB hg;have NB516_519:=na_ BK516 hg;have NB519_516:=nb_ BK516 hg;replace HO_3:=kb_ HO_3 hb;replace HO_6:=kb_ HO_6 hb;replace BK516:=bb_ BK516 hb;replace HB:=Aside0.mk (below_step (bl_ HB).out hb);clear hb hbox hg;have hnb13:=NB519_516.out;have hnc13:=NB516_519.out;obtain⟨hcz14_0,hcz14_1,hcz14_2,hcz14_3,hfz14_0,hfz14_1,hfz14_2,hfz14_3⟩:=bo4_ BK519)|((with_reducible refine gate_callee (f:=22) rfl ?_);refine gl_ (some 25) Tryd.func22 #[.agg #[.int .u8 ((rd_T36 (rd_L7 l0_1 x13_1) x19_2).f0),.int .i64 ((rd_T36 (rd_L7 l0_1 x13_1) x19_2).f1),.bool ((rd_T36 (rd_L7 l0_1 x13_1) x19_2).f2),.slice A518_3 ((rd_T36 (rd_L7 l0_1 x13_1) x19_2).f3).length c518_3]] ?_;(with_reducible refine(rule_Rel_String.calls _ _ _ _ _ _ _ _ _ ?side1 ?side2 A10.out).mono ?_);(case side1=>exact Kd.C_below HR518_3.out (bl_ HB).out);(case side2=>exact HC518_3.out);rintro e w15 ⟨rfl,hb⟩;refine⟨_,rfl,?_⟩;have n0_:=Aside0.mk (Kd.R_below (kdR_ ((Kd.R_mono (Kd.R_far (Kd.R_far (Kd.R_far (Kd.R_far (Kd.R_types HO_3.out BK519.out (by decide)) (fun _ hk=>hk.2) _) (fun _ hk=>hk.2) _) (fun _ hk=>hk.2) _) (fun _ hk=>hk.2) _) (fun _ h_=>h_.1)))) hb);have n1_:=Aside0.mk (Kd.R_below (kdR_ ((Kd.R_mono (Kd.R_far (Kd.R_far (Kd.R_far (Kd.R_far (Kd.R_types HO_6.out BK519.out (by decide)) (fun _ hk=>hk.2) _) (fun _ hk=>hk.2) _) (fun _ hk=>hk.2) _) (fun _ hk=>hk.2) _) (fun _ h_=>h_.1)))) hb);have n2_:=bz_ BK516 hb;have n3_:=Aside0.mk (blk_below (g:=gb519) (o:= .cells #[.int .u8 ((rd_T36 (rd_L7 l0_1 x13_1) x19_2).f0),.int .i64 ((rd_T36 (rd_L7 l0_1 x13_1) x19_2).f1),.bool ((rd_T36 (rd_L7 l0_1 x13_1) x19_2).f2),.slice A518_3 ((rd_T36 (rd_L7 l0_1 x13_1) x19_2).f3).length c518_3] 36 (0,0)) ((bp_ BK519).out) hb);have n4_:=Aside0.mk (below_step (bl_ HB).out hb);clear HO_3;clear HO_6;clear BK516;clear BK519;clear HB;have HO_3:=n0_;have HO_6:=n1_;have BK516:=n2_;have BK519:=n3_;have HB:=n4_;clear n0_ n1_ n2_ n3_ n4_;(try clear hb);(try clear hi))|((with_reducible refine gate_builtin (b:= .append) (xs:= #[.tmp 23,.tmp 26]) rfl ?_);at_builtin;refine Kd.R_append Kd.string (w0:=w) w.heap.size rfl (.tmp 23) (.tmp 26) 47 9 (.string ⟨#[]⟩) 16 rfl Tryd.underlying47 info9 rfl (by decide) (by omega) u6 x6_2 t520 [.string t520] (fun k_=>some k_≠(u3:Value).ownBlock) (fun _=>False) rfl rfl ?aP (fun _ hk=>hk.elim) ?aF ?aO ?aB ?aS ?aL ?_;(case aP=>exact rfl);(case aB=>exact(bl_ HB).out);(case aF=>exact(fun k_ hk=>Kd.fresh' (kx_ HO_3) k_ hk));(case aO=>exact(kr_ HO_6));(case aS=>exact(below_size (bl_ HB).out));(case aL=>have:=LMc11.out;omega);intro v522 w16 ho hb hg hat;rw[← Ny521.out] at ho;have n0_:=Aside0.mk (Kd.R_after (ok:=(fun _=>True)) (kdR_ (Kd.R_mono HO_3.out (fun _ hk=>⟨trivial,hk⟩))) hg hat);have n1_:=Aside0.mk (blk_grown (bk_ BK516).out hg (Kd.R_ne HO_6.out BK516.out (by decide)));have n2_:=Aside0.mk (blk_grown (bk_ BK519).out hg (Kd.R_ne HO_6.out BK519.out (by decide)));have n3_:=Aside0.mk (hb);have n4_:=Aside0.mk (ho);clear HO_3;clear BK516;clear BK519;clear HB;clear HO_6;have HO_3:=n0_;have BK516:=n1_;have BK519:=n2_;have HB:=n3_;have HO523:=n4_;clear n0_ n1_ n2_ n3_ n4_;clear ho hb hg hat))
       go_roundg k2
       case measure=>have:=HK1.out;have:=HK2.out;omega
       case rel=>exact⟨(y521),(wrap64 (x19_2+1)),eq_,H',⟨by have:=HK1.out;have:=HK2.out;omega⟩,⟨kdR_ (Kd.R_mono HO_3.out (fun _ hk=>hk.2))⟩,⟨kdR_ HO523.out⟩,(bk_ BK516),(bl_ HB)⟩
      ·rw[if_neg c7] at H
       have c7b0:=decide_eq_false c7
       clear c7
       replace H:=Option.bind_eq_some_iff.mp H
       obtain⟨t524,A170,H⟩:=H
       have A17:=Aside0.mk A170
       clear A170
       replace H:=ifn_ H
       obtain⟨c18,H⟩:=H
       have LMc18:=Aside0.mk c18
       clear c18
       obtain⟨y525,hy525⟩:∃y_:List ByteArray,y_=(x3_1++[t524]):=⟨_,rfl⟩
       replace H:(rule_Rule_String.l0 k2 y525 l0_1 (l0_1.length:Int) (wrap64 (x13_1+1)) a0_0 l0_1 a0_2)=some r:=by first|(rw[hy525];with_reducible exact H)|(have H2_:=(Option.bind_some _ _).symm.trans H;rw[hy525];with_reducible exact H2_)|(have H2_:=(Option.bind_some _ _).symm.trans H;with_reducible exact H2_)|with_reducible exact H|(rw[hy525];exact H)|exact H
       have Ny525:=Aside0.mk hy525
       clear hy525
       have H':=Aside0.mk H
       clear H
       obtain⟨Ao19,co19,eo19⟩:=Kd.R_slice HO_6.out
       subst eo19
       go_wp2_with (first|((with_reducible refine gate_callee (f:=16) rfl ?_);refine gl_ (some 31) Tryd.func16 #[.slice Ao19 x6_2.length co19,.string (⟨#[32,97,110,100,32]⟩:ByteArray)] ?_;(with_reducible refine(strings_Join.calls _ _ _ _ _ _ ?side1 ?side2 A17.out).mono ?_);(case side1=>exact kc_ HO_6);(case side2=>exact kl_ HO_6);rintro e w20 ⟨rfl,hb⟩;refine⟨_,rfl,?_⟩;replace HO_3:=kb_ HO_3 hb;replace HO_6:=kb_ HO_6 hb;replace BK516:=bb_ BK516 hb;replace HB:=Aside0.mk (below_step (bl_ HB).out hb);(try clear hb);(try clear hi))|((with_reducible refine gate_builtin (b:= .append) (xs:= #[.tmp 29,.tmp 32]) rfl ?_);at_builtin;refine Kd.R_append Kd.string (w0:=w) w.heap.size rfl (.tmp 29) (.tmp 32) 47 9 (.string ⟨#[]⟩) 16 rfl Tryd.underlying47 info9 rfl (by decide) (by omega) u3 x3_1 t524 [.string t524] (fun k_=>some k_≠(.slice Ao19 x6_2.length co19:Value).ownBlock) (fun _=>False) rfl rfl ?aP (fun _ hk=>hk.elim) ?aF ?aO ?aB ?aS ?aL ?_;(case aP=>exact rfl);(case aB=>exact(bl_ HB).out);(case aF=>exact(fun k_ hk=>Kd.fresh' (kx_ HO_6) k_ hk));(case aO=>exact(kr_ HO_3));(case aS=>exact(below_size (bl_ HB).out));(case aL=>have:=LMc18.out;omega);intro v526 w21 ho hb hg hat;rw[← Ny525.out] at ho;have n0_:=Aside0.mk (Kd.R_after (ok:=(fun _=>True)) (kdR_ (Kd.R_mono HO_6.out (fun _ hk=>⟨trivial,hk⟩))) hg hat);have n1_:=Aside0.mk (blk_grown (bk_ BK516).out hg (Kd.R_ne HO_3.out BK516.out (by decide)));have n2_:=Aside0.mk (hb);have n3_:=Aside0.mk (ho);clear HO_6;clear BK516;clear HB;clear HO_3;have HO_6:=n0_;have BK516:=n1_;have HB:=n2_;have HO527:=n3_;clear n0_ n1_ n2_ n3_;clear ho hb hg hat))
       go_roundg k2
       case measure=>have:=HK1.out;have:=HK2.out;omega
       case rel=>exact⟨(y525),(wrap64 (x13_1+1)),eq_,H',⟨by have:=HK1.out;have:=HK2.out;omega⟩,⟨kdR_ (Kd.R_mono HO527.out (fun _ hk=>trivial))⟩,(bk_ BK516),(bl_ HB)⟩
   ·rw[if_neg c4] at H
    have c4b0:=decide_eq_false c4
    clear c4
    replace H:=Option.bind_eq_some_iff.mp H
    obtain⟨t528,A220,H⟩:=H
    have A22:=Aside0.mk A220
    clear A220
    replace H:=ifn_ H
    obtain⟨c23,H⟩:=H
    have c23b0:=eq_true c23
    have c23b1:decide (t528.size+1≤9223372036854775807)=true:=decide_eq_true c23
    try have c23b2:=eq_false (Nat.not_lt.2 c23)
    by_cases c24:(x3_1.length:Int)>0
    ·rw[if_pos c24] at H
     have c24b0:decide (0<(x3_1.length:Int))=true:=decide_eq_true c24
     have c24b1:decide (0<x3_1.length)=true:=decide_eq_true (by omega)
     clear c24
     replace H:=Option.bind_eq_some_iff.mp H
     obtain⟨t529,A250,H⟩:=H
     have A25:=Aside0.mk A250
     clear A250
     replace H:=ifn_ H
     obtain⟨c26,H⟩:=H
     have c26b0:=eq_true c26
     have c26b1:decide (1+t529.size≤9223372036854775807)=true:=decide_eq_true c26
     try have c26b2:=eq_false (Nat.not_lt.2 c26)
     replace H:=ifn_ H
     obtain⟨c27,H⟩:=H
     have c27b0:=eq_true c27
     have c27b1:decide ((t528++(⟨#[58]⟩:ByteArray)).size+((⟨#[32]⟩:ByteArray)++t529).size≤9223372036854775807)=true:=decide_eq_true c27
     try (have c27b5:=c27b0;simp only[ByteArray.size_append,Int.natCast_add] at c27b5)
     try have c27b2:=eq_false (Nat.not_lt.2 c27)
     try have c27b3:(9223372036854775807<t528.size+1+1+t529.size)=False:=eq_false (Nat.not_lt.2 (by have h_:=c27;simp only[ByteArray.size_append] at h_;exact h_))
     try have c27b4:(t528.size+1+1+t529.size≤9223372036854775807)=True:=eq_true (by have h_:=c27;simp only[ByteArray.size_append] at h_;exact h_)
     by_cases c28:a0_2.toList=([]:List UInt8)
     ·rw[if_pos c28] at H
      have c28b0:(a0_2.toList==([]:List UInt8))=true:=beq_iff_eq.mpr c28
      have c28b1:(a0_2.toList !=([]:List UInt8))=false:=bne_eq_false_iff_eq.mpr c28
      have c28b2:(a0_2.toList.isEmpty)=true:=by rw[c28];rfl
      clear c28
      obtain rfl:=Option.some.inj H
      obtain⟨hcz29_0,hcz29_1,hcz29_2,hfz29_0,hfz29_1,hfz29_2⟩:=bo3_ BK516
      go_wp2_with (first|((with_reducible refine gate_callee (f:=12) rfl ?_);refine gl_ (some 37) Tryd.func12 #[.int .i64 a0_0] ?_;(with_reducible refine(rule_Cat_String.calls _ _ _ A22.out).mono ?_);rintro e w30 ⟨rfl,hb⟩;refine⟨_,rfl,?_⟩;replace HO_3:=kb_ HO_3 hb;replace BK516:=bb_ BK516 hb;replace HB:=Aside0.mk (below_step (bl_ HB).out hb);(try clear hb);obtain⟨Ao31,co31,eo31⟩:=Kd.R_slice HO_3.out;subst eo31)|((with_reducible refine gate_callee (f:=16) rfl ?_);refine gl_ (some 44) Tryd.func16 #[.slice Ao31 x3_1.length co31,.string (⟨#[32,111,114,32]⟩:ByteArray)] ?_;(with_reducible refine(strings_Join.calls _ _ _ _ _ _ ?side1 ?side2 A25.out).mono ?_);(case side1=>exact kc_ HO_3);(case side2=>exact kl_ HO_3);rintro e w32 ⟨rfl,hb⟩;refine⟨_,rfl,?_⟩;replace HO_3:=kb_ HO_3 hb;replace BK516:=bb_ BK516 hb;replace HB:=Aside0.mk (below_step (bl_ HB).out hb);(try clear hb);obtain⟨hcz33_0,hcz33_1,hcz33_2,hfz33_0,hfz33_1,hfz33_2⟩:=bo3_ BK516))
      go_ret
      exact⟨ew_,(bl_ HB).out⟩
     ·rw[if_neg c28] at H
      have c28b0:(a0_2.toList==([]:List UInt8))=false:=beq_eq_false_iff_ne.mpr c28
      have c28b1:(a0_2.toList !=([]:List UInt8))=true:=bne_iff_ne.mpr c28
      have c28b2:(a0_2.toList.isEmpty)=false:=by rw[given_isEmpty,bne_iff_ne.mpr c28];rfl
      replace H:=ifn_ H
      obtain⟨c34,H⟩:=H
      have c34b0:=eq_true c34
      have c34b1:decide (1+a0_2.size≤9223372036854775807)=true:=decide_eq_true c34
      try have c34b2:=eq_false (Nat.not_lt.2 c34)
      replace H:=ifn_ H
      obtain⟨c35,H⟩:=H
      have c35b0:=eq_true c35
      have c35b1:decide (((t528++(⟨#[58]⟩:ByteArray))++((⟨#[32]⟩:ByteArray)++t529)).size+((⟨#[32]⟩:ByteArray)++a0_2).size≤9223372036854775807)=true:=decide_eq_true c35
      try (have c35b5:=c35b0;simp only[ByteArray.size_append,Int.natCast_add] at c35b5)
      try have c35b2:=eq_false (Nat.not_lt.2 c35)
      try have c35b3:(9223372036854775807<t528.size+1+1+t529.size+1+a0_2.size)=False:=eq_false (Nat.not_lt.2 (by have h_:=c35;simp only[ByteArray.size_append] at h_;exact h_))
      try have c35b4:(t528.size+1+1+t529.size+1+a0_2.size≤9223372036854775807)=True:=eq_true (by have h_:=c35;simp only[ByteArray.size_append] at h_;exact h_)
      obtain rfl:=Option.some.inj H
      obtain⟨hcz36_0,hcz36_1,hcz36_2,hfz36_0,hfz36_1,hfz36_2⟩:=bo3_ BK516
      go_wp2_with (first|((with_reducible refine gate_callee (f:=12) rfl ?_);refine gl_ (some 37) Tryd.func12 #[.int .i64 a0_0] ?_;(with_reducible refine(rule_Cat_String.calls _ _ _ A22.out).mono ?_);rintro e w37 ⟨rfl,hb⟩;refine⟨_,rfl,?_⟩;replace HO_3:=kb_ HO_3 hb;replace BK516:=bb_ BK516 hb;replace HB:=Aside0.mk (below_step (bl_ HB).out hb);(try clear hb);obtain⟨Ao38,co38,eo38⟩:=Kd.R_slice HO_3.out;subst eo38)|((with_reducible refine gate_callee (f:=16) rfl ?_);refine gl_ (some 44) Tryd.func16 #[.slice Ao38 x3_1.length co38,.string (⟨#[32,111,114,32]⟩:ByteArray)] ?_;(with_reducible refine(strings_Join.calls _ _ _ _ _ _ ?side1 ?side2 A25.out).mono ?_);(case side1=>exact kc_ HO_3);(case side2=>exact kl_ HO_3);rintro e w39 ⟨rfl,hb⟩;refine⟨_,rfl,?_⟩;replace HO_3:=kb_ HO_3 hb;replace BK516:=bb_ BK516 hb;replace HB:=Aside0.mk (below_step (bl_ HB).out hb);(try clear hb);obtain⟨hcz40_0,hcz40_1,hcz40_2,hfz40_0,hfz40_1,hfz40_2⟩:=bo3_ BK516))
      go_ret
      exact⟨ew_,(bl_ HB).out⟩
    ·rw[if_neg c24] at H
     have c24b0:decide (0<(x3_1.length:Int))=false:=decide_eq_false c24
     have c24b1:decide (0<x3_1.length)=false:=decide_eq_false (by omega)
     clear c24
     by_cases c41:a0_2.toList=([]:List UInt8)
     ·rw[if_pos c41] at H
      have c41b0:(a0_2.toList==([]:List UInt8))=true:=beq_iff_eq.mpr c41
      have c41b1:(a0_2.toList !=([]:List UInt8))=false:=bne_eq_false_iff_eq.mpr c41
      have c41b2:(a0_2.toList.isEmpty)=true:=by rw[c41];rfl
      clear c41
      obtain rfl:=Option.some.inj H
      obtain⟨hcz42_0,hcz42_1,hcz42_2,hfz42_0,hfz42_1,hfz42_2⟩:=bo3_ BK516
      go_wp2_with (first|((with_reducible refine gate_callee (f:=12) rfl ?_);refine gl_ (some 37) Tryd.func12 #[.int .i64 a0_0] ?_;(with_reducible refine(rule_Cat_String.calls _ _ _ A22.out).mono ?_);rintro e w43 ⟨rfl,hb⟩;refine⟨_,rfl,?_⟩;replace HO_3:=kb_ HO_3 hb;replace BK516:=bb_ BK516 hb;replace HB:=Aside0.mk (below_step (bl_ HB).out hb);(try clear hb);obtain⟨Ao44,co44,eo44⟩:=Kd.R_slice HO_3.out;subst eo44;obtain⟨hcz45_0,hcz45_1,hcz45_2,hfz45_0,hfz45_1,hfz45_2⟩:=bo3_ BK516))
      go_ret
      exact⟨ew_,(bl_ HB).out⟩
     ·rw[if_neg c41] at H
      have c41b0:(a0_2.toList==([]:List UInt8))=false:=beq_eq_false_iff_ne.mpr c41
      have c41b1:(a0_2.toList !=([]:List UInt8))=true:=bne_iff_ne.mpr c41
      have c41b2:(a0_2.toList.isEmpty)=false:=by rw[given_isEmpty,bne_iff_ne.mpr c41];rfl
      replace H:=ifn_ H
      obtain⟨c46,H⟩:=H
      have c46b0:=eq_true c46
      have c46b1:decide (1+a0_2.size≤9223372036854775807)=true:=decide_eq_true c46
      try have c46b2:=eq_false (Nat.not_lt.2 c46)
      replace H:=ifn_ H
      obtain⟨c47,H⟩:=H
      have c47b0:=eq_true c47
      have c47b1:decide ((t528++(⟨#[58]⟩:ByteArray)).size+((⟨#[32]⟩:ByteArray)++a0_2).size≤9223372036854775807)=true:=decide_eq_true c47
      try (have c47b5:=c47b0;simp only[ByteArray.size_append,Int.natCast_add] at c47b5)
      try have c47b2:=eq_false (Nat.not_lt.2 c47)
      try have c47b3:(9223372036854775807<t528.size+1+1+a0_2.size)=False:=eq_false (Nat.not_lt.2 (by have h_:=c47;simp only[ByteArray.size_append] at h_;exact h_))
      try have c47b4:(t528.size+1+1+a0_2.size≤9223372036854775807)=True:=eq_true (by have h_:=c47;simp only[ByteArray.size_append] at h_;exact h_)
      obtain rfl:=Option.some.inj H
      obtain⟨hcz48_0,hcz48_1,hcz48_2,hfz48_0,hfz48_1,hfz48_2⟩:=bo3_ BK516
      go_wp2_with (first|((with_reducible refine gate_callee (f:=12) rfl ?_);refine gl_ (some 37) Tryd.func12 #[.int .i64 a0_0] ?_;(with_reducible refine(rule_Cat_String.calls _ _ _ A22.out).mono ?_);rintro e w49 ⟨rfl,hb⟩;refine⟨_,rfl,?_⟩;replace HO_3:=kb_ HO_3 hb;replace BK516:=bb_ BK516 hb;replace HB:=Aside0.mk (below_step (bl_ HB).out hb);(try clear hb);obtain⟨Ao50,co50,eo50⟩:=Kd.R_slice HO_3.out;subst eo50;obtain⟨hcz51_0,hcz51_1,hcz51_2,hfz51_0,hfz51_1,hfz51_2⟩:=bo3_ BK516))
      go_ret
      exact⟨ew_,(bl_ HB).out⟩

/-! ### rule_Rules_String: function 9 -/
def rule_Rules_String.l0:Nat→List ByteArray→List (S32)→Int→Int→Option (ByteArray)
 | 0,_,_,_,_=>none
 | k+1,x3,x6,x7,x8=>if x8<x7 then (if 0≤x8 then (if x8<(x6.length:Int) then ((rule_Rule_String.f k ((rd_T32 x6 x8).f0) ((rd_T32 x6 x8).f1) ((rd_T32 x6 x8).f2)).bind fun t532=>(if x3.length<8796093022208 then (rule_Rules_String.l0 k (x3++[t532]) x6 x7 (wrap64 (x8+1))) else (none))) else (none)) else (none)) else ((strings_Join.f x3 (⟨#[59,32]⟩:ByteArray)).bind fun t536=>(some t536))
def rule_Rules_String.f (k:Nat) (l0:List (S32)):Option (ByteArray):=rule_Rules_String.l0 k ([]:List ByteArray) l0 (l0.length:Int) 0
set_option maxHeartbeats 64000000 in
set_option maxRecDepth 100000 in
theorem rule_Rules_String.calls (k:Nat) (A0:Option Addr) (c0:Nat) (l0:List (S32)) (r:ByteArray) (w:World) (hr0:Kd.C k32 w A0 l0.length l0) (hc0:l0.length≤c0) (h:rule_Rules_String.f k l0=some r) (ht:Lib.TabIs Tryd.prog w "internal/strconv.uint64pow10" .u64 Lib.pow10Tab:=by first|assumption|exact tb_ (by assumption) (bl_ (by assumption)).out) :
  Calls Tryd.prog 9 #[.slice A0 l0.length c0] w fun e w'=>e= .returned (.string r)∧Below w.heap.size w w':=by
 have hu32:=Tryd.underlying32
 have HR0:=Aside0.mk hr0
 have HC0:=Aside0.mk hc0
 clear hr0 hc0
 have HB:=Aside0.mk (Below.refl w.heap.size w)
 have H:(rule_Rules_String.l0 k ([]:List ByteArray) l0 (l0.length:Int) 0)=some r:=h
 clear h
 have H':=Aside0.mk H
 clear H
 go_enter Tryd.func9,Tryd.ntmps9
 go_wp2
 go_loopg [3,8] k (fun kq v3 v8 w'=>∃(x3_1:List ByteArray) (x8_1:Int),v8= .int .i64 x8_1∧Aside0 (rule_Rules_String.l0 kq x3_1 l0 (l0.length:Int) x8_1=some r)∧Aside0 (kq≤k)∧Aside0 (Kd.R Kd.string 9 w' w.heap.size (fun _=>True) v3 x3_1)∧Aside0 (Below w.heap.size w w'))
 case atStart=>exact⟨(([]:List ByteArray)),(0),eq_,H',⟨Nat.le_refl _⟩,⟨by first|exact Kd.R_nil _ _ _ _ _|exact Kd.N_nil _ _ _ _ _|exact Kd.V_nil _ _ _ _ _|exact Kd.Q_nil _ _ _ _ _|exact Kd.S_nil _ _ _ _ _⟩,(bl_ HB)⟩
 case round =>
  clear H'
  obtain⟨x3_1,x8_1,rfl,HA,HK1,HO_3,HB⟩:=hrel
  cases gk with
  | zero=>exact absurd HA.out (by simp[rule_Rules_String.l0])
  | succ k1 =>
   have H:=HA.out
   clear HA
   simp only[rule_Rules_String.l0] at H
   by_cases c2:x8_1<(l0.length:Int)
   ·rw[if_pos c2] at H
    have c2b0:=decide_eq_true c2
    clear c2
    replace H:=ifn_ H
    obtain⟨c3,H⟩:=H
    have c3b0:decide (0≤x8_1)=true:=decide_eq_true c3
    clear c3
    replace H:=ifn_ H
    obtain⟨c4,H⟩:=H
    have c4b0:decide (x8_1<(l0.length:Int))=true:=decide_eq_true c4
    clear c4
    replace H:=Option.bind_eq_some_iff.mp H
    obtain⟨t532,A50,H⟩:=H
    have A5:=Aside0.mk A50
    clear A50
    replace H:=ifn_ H
    obtain⟨c6,H⟩:=H
    have LMc6:=Aside0.mk c6
    clear c6
    obtain⟨y533,hy533⟩:∃y_:List ByteArray,y_=(x3_1++[t532]):=⟨_,rfl⟩
    replace H:(rule_Rules_String.l0 k1 y533 l0 (l0.length:Int) (wrap64 (x8_1+1)))=some r:=by first|(rw[hy533];with_reducible exact H)|(have H2_:=(Option.bind_some _ _).symm.trans H;rw[hy533];with_reducible exact H2_)|(have H2_:=(Option.bind_some _ _).symm.trans H;with_reducible exact H2_)|with_reducible exact H|(rw[hy533];exact H)|exact H
    have Ny533:=Aside0.mk hy533
    clear hy533
    have H':=Aside0.mk H
    clear H
    have p530:0≤(x8_1:Int):=od_
    have q530:x8_1<(l0.length:Int):=od_
    obtain⟨ad530,A530_1,c530_1,e530,hx530_0,hx530_1,hx530_2,hl530_1,hi530_1⟩:=at_T32 HR0.out x8_1 p530 q530
    cases e530
    replace hx530_0:=hbc_ HB hx530_0
    replace hx530_1:=hbc_ HB hx530_1
    replace hx530_2:=hbc_ HB hx530_2
    have HR530_1:=Aside0.mk hi530_1
    have HC530_1:=Aside0.mk hl530_1
    clear hi530_1 hl530_1
    replace p530:=eq_true p530
    replace q530:=eq_true q530
    go_wp2_with (first|((with_reducible refine gate_dst (N:=5) rfl ?_);refine be_ 5 #[.int .i64 0,.slice none 0 0,.string (⟨#[]⟩:ByteArray)] 32 ?_;intro gb531 hg w7 hbox hb;have BK531:=Aside0.mk (hbox);have GW531:=sz_ HB hg;have GE531:=sz_ HB hg;replace HO_3:=kb_ HO_3 hb;replace HB:=Aside0.mk (below_step (bl_ HB).out hb);clear hb hbox hg;obtain⟨hcz8_0,hcz8_1,hcz8_2,hfz8_0,hfz8_1,hfz8_2⟩:=bo3_ BK531)|((with_reducible refine gate_callee (f:=15) rfl ?_);refine gl_ (some 14) Tryd.func15 #[.agg #[.int .i64 ((rd_T32 l0 x8_1).f0),.slice A530_1 ((rd_T32 l0 x8_1).f1).length c530_1,.string ((rd_T32 l0 x8_1).f2)]] ?_;(with_reducible refine(rule_Rule_String.calls _ _ _ _ _ _ _ _ ?side1 ?side2 A5.out).mono ?_);(case side1=>exact Kd.C_below HR530_1.out (bl_ HB).out);(case side2=>exact HC530_1.out);rintro e w9 ⟨rfl,hb⟩;refine⟨_,rfl,?_⟩;have n0_:=Aside0.mk (Kd.R_below (kdR_ ((Kd.R_mono (Kd.R_far (Kd.R_far (Kd.R_far (Kd.R_types HO_3.out BK531.out (by decide)) (fun _ hk=>hk.2) _) (fun _ hk=>hk.2) _) (fun _ hk=>hk.2) _) (fun _ h_=>h_.1)))) hb);have n1_:=Aside0.mk (blk_below (g:=gb531) (o:= .cells #[.int .i64 ((rd_T32 l0 x8_1).f0),.slice A530_1 ((rd_T32 l0 x8_1).f1).length c530_1,.string ((rd_T32 l0 x8_1).f2)] 32 (0,0)) ((bp_ BK531).out) hb);have n2_:=Aside0.mk (below_step (bl_ HB).out hb);clear HO_3;clear BK531;clear HB;have HO_3:=n0_;have BK531:=n1_;have HB:=n2_;clear n0_ n1_ n2_;(try clear hb);(try clear hi))|((with_reducible refine gate_builtin (b:= .append) (xs:= #[.tmp 12,.tmp 15]) rfl ?_);at_builtin;refine Kd.R_append Kd.string (w0:=w) w.heap.size rfl (.tmp 12) (.tmp 15) 47 9 (.string ⟨#[]⟩) 16 rfl Tryd.underlying47 info9 rfl (by decide) (by omega) u3 x3_1 t532 [.string t532] (fun _=>True) (fun _=>False) rfl rfl ?aP (fun _ hk=>hk.elim) ?aF ?aO ?aB ?aS ?aL ?_;(case aP=>exact rfl);(case aB=>exact(bl_ HB).out);(case aF=>exact(fun _ _=>trivial));(case aO=>exact(kr_ HO_3));(case aS=>exact(below_size (bl_ HB).out));(case aL=>have:=LMc6.out;omega);intro v534 w10 ho hb hg hat;rw[← Ny533.out] at ho;have n0_:=Aside0.mk (blk_grown (bk_ BK531).out hg (Kd.R_ne HO_3.out BK531.out (by decide)));have n1_:=Aside0.mk (hb);have n2_:=Aside0.mk (ho);clear BK531;clear HB;clear HO_3;have BK531:=n0_;have HB:=n1_;have HO535:=n2_;clear n0_ n1_ n2_;clear ho hb hg hat))
    go_roundg k1
    case measure=>have:=HK1.out;omega
    case rel=>exact⟨(y533),(wrap64 (x8_1+1)),eq_,H',⟨by have:=HK1.out;omega⟩,⟨kdR_ HO535.out⟩,(bl_ HB)⟩
   ·rw[if_neg c2] at H
    have c2b0:=decide_eq_false c2
    clear c2
    replace H:=Option.bind_eq_some_iff.mp H
    obtain⟨t536,A110,H⟩:=H
    have A11:=Aside0.mk A110
    clear A110
    obtain rfl:=Option.some.inj H
    obtain⟨Ao12,co12,eo12⟩:=Kd.R_slice HO_3.out
    subst eo12
    go_wp2_with (first|((with_reducible refine gate_callee (f:=16) rfl ?_);refine gl_ (some 19) Tryd.func16 #[.slice Ao12 x3_1.length co12,.string (⟨#[59,32]⟩:ByteArray)] ?_;(with_reducible refine(strings_Join.calls _ _ _ _ _ _ ?side1 ?side2 A11.out).mono ?_);(case side1=>exact kc_ HO_3);(case side2=>exact kl_ HO_3);rintro e w13 ⟨rfl,hb⟩;refine⟨_,rfl,?_⟩;replace HO_3:=kb_ HO_3 hb;replace HB:=Aside0.mk (below_step (bl_ HB).out hb);(try clear hb);(try clear hi)))
    go_ret
    exact⟨ew_,(bl_ HB).out⟩

/-! ### florinlaw06_head: function 7 -/
def florinlaw06_head.f (k:Nat):Option (Bool):=(rule_Parse.f k (⟨#[111,110,101,58,105,61,49,32,97,110,100,32,118,32,61,32,48,59,111,116,104,101,114,58]⟩:ByteArray)).bind fun bt537=>(if bt537.2.1=0 then (if (bt537.1.length:Int)=2 then (if 0<(bt537.1.length:Int) then (if (((rd_T32 bt537.1 0).f1).length:Int)=1 then (if 0<(((rd_T32 bt537.1 0).f1).length:Int) then (if ((rd_L7 ((rd_T32 bt537.1 0).f1) 0).length:Int)=2 then (if 0<((rd_L7 ((rd_T32 bt537.1 0).f1) 0).length:Int) then (if ((rd_T36 (rd_L7 ((rd_T32 bt537.1 0).f1) 0) 0).f0)=105 then ((rule_Rules_String.f k bt537.1).bind fun t548=>(some (t548.toList==([111,110,101,58,32,105,32,61,32,49,32,97,110,100,32,118,32,61,32,48,59,32,111,116,104,101,114,58]:List UInt8)))) else (none)) else (none)) else (none)) else (none)) else (none)) else (none)) else (none)) else (none))
set_option maxHeartbeats 64000000 in
set_option maxRecDepth 100000 in
theorem florinlaw06_head.calls (k:Nat)  (r:Bool) (w:World) (h:florinlaw06_head.f k=some r) (ht:Lib.TabIs Tryd.prog w "internal/strconv.uint64pow10" .u64 Lib.pow10Tab:=by first|assumption|exact tb_ (by assumption) (bl_ (by assumption)).out) :
  Calls Tryd.prog 7 #[] w fun e w'=>e= .returned (.bool r)∧Below w.heap.size w w':=by
 have HB:=Aside0.mk (Below.refl w.heap.size w)
 have H:((rule_Parse.f k (⟨#[111,110,101,58,105,61,49,32,97,110,100,32,118,32,61,32,48,59,111,116,104,101,114,58]⟩:ByteArray)).bind fun bt537=>(if bt537.2.1=0 then (if (bt537.1.length:Int)=2 then (if 0<(bt537.1.length:Int) then (if (((rd_T32 bt537.1 0).f1).length:Int)=1 then (if 0<(((rd_T32 bt537.1 0).f1).length:Int) then (if ((rd_L7 ((rd_T32 bt537.1 0).f1) 0).length:Int)=2 then (if 0<((rd_L7 ((rd_T32 bt537.1 0).f1) 0).length:Int) then (if ((rd_T36 (rd_L7 ((rd_T32 bt537.1 0).f1) 0) 0).f0)=105 then ((rule_Rules_String.f k bt537.1).bind fun t548=>(some (t548.toList==([111,110,101,58,32,105,32,61,32,49,32,97,110,100,32,118,32,61,32,48,59,32,111,116,104,101,114,58]:List UInt8)))) else (none)) else (none)) else (none)) else (none)) else (none)) else (none)) else (none)) else (none)))=some r:=h
 clear h
 replace H:=Option.bind_eq_some_iff.mp H
 obtain⟨⟨t537,t540,t541⟩,A10,H⟩:=H
 dsimp only at H
 have A1:=Aside0.mk A10
 clear A10
 replace H:=ifn_ H
 obtain⟨c2,H⟩:=H
 have c2b0:(t540==0)=true:=beq_iff_eq.mpr c2
 have c2b1:(t540 !=0)=false:=bne_eq_false_iff_eq.mpr c2
 clear c2
 replace H:=ifn_ H
 obtain⟨c3,H⟩:=H
 have c3b0:((t537.length:Int)==2)=true:=beq_iff_eq.mpr c3
 have c3b1:((t537.length:Int) !=2)=false:=bne_eq_false_iff_eq.mpr c3
 clear c3
 replace H:=ifn_ H
 obtain⟨c4,H⟩:=H
 have c4b0:decide (0<(t537.length:Int))=true:=decide_eq_true c4
 have c4b1:decide (0<t537.length)=true:=decide_eq_true (by omega)
 clear c4
 replace H:=ifn_ H
 obtain⟨c5,H⟩:=H
 have c5b0:((((rd_T32 t537 0).f1).length:Int)==1)=true:=beq_iff_eq.mpr c5
 have c5b1:((((rd_T32 t537 0).f1).length:Int) !=1)=false:=bne_eq_false_iff_eq.mpr c5
 clear c5
 replace H:=ifn_ H
 obtain⟨c6,H⟩:=H
 have c6b0:decide (0<(((rd_T32 t537 0).f1).length:Int))=true:=decide_eq_true c6
 have c6b1:decide (0<((rd_T32 t537 0).f1).length)=true:=decide_eq_true (by omega)
 clear c6
 replace H:=ifn_ H
 obtain⟨c7,H⟩:=H
 have c7b0:(((rd_L7 ((rd_T32 t537 0).f1) 0).length:Int)==2)=true:=beq_iff_eq.mpr c7
 have c7b1:(((rd_L7 ((rd_T32 t537 0).f1) 0).length:Int) !=2)=false:=bne_eq_false_iff_eq.mpr c7
 clear c7
 replace H:=ifn_ H
 obtain⟨c8,H⟩:=H
 have c8b0:decide (0<((rd_L7 ((rd_T32 t537 0).f1) 0).length:Int))=true:=decide_eq_true c8
 have c8b1:decide (0<(rd_L7 ((rd_T32 t537 0).f1) 0).length)=true:=decide_eq_true (by omega)
 clear c8
 replace H:=ifn_ H
 obtain⟨c9,H⟩:=H
 have c9b0:(((rd_T36 (rd_L7 ((rd_T32 t537 0).f1) 0) 0).f0)==105)=true:=beq_iff_eq.mpr c9
 have c9b1:(((rd_T36 (rd_L7 ((rd_T32 t537 0).f1) 0) 0).f0) !=105)=false:=bne_eq_false_iff_eq.mpr c9
 clear c9
 replace H:=Option.bind_eq_some_iff.mp H
 obtain⟨t548,A100,H⟩:=H
 have A10:=Aside0.mk A100
 clear A100
 obtain rfl:=Option.some.inj H
 go_enter Tryd.func7,Tryd.ntmps7
 go_wp2_with (first|((with_reducible refine gate_callee (f:=8) rfl ?_);refine gl_ (some 5) Tryd.func8 #[.string (⟨#[111,110,101,58,105,61,49,32,97,110,100,32,118,32,61,32,48,59,111,116,104,101,114,58]⟩:ByteArray)] ?_;(with_reducible refine(rule_Parse.calls _ _ _ _ _ _ A1.out).mono ?_);rintro e w11 ⟨v538,rfl,ho0,hb⟩;refine⟨_,rfl,?_⟩;have HO539:=Aside0.mk (Kd.N_lower (Kd.N_mono (ok':=fun k_=>True) ho0 (fun k_ hk_=>trivial)) (below_size (bl_ HB).out));replace HB:=Aside0.mk (below_step (bl_ HB).out hb);(try clear hb);(try clear ho0);obtain⟨Ao12,co12,eo12⟩:=Kd.N_slice HO539.out;subst eo12;have p542:0≤(0:Int):=(by omega);have q542:0<(t537.length:Int):=od_;obtain⟨ad542,A542_1,c542_1,e542,hx542_0,hx542_1,hx542_2,hl542_1,hi542_1⟩:=at_T32 (Kd.N_reads' HO539.out).2.2 0 p542 q542;cases e542;obtain⟨ce542,hce542,hMe542,hcc542⟩:=Kd.N_get HO539.out z32 0 p542 (by first|exact q542|exact od_|(have e_:=(Kd.N_reads' HO539.out).1;omega));obtain⟨ua542_1,uc542_1,rfl,ul542_1,ge542_1⟩:=k32_openF hMe542;have hv542_1:=hcc542 1 _ rfl;rw[add_field _ _ 1 (by omega)] at hv542_1;replace hv542_1:=Option.some.inj (hv542_1.symm.trans hx542_1);injection hv542_1 with hva_ hvn_ hvc_;rw[hva_] at ge542_1;rw[hvc_] at ul542_1;have HL542_1:=Aside0.mk (show Kd.V (Kd.slice 36 k36) 33 _ w.heap.size _ _ ((rd_T32 t537 0).f1) from Kd.V_mk ul542_1 ge542_1);clear hva_ hvn_ hvc_ ge542_1 ul542_1;clear hcc542 hce542;have qi542:(0<t537.length)=True:=eq_true (by omega);(try rw[show((0:Int)).toNat=0 from rfl] at hx542_0);(try rw[show 0*3=0 from rfl] at hx542_0);(try rw[Addr.add_zero'] at hx542_0);(try rw[show((0:Int)).toNat=0 from rfl] at hx542_1);(try rw[show 0*3=0 from rfl] at hx542_1);(try rw[Addr.add_zero'] at hx542_1);(try rw[show((0:Int)).toNat=0 from rfl] at hx542_2);(try rw[show 0*3=0 from rfl] at hx542_2);(try rw[Addr.add_zero'] at hx542_2);have HR542_1:=Aside0.mk hi542_1;have HC542_1:=Aside0.mk hl542_1;clear hi542_1 hl542_1;replace p542:=eq_true p542;replace q542:=eq_true q542;have p543:0≤(0:Int):=(by omega);have q543:0<(t537.length:Int):=od_;obtain⟨ad543,A543_1,c543_1,e543,hx543_0,hx543_1,hx543_2,hl543_1,hi543_1⟩:=at_T32 (Kd.N_reads' HO539.out).2.2 0 p543 q543;obtain rfl:ad542=ad543:=(by injection e543);obtain⟨ce543,hce543,hMe543,hcc543⟩:=Kd.N_get HO539.out z32 0 p543 (by first|exact q543|exact od_|(have e_:=(Kd.N_reads' HO539.out).1;omega));obtain⟨ua543_1,uc543_1,rfl,ul543_1,ge543_1⟩:=k32_openF hMe543;have hv543_1:=hcc543 1 _ rfl;rw[add_field _ _ 1 (by omega)] at hv543_1;replace hv543_1:=Option.some.inj (hv543_1.symm.trans hx543_1);injection hv543_1 with hva_ hvn_ hvc_;rw[hva_] at ge543_1;rw[hvc_] at ul543_1;have HL543_1:=Aside0.mk (show Kd.V (Kd.slice 36 k36) 33 _ w.heap.size _ _ ((rd_T32 t537 0).f1) from Kd.V_mk ul543_1 ge543_1);clear hva_ hvn_ hvc_ ge543_1 ul543_1;clear hcc543 hce543;have qi543:(0<t537.length)=True:=eq_true (by omega);(try rw[show((0:Int)).toNat=0 from rfl] at hx543_0);(try rw[show 0*3=0 from rfl] at hx543_0);(try rw[Addr.add_zero'] at hx543_0);(try rw[show((0:Int)).toNat=0 from rfl] at hx543_1);(try rw[show 0*3=0 from rfl] at hx543_1);(try rw[Addr.add_zero'] at hx543_1);(try rw[show((0:Int)).toNat=0 from rfl] at hx543_2);(try rw[show 0*3=0 from rfl] at hx543_2);(try rw[Addr.add_zero'] at hx543_2);have HR543_1:=Aside0.mk hi543_1;have HC543_1:=Aside0.mk hl543_1;clear hi543_1 hl543_1;replace p543:=eq_true p543;replace q543:=eq_true q543;have ea_:=Option.some.inj (hx542_1.symm.trans hx543_1);injection ea_ with ea_ en_ ec_;subst ea_;subst ec_;clear en_;have p544:0≤(0:Int):=(by omega);have q544:0<(((rd_T32 t537 0).f1).length:Int):=od_;obtain⟨ad544,A544_0,c544_0,e544,hx544_0,hl544_0,hi544_0⟩:=at_L7 (by repeat(first|(with_reducible exact HR543_1.out)|(with_reducible refine Kd.C_alloc ?_ _)|(with_reducible refine Kd.C_drewN ?_ _)|(with_reducible refine Kd.C_drew ?_)|exact HR543_1.out)) 0 p544 q544;cases e544;obtain⟨ce544,hce544,hMe544,hcc544⟩:=Kd.V_get HL543_1.out [] 0 p544 (by first|exact q544|exact od_|(have e_:=(Kd.V_reads' HL543_1.out).1;omega));obtain⟨ua544_0,uc544_0,rfl,ul544_0,ge544_0⟩:=Kd.FK_slice_open hMe544;have hv544_0:=hcc544 0 _ rfl;rw[Nat.add_zero,show((Kd.slice 36 k36)).sz=1 from rfl,Nat.mul_one] at hv544_0;replace hv544_0:=Option.some.inj (hv544_0.symm.trans hx544_0);injection hv544_0 with hva_ hvn_ hvc_;rw[hva_] at ge544_0;rw[hvc_] at ul544_0;have HL544_0:=Aside0.mk (show Kd.V k36 36 _ w.heap.size _ _ (rd_L7 ((rd_T32 t537 0).f1) 0) from Kd.V_mk ul544_0 ge544_0);clear hva_ hvn_ hvc_ ge544_0 ul544_0;clear hcc544 hce544;have qi544:(0<((rd_T32 t537 0).f1).length)=True:=eq_true (by omega);(try rw[show((0:Int)).toNat=0 from rfl] at hx544_0);(try rw[Addr.add_zero'] at hx544_0);have HR544_0:=Aside0.mk hi544_0;have HC544_0:=Aside0.mk hl544_0;clear hi544_0 hl544_0;replace p544:=eq_true p544;replace q544:=eq_true q544;have p545:0≤(0:Int):=(by omega);have q545:0<(t537.length:Int):=od_;obtain⟨ad545,A545_1,c545_1,e545,hx545_0,hx545_1,hx545_2,hl545_1,hi545_1⟩:=at_T32 (Kd.N_reads' HO539.out).2.2 0 p545 q545;obtain rfl:ad542=ad545:=(by injection e545);obtain⟨ce545,hce545,hMe545,hcc545⟩:=Kd.N_get HO539.out z32 0 p545 (by first|exact q545|exact od_|(have e_:=(Kd.N_reads' HO539.out).1;omega));obtain⟨ua545_1,uc545_1,rfl,ul545_1,ge545_1⟩:=k32_openF hMe545;have hv545_1:=hcc545 1 _ rfl;rw[add_field _ _ 1 (by omega)] at hv545_1;replace hv545_1:=Option.some.inj (hv545_1.symm.trans hx545_1);injection hv545_1 with hva_ hvn_ hvc_;rw[hva_] at ge545_1;rw[hvc_] at ul545_1;have HL545_1:=Aside0.mk (show Kd.V (Kd.slice 36 k36) 33 _ w.heap.size _ _ ((rd_T32 t537 0).f1) from Kd.V_mk ul545_1 ge545_1);clear hva_ hvn_ hvc_ ge545_1 ul545_1;clear hcc545 hce545;have qi545:(0<t537.length)=True:=eq_true (by omega);(try rw[show((0:Int)).toNat=0 from rfl] at hx545_0);(try rw[show 0*3=0 from rfl] at hx545_0);(try rw[Addr.add_zero'] at hx545_0);(try rw[show((0:Int)).toNat=0 from rfl] at hx545_1);(try rw[show 0*3=0 from rfl] at hx545_1);(try rw[Addr.add_zero'] at hx545_1);(try rw[show((0:Int)).toNat=0 from rfl] at hx545_2);(try rw[show 0*3=0 from rfl] at hx545_2);(try rw[Addr.add_zero'] at hx545_2);have HR545_1:=Aside0.mk hi545_1;have HC545_1:=Aside0.mk hl545_1;clear hi545_1 hl545_1;replace p545:=eq_true p545;replace q545:=eq_true q545;have ea_:=Option.some.inj (hx542_1.symm.trans hx545_1);injection ea_ with ea_ en_ ec_;subst ea_;subst ec_;clear en_;have p546:0≤(0:Int):=(by omega);have q546:0<(((rd_T32 t537 0).f1).length:Int):=od_;obtain⟨ad546,A546_0,c546_0,e546,hx546_0,hl546_0,hi546_0⟩:=at_L7 (by repeat(first|(with_reducible exact HR545_1.out)|(with_reducible refine Kd.C_alloc ?_ _)|(with_reducible refine Kd.C_drewN ?_ _)|(with_reducible refine Kd.C_drew ?_)|exact HR545_1.out)) 0 p546 q546;cases e546;obtain⟨ce546,hce546,hMe546,hcc546⟩:=Kd.V_get HL545_1.out [] 0 p546 (by first|exact q546|exact od_|(have e_:=(Kd.V_reads' HL545_1.out).1;omega));obtain⟨ua546_0,uc546_0,rfl,ul546_0,ge546_0⟩:=Kd.FK_slice_open hMe546;have hv546_0:=hcc546 0 _ rfl;rw[Nat.add_zero,show((Kd.slice 36 k36)).sz=1 from rfl,Nat.mul_one] at hv546_0;replace hv546_0:=Option.some.inj (hv546_0.symm.trans hx546_0);injection hv546_0 with hva_ hvn_ hvc_;rw[hva_] at ge546_0;rw[hvc_] at ul546_0;have HL546_0:=Aside0.mk (show Kd.V k36 36 _ w.heap.size _ _ (rd_L7 ((rd_T32 t537 0).f1) 0) from Kd.V_mk ul546_0 ge546_0);clear hva_ hvn_ hvc_ ge546_0 ul546_0;clear hcc546 hce546;have qi546:(0<((rd_T32 t537 0).f1).length)=True:=eq_true (by omega);(try rw[show((0:Int)).toNat=0 from rfl] at hx546_0);(try rw[Addr.add_zero'] at hx546_0);have HR546_0:=Aside0.mk hi546_0;have HC546_0:=Aside0.mk hl546_0;clear hi546_0 hl546_0;replace p546:=eq_true p546;replace q546:=eq_true q546;have ea_:=Option.some.inj (hx544_0.symm.trans hx546_0);injection ea_ with ea_ en_ ec_;subst ea_;subst ec_;clear en_;have p547:0≤(0:Int):=(by omega);have q547:0<((rd_L7 ((rd_T32 t537 0).f1) 0).length:Int):=od_;obtain⟨ad547,A547_3,c547_3,e547,hx547_0,hx547_1,hx547_2,hx547_3,hl547_3,hi547_3⟩:=at_T36 (by repeat(first|(with_reducible exact HR546_0.out)|(with_reducible refine Kd.C_alloc ?_ _)|(with_reducible refine Kd.C_drewN ?_ _)|(with_reducible refine Kd.C_drew ?_)|exact HR546_0.out)) 0 p547 q547;cases e547;obtain⟨ce547,hce547,hMe547,hcc547⟩:=Kd.V_get HL546_0.out z36 0 p547 (by first|exact q547|exact od_|(have e_:=(Kd.V_reads' HL546_0.out).1;omega));obtain⟨ua547_3,uc547_3,rfl,ul547_3,ge547_3⟩:=k36_openF hMe547;have hv547_3:=hcc547 3 _ rfl;rw[add_field _ _ 3 (by omega)] at hv547_3;replace hv547_3:=Option.some.inj (hv547_3.symm.trans hx547_3);injection hv547_3 with hva_ hvn_ hvc_;rw[hva_] at ge547_3;rw[hvc_] at ul547_3;have HL547_3:=Aside0.mk (show Kd.V k38 38 _ w.heap.size _ _ ((rd_T36 (rd_L7 ((rd_T32 t537 0).f1) 0) 0).f3) from Kd.V_mk ul547_3 ge547_3);clear hva_ hvn_ hvc_ ge547_3 ul547_3;clear hcc547 hce547;have qi547:(0<(rd_L7 ((rd_T32 t537 0).f1) 0).length)=True:=eq_true (by omega);(try rw[show((0:Int)).toNat=0 from rfl] at hx547_0);(try rw[show 0*4=0 from rfl] at hx547_0);(try rw[Addr.add_zero'] at hx547_0);(try rw[show((0:Int)).toNat=0 from rfl] at hx547_1);(try rw[show 0*4=0 from rfl] at hx547_1);(try rw[Addr.add_zero'] at hx547_1);(try rw[show((0:Int)).toNat=0 from rfl] at hx547_2);(try rw[show 0*4=0 from rfl] at hx547_2);(try rw[Addr.add_zero'] at hx547_2);(try rw[show((0:Int)).toNat=0 from rfl] at hx547_3);(try rw[show 0*4=0 from rfl] at hx547_3);(try rw[Addr.add_zero'] at hx547_3);have HR547_3:=Aside0.mk hi547_3;have HC547_3:=Aside0.mk hl547_3;clear hi547_3 hl547_3;replace p547:=eq_true p547;replace q547:=eq_true q547)|(go_at_call 9;(with_reducible refine(rule_Rules_String.calls _ _ _ _ _ _ ?side1 ?side2 A10.out).mono ?_);(case side1=>repeat(first|exact(Kd.N_reads' HO539.out).2.2|(with_reducible refine Kd.C_alloc ?_ _)|(with_reducible refine Kd.C_drewN ?_ _)|(with_reducible refine Kd.C_drew ?_)));(case side2=>exact(Kd.N_reads' HO539.out).2.1);rintro e w13 ⟨rfl,hb⟩;replace HO539:=Aside0.mk (Kd.N_below (krN_ HO539) hb);replace HL542_1:=Aside0.mk (Kd.V_below (krV_ HL542_1) hb);replace HL543_1:=Aside0.mk (Kd.V_below (krV_ HL543_1) hb);replace HL544_0:=Aside0.mk (Kd.V_below (krV_ HL544_0) hb);replace HL545_1:=Aside0.mk (Kd.V_below (krV_ HL545_1) hb);replace HL546_0:=Aside0.mk (Kd.V_below (krV_ HL546_0) hb);replace HL547_3:=Aside0.mk (Kd.V_below (krV_ HL547_3) hb);replace HR542_1:=Aside0.mk (Kd.C_below (by repeat(first|(with_reducible exact HR542_1.out)|(with_reducible refine Kd.C_alloc ?_ _)|(with_reducible refine Kd.C_drewN ?_ _)|(with_reducible refine Kd.C_drew ?_)|exact HR542_1.out)) hb);replace HR543_1:=Aside0.mk (Kd.C_below (by repeat(first|(with_reducible exact HR543_1.out)|(with_reducible refine Kd.C_alloc ?_ _)|(with_reducible refine Kd.C_drewN ?_ _)|(with_reducible refine Kd.C_drew ?_)|exact HR543_1.out)) hb);replace HR544_0:=Aside0.mk (Kd.C_below (by repeat(first|(with_reducible exact HR544_0.out)|(with_reducible refine Kd.C_alloc ?_ _)|(with_reducible refine Kd.C_drewN ?_ _)|(with_reducible refine Kd.C_drew ?_)|exact HR544_0.out)) hb);replace HR545_1:=Aside0.mk (Kd.C_below (by repeat(first|(with_reducible exact HR545_1.out)|(with_reducible refine Kd.C_alloc ?_ _)|(with_reducible refine Kd.C_drewN ?_ _)|(with_reducible refine Kd.C_drew ?_)|exact HR545_1.out)) hb);replace HR546_0:=Aside0.mk (Kd.C_below (by repeat(first|(with_reducible exact HR546_0.out)|(with_reducible refine Kd.C_alloc ?_ _)|(with_reducible refine Kd.C_drewN ?_ _)|(with_reducible refine Kd.C_drew ?_)|exact HR546_0.out)) hb);replace HR547_3:=Aside0.mk (Kd.C_below (by repeat(first|(with_reducible exact HR547_3.out)|(with_reducible refine Kd.C_alloc ?_ _)|(with_reducible refine Kd.C_drewN ?_ _)|(with_reducible refine Kd.C_drew ?_)|exact HR547_3.out)) hb);replace HB:=Aside0.mk (below_step (bl_ HB).out hb);(try clear hb);(try clear hi)))
 go_ret
 exact⟨ew_,(bl_ HB).out⟩

end Go.Proofs.YtcokjmnkieakiaaDoor.P
