-- written by a program of this session (wip/p2)
import Derived.Test.YtcokjmnkieakiaaGreatDoorPx0
import Derived.Test.YtcokjmnkieakiaaGreatDoorPx7
namespace Go.Proofs.YtcokjmnkieakiaaGreatDoor.P
open Go.RowKit Go.Proofs.YtcokjmnkieakiaaGreatDoorW.PrintWords Go.Proofs.YtcokjmnkieakiaaGreatDoorW.PrintLast Go.Proofs.YtcokjmnkieakiaaGreatDoorW.PrintMore
attribute [local go_sem] max2_int min2_int max_two min_two max_three min_three max_four min_four   -- for this text's walks alone
set_option linter.unusedVariables false
set_option linter.unusedSimpArgs false

/-! ### florinlaw06_Relation_relation: function 22 -/
mutual
def florinlaw06_Relation_relation.j0:Nat→ByteArray→ByteArray→Int→Int→Int→Bool→List (S85)→Int→Int→Bool→Option (Int × Int × Bool × (List (S73)) × ByteArray)
 | 0,_,_,_,_,_,_,_,_,_,_=>none
 | k+1,x5,x6,x573000,x573001,x573002,x573003,x573004,x575000,x575001,x575002=>if x575002=true then (if x6.size+1≤9223372036854775807 then (florinlaw06_Relation_relation.j1 k x5 (x6++(⟨#[33]⟩:ByteArray)) x573000 x573001 x573002 x573003 x573004 x575000 x575001 x575002) else (none)) else (florinlaw06_Relation_relation.j1 k x5 x6 x573000 x573001 x573002 x573003 x573004 x575000 x575001 x575002)
def florinlaw06_Relation_relation.j1:Nat→ByteArray→ByteArray→Int→Int→Int→Bool→List (S85)→Int→Int→Bool→Option (Int × Int × Bool × (List (S73)) × ByteArray)
 | 0,_,_,_,_,_,_,_,_,_,_=>none
 | k+1,x5,x6,x573000,x573001,x573002,x573003,x573004,x575000,x575001,x575002=>if x6.size+1≤9223372036854775807 then (if (x6++(⟨#[61]⟩:ByteArray)).size+x5.size≤9223372036854775807 then ((some (([]:List (S85)):List (S85))).bind fun y580=>(if y580.length+x573004.length<8796093022208 then ((some (y580++x573004:List (S85))).bind fun y583=>(if (y583.length:Int)=0 then (if y583.length<8796093022208 then (florinlaw06_Relation_relation.j2 k x5 ((x6++(⟨#[61]⟩:ByteArray))++x5) (y583++[(⟨0,0⟩:S85)]) x575000 x575001 x575002) else (none)) else (florinlaw06_Relation_relation.j2 k x5 ((x6++(⟨#[61]⟩:ByteArray))++x5) y583 x575000 x575001 x575002))) else (none))) else (none)) else (none)
def florinlaw06_Relation_relation.j2:Nat→ByteArray→ByteArray→List (S85)→Int→Int→Bool→Option (Int × Int × Bool × (List (S73)) × ByteArray)
 | 0,_,_,_,_,_,_=>none
 | k+1,x5,x6,x7,x575000,x575001,x575002=>florinlaw06_Relation_relation.l0 k x5 x6 x7 (x7.length:Int) 0 x575000 x575001 x575002 ([]:List (S73))
def florinlaw06_Relation_relation.l0:Nat→ByteArray→ByteArray→List (S85)→Int→Int→Int→Int→Bool→List (S73)→Option (Int × Int × Bool × (List (S73)) × ByteArray)
 | 0,_,_,_,_,_,_,_,_,_=>none
 | k+1,x5,x6,x62,x63,x64,x575000,x575001,x575002,x575003=>if x64<x63 then (if 0≤x64 then (if x64<(x62.length:Int) then (if x575003.length<8796093022208 then ((some (x575003++[(⟨Go.bits .and .i64 ((rd_T85 x62 x64).f0) 1048575,wrap64 ((Go.bits .and .i64 ((rd_T85 x62 x64).f0) 1048575)+(Go.bits .and .i64 ((rd_T85 x62 x64).f1) 3))⟩:S73)]:List (S73))).bind fun y592=>(if x64>0 then (if x6.size+x5.size≤9223372036854775807 then (if (x6++x5).size+1≤9223372036854775807 then (if ((x6++x5)++(⟨#[44]⟩:ByteArray)).size+x5.size≤9223372036854775807 then (florinlaw06_Relation_relation.j4 k x5 (((x6++x5)++(⟨#[44]⟩:ByteArray))++x5) x62 x63 x64 x575000 x575001 x575002 y592 ((rd_T85 x62 x64).f0) ((rd_T85 x62 x64).f1) (Go.bits .and .i64 ((rd_T85 x62 x64).f0) 1048575) (wrap64 ((Go.bits .and .i64 ((rd_T85 x62 x64).f0) 1048575)+(Go.bits .and .i64 ((rd_T85 x62 x64).f1) 3)))) else (none)) else (none)) else (none)) else (florinlaw06_Relation_relation.j4 k x5 x6 x62 x63 x64 x575000 x575001 x575002 y592 ((rd_T85 x62 x64).f0) ((rd_T85 x62 x64).f1) (Go.bits .and .i64 ((rd_T85 x62 x64).f0) 1048575) (wrap64 ((Go.bits .and .i64 ((rd_T85 x62 x64).f0) 1048575)+(Go.bits .and .i64 ((rd_T85 x62 x64).f1) 3)))))) else (none)) else (none)) else (none)) else (some (x575000,x575001,x575002,x575003,x6))
def florinlaw06_Relation_relation.j4:Nat→ByteArray→ByteArray→List (S85)→Int→Int→Int→Int→Bool→List (S73)→Int→Int→Int→Int→Option (Int × Int × Bool × (List (S73)) × ByteArray)
 | 0,_,_,_,_,_,_,_,_,_,_,_,_,_=>none
 | k+1,x5,x6,x62,x63,x64,x575000,x575001,x575002,x575003,x591000,x591001,x592000,x592001=>(florinlaw06_digits.f k x592000).bind fun t595=>(if x6.size+t595.size≤9223372036854775807 then (if x592000=x592001 then (if (Go.bits .and .i64 x591001 4)=4 then (if (x6++t595).size+x5.size≤9223372036854775807 then (if ((x6++t595)++x5).size+2≤9223372036854775807 then (if (((x6++t595)++x5)++(⟨#[46,46]⟩:ByteArray)).size+x5.size≤9223372036854775807 then ((florinlaw06_digits.f k x592001).bind fun t596=>(if ((((x6++t595)++x5)++(⟨#[46,46]⟩:ByteArray))++x5).size+t596.size≤9223372036854775807 then (florinlaw06_Relation_relation.l0 k x5 (((((x6++t595)++x5)++(⟨#[46,46]⟩:ByteArray))++x5)++t596) x62 x63 (wrap64 (x64+1)) x575000 x575001 x575002 x575003) else (none))) else (none)) else (none)) else (none)) else (florinlaw06_Relation_relation.l0 k x5 (x6++t595) x62 x63 (wrap64 (x64+1)) x575000 x575001 x575002 x575003)) else (if (x6++t595).size+x5.size≤9223372036854775807 then (if ((x6++t595)++x5).size+2≤9223372036854775807 then (if (((x6++t595)++x5)++(⟨#[46,46]⟩:ByteArray)).size+x5.size≤9223372036854775807 then ((florinlaw06_digits.f k x592001).bind fun t597=>(if ((((x6++t595)++x5)++(⟨#[46,46]⟩:ByteArray))++x5).size+t597.size≤9223372036854775807 then (florinlaw06_Relation_relation.l0 k x5 (((((x6++t595)++x5)++(⟨#[46,46]⟩:ByteArray))++x5)++t597) x62 x63 (wrap64 (x64+1)) x575000 x575001 x575002 x575003) else (none))) else (none)) else (none)) else (none))) else (none))
end
def florinlaw06_Relation_relation.f (k:Nat) (a0_0:Int) (a0_1:Int) (a0_2:Int) (a0_3:Bool) (l0_4:List (S85)):Option (Int × Int × Bool × (List (S73)) × ByteArray):=if 0≤(Go.bits .and .i64 a0_0 7) then (if (Go.bits .and .i64 a0_0 7)<8 then ((florinlaw06_gap.f a0_2).bind fun t575=>((some (([bt (⟨#[110,105,118,119,102,116,99,101]⟩:ByteArray) (Go.bits .and .i64 a0_0 7)]:List Int):List Int)).bind fun y576=>(if (strOfNums y576).size+t575.size≤9223372036854775807 then (if (Go.bits .and .i64 a0_1 65535)=0 then (florinlaw06_Relation_relation.j0 k t575 ((strOfNums y576)++t575) a0_0 a0_1 a0_2 a0_3 l0_4 (bt (⟨#[110,105,118,119,102,116,99,101]⟩:ByteArray) (Go.bits .and .i64 a0_0 7)) (Go.bits .and .i64 a0_1 65535) a0_3) else (if ((strOfNums y576)++t575).size+1≤9223372036854775807 then (if (((strOfNums y576)++t575)++(⟨#[37]⟩:ByteArray)).size+t575.size≤9223372036854775807 then ((florinlaw06_digits.f k (Go.bits .and .i64 a0_1 65535)).bind fun t579=>(if ((((strOfNums y576)++t575)++(⟨#[37]⟩:ByteArray))++t575).size+t579.size≤9223372036854775807 then (if (((((strOfNums y576)++t575)++(⟨#[37]⟩:ByteArray))++t575)++t579).size+t575.size≤9223372036854775807 then (florinlaw06_Relation_relation.j0 k t575 ((((((strOfNums y576)++t575)++(⟨#[37]⟩:ByteArray))++t575)++t579)++t575) a0_0 a0_1 a0_2 a0_3 l0_4 (bt (⟨#[110,105,118,119,102,116,99,101]⟩:ByteArray) (Go.bits .and .i64 a0_0 7)) (Go.bits .and .i64 a0_1 65535) a0_3) else (none)) else (none))) else (none)) else (none))) else (none)))) else (none)) else (none)
def florinlaw06_Relation_relation.T1:Bool × List (List Nat × List Nat):=(true,[([],[]),([0],[0]),([1],[1]),([2],[2]),([],[]),([4],[4]),([5],[5]),([],[]),([7],[7]),([3,6,8],[3,6,8]),([],[]),([10,9,0,1,2,3,4,5,6,7,8,9,10],[9,10])])
def florinlaw06_Relation_relation.B1:List Nat:=[0,1,3,7,0,16,48,0,128,511,0,2047]
theorem florinlaw06_Relation_relation.tab1:rtab .any (opsOf Tryz.f22 1)=florinlaw06_Relation_relation.T1:=by kernel_rfl
theorem florinlaw06_Relation_relation.bits1:waitsOk florinlaw06_Relation_relation.T1.2 florinlaw06_Relation_relation.B1=true:=by kernel_rfl
set_option maxHeartbeats 64000000 in
set_option maxRecDepth 100000 in
theorem florinlaw06_Relation_relation.calls (k:Nat) (a0_0:Int) (a0_1:Int) (a0_2:Int) (a0_3:Bool) (A0_4:Option Addr) (c0_4:Nat) (l0_4:List (S85)) (r1:Int) (r2:Int) (r3:Bool) (r4:List (S73)) (r5:ByteArray) (w:World) (hr0_4:Kd.C k85 w A0_4 l0_4.length l0_4) (hc0_4:l0_4.length≤c0_4) (h:florinlaw06_Relation_relation.f k a0_0 a0_1 a0_2 a0_3 l0_4=some (r1,r2,r3,r4,r5)) :
  Calls Tryz.prog 22 #[.agg #[.int .i64 a0_0,.int .i64 a0_1,.int .i64 a0_2,.bool a0_3,.slice A0_4 l0_4.length c0_4]] w fun e w'=>∃v3_:Value,e= .returned (.tuple #[.agg #[.int .u8 r1,.int .i64 r2,.bool r3,v3_],.string r5])∧Kd.R k73 73 w' w.heap.size (fun _=>True) v3_ r4∧Below w.heap.size w w':=by
 have hu50:=Tryz.underlying50
 have hu43:=Tryz.underlying43
 have hu85:=Tryz.underlying85
 have hu73:=Tryz.underlying73
 have HR0_4:=Aside0.mk hr0_4
 have HC0_4:=Aside0.mk hc0_4
 clear hr0_4 hc0_4
 have HB:=Aside0.mk (Below.refl w.heap.size w)
 have H:(if 0≤(Go.bits .and .i64 a0_0 7) then (if (Go.bits .and .i64 a0_0 7)<8 then ((florinlaw06_gap.f a0_2).bind fun t575=>((some (([bt (⟨#[110,105,118,119,102,116,99,101]⟩:ByteArray) (Go.bits .and .i64 a0_0 7)]:List Int):List Int)).bind fun y576=>(if (strOfNums y576).size+t575.size≤9223372036854775807 then (if (Go.bits .and .i64 a0_1 65535)=0 then (florinlaw06_Relation_relation.j0 k t575 ((strOfNums y576)++t575) a0_0 a0_1 a0_2 a0_3 l0_4 (bt (⟨#[110,105,118,119,102,116,99,101]⟩:ByteArray) (Go.bits .and .i64 a0_0 7)) (Go.bits .and .i64 a0_1 65535) a0_3) else (if ((strOfNums y576)++t575).size+1≤9223372036854775807 then (if (((strOfNums y576)++t575)++(⟨#[37]⟩:ByteArray)).size+t575.size≤9223372036854775807 then ((florinlaw06_digits.f k (Go.bits .and .i64 a0_1 65535)).bind fun t579=>(if ((((strOfNums y576)++t575)++(⟨#[37]⟩:ByteArray))++t575).size+t579.size≤9223372036854775807 then (if (((((strOfNums y576)++t575)++(⟨#[37]⟩:ByteArray))++t575)++t579).size+t575.size≤9223372036854775807 then (florinlaw06_Relation_relation.j0 k t575 ((((((strOfNums y576)++t575)++(⟨#[37]⟩:ByteArray))++t575)++t579)++t575) a0_0 a0_1 a0_2 a0_3 l0_4 (bt (⟨#[110,105,118,119,102,116,99,101]⟩:ByteArray) (Go.bits .and .i64 a0_0 7)) (Go.bits .and .i64 a0_1 65535) a0_3) else (none)) else (none))) else (none)) else (none))) else (none)))) else (none)) else (none))=some (r1,r2,r3,r4,r5):=h
 clear h
 replace H:=ifn_ H
 obtain⟨c2,H⟩:=H
 have c2b0:decide (0≤(Go.bits .and .i64 a0_0 7))=true:=decide_eq_true c2
 clear c2
 replace H:=ifn_ H
 obtain⟨c3,H⟩:=H
 have c3b0:decide ((Go.bits .and .i64 a0_0 7)<8)=true:=decide_eq_true c3
 clear c3
 replace H:=Option.bind_eq_some_iff.mp H
 obtain⟨t575,A50,H⟩:=H
 replace H:((some (([bt (⟨#[110,105,118,119,102,116,99,101]⟩:ByteArray) (Go.bits .and .i64 a0_0 7)]:List Int):List Int)).bind fun y576=>(if (strOfNums y576).size+t575.size≤9223372036854775807 then (if (Go.bits .and .i64 a0_1 65535)=0 then (florinlaw06_Relation_relation.j0 k t575 ((strOfNums y576)++t575) a0_0 a0_1 a0_2 a0_3 l0_4 (bt (⟨#[110,105,118,119,102,116,99,101]⟩:ByteArray) (Go.bits .and .i64 a0_0 7)) (Go.bits .and .i64 a0_1 65535) a0_3) else (if ((strOfNums y576)++t575).size+1≤9223372036854775807 then (if (((strOfNums y576)++t575)++(⟨#[37]⟩:ByteArray)).size+t575.size≤9223372036854775807 then ((florinlaw06_digits.f k (Go.bits .and .i64 a0_1 65535)).bind fun t579=>(if ((((strOfNums y576)++t575)++(⟨#[37]⟩:ByteArray))++t575).size+t579.size≤9223372036854775807 then (if (((((strOfNums y576)++t575)++(⟨#[37]⟩:ByteArray))++t575)++t579).size+t575.size≤9223372036854775807 then (florinlaw06_Relation_relation.j0 k t575 ((((((strOfNums y576)++t575)++(⟨#[37]⟩:ByteArray))++t575)++t579)++t575) a0_0 a0_1 a0_2 a0_3 l0_4 (bt (⟨#[110,105,118,119,102,116,99,101]⟩:ByteArray) (Go.bits .and .i64 a0_0 7)) (Go.bits .and .i64 a0_1 65535) a0_3) else (none)) else (none))) else (none)) else (none))) else (none)))=some (r1,r2,r3,r4,r5):=H
 have A5:=Aside0.mk A50
 clear A50
 obtain⟨y576,hy576⟩:∃y_:List Int,y_=(([bt (⟨#[110,105,118,119,102,116,99,101]⟩:ByteArray) (Go.bits .and .i64 a0_0 7)]:List Int)):=⟨_,rfl⟩
 replace H:(if (strOfNums y576).size+t575.size≤9223372036854775807 then (if (Go.bits .and .i64 a0_1 65535)=0 then (florinlaw06_Relation_relation.j0 k t575 ((strOfNums y576)++t575) a0_0 a0_1 a0_2 a0_3 l0_4 (bt (⟨#[110,105,118,119,102,116,99,101]⟩:ByteArray) (Go.bits .and .i64 a0_0 7)) (Go.bits .and .i64 a0_1 65535) a0_3) else (if ((strOfNums y576)++t575).size+1≤9223372036854775807 then (if (((strOfNums y576)++t575)++(⟨#[37]⟩:ByteArray)).size+t575.size≤9223372036854775807 then ((florinlaw06_digits.f k (Go.bits .and .i64 a0_1 65535)).bind fun t579=>(if ((((strOfNums y576)++t575)++(⟨#[37]⟩:ByteArray))++t575).size+t579.size≤9223372036854775807 then (if (((((strOfNums y576)++t575)++(⟨#[37]⟩:ByteArray))++t575)++t579).size+t575.size≤9223372036854775807 then (florinlaw06_Relation_relation.j0 k t575 ((((((strOfNums y576)++t575)++(⟨#[37]⟩:ByteArray))++t575)++t579)++t575) a0_0 a0_1 a0_2 a0_3 l0_4 (bt (⟨#[110,105,118,119,102,116,99,101]⟩:ByteArray) (Go.bits .and .i64 a0_0 7)) (Go.bits .and .i64 a0_1 65535) a0_3) else (none)) else (none))) else (none)) else (none))) else (none))=some (r1,r2,r3,r4,r5):=by first|(rw[hy576];with_reducible exact H)|(have H2_:=(Option.bind_some _ _).symm.trans H;rw[hy576];with_reducible exact H2_)|(have H2_:=(Option.bind_some _ _).symm.trans H;with_reducible exact H2_)|with_reducible exact H|(rw[hy576];exact H)|exact H
 have Ny576:=Aside0.mk hy576
 clear hy576
 replace H:=ifn_ H
 obtain⟨c6,H⟩:=H
 have c6b0:=eq_true c6
 have c6b1:decide ((strOfNums y576).size+t575.size≤9223372036854775807)=true:=decide_eq_true c6
 try have c6b2:=eq_false (Nat.not_lt.2 c6)
 have HC7:=Aside0.mk H
 clear H
 go_enter Tryz.func22,Tryz.ntmps22
 try go_wp2_with (first|((with_reducible refine gate_dst (N:=1) rfl ?_);refine be_ 1 #[.int .i64 a0_0,.int .i64 a0_1,.int .i64 a0_2,.bool a0_3,.slice A0_4 l0_4.length c0_4] 50 ?_;intro gb572 hg w8 hbox hb;have BK572:=Aside0.mk (hbox);have GW572:=sz_ HB hg;have GE572:=sz_ HB hg;replace HB:=Aside0.mk (below_step (bl_ HB).out hb);clear hb hbox hg)|((with_reducible refine gate_dst (N:=2) rfl ?_);refine be_ 2 #[.int .u8 0,.int .i64 0,.bool false,.slice none 0 0] 43 ?_;intro gb573 hg w9 hbox hb;have BK573:=Aside0.mk (hbox);have GW573:=sz_ HB hg;have GE573:=sz_ HB hg;have NB572_573:=na_ BK572 hg;have NB573_572:=nb_ BK572 hg;replace BK572:=bb_ BK572 hb;replace HB:=Aside0.mk (below_step (bl_ HB).out hb);clear hb hbox hg))
 replace BK572:=Aside0.mk (blk_drew BK572.out)
 replace BK573:=Aside0.mk (blk_drew BK573.out)
 replace HB:=Aside0.mk (below_drew1 HB.out)
 have p4:0≤((Go.bits .and .i64 a0_0 7):Int):=od_
 have q4:(Go.bits .and .i64 a0_0 7)<(8:Int):=od_
 have hx4:=bt_at (⟨#[110,105,118,119,102,116,99,101]⟩:ByteArray) (Go.bits .and .i64 a0_0 7)
 replace p4:=eq_true p4
 replace q4:=eq_true q4
 refine start_ (n:=12) (S:=fun w'=>w'.cell? ⟨gb572,0,none⟩=some (.int .i64 a0_0)∧w'.cell? ⟨gb572,1,none⟩=some (.int .i64 a0_1)∧w'.cell? ⟨gb572,2,none⟩=some (.int .i64 a0_2)∧w'.cell? ⟨gb572,3,none⟩=some (.bool a0_3)∧w'.cell? ⟨gb572,4,none⟩=some (.slice A0_4 l0_4.length c0_4)) (ds:=[]) #[false,false,false,false,false,false,false,false,false,false,false,false] (by kernel_rfl) rfl rfl ⟨bc_ BK572 0,bc_ BK572 1,bc_ BK572 2,bc_ BK572 3,bc_ BK572 4⟩ (fun hHeld=>?_);refine with_tabW florinlaw06_Relation_relation.tab1 florinlaw06_Relation_relation.bits1 (fun HT_ HW_=>?_)
 generalize w9.drew=w10 at BK572 BK573 HB hHeld ⊢
 refine pu_ 0 11 (bm_ 12 1) HT_ ?_
 refine pu_ 4 15 (bm_ 12 17) HT_ ?_
 refine pu_ 7 18 (bm_ 12 145) HT_ ?_
 refine tk_ 1 12 (bm_ 12 147) HT_ HW_ hHeld rfl (by rintro w' ⟨s0,s1,s2,s3,s4⟩;go_simp;with_reducible rfl) ?_
 refine pu_ 2 13 (bm_ 12 151) HT_ ?_
 refine tk_ 3 14 (bm_ 12 159) HT_ HW_ hHeld rfl (by rintro w' ⟨s0,s1,s2,s3,s4⟩;go_simp;with_reducible rfl) ?_
 refine tk_ 5 16 (bm_ 12 191) HT_ HW_ hHeld rfl (by rintro w' ⟨s0,s1,s2,s3,s4⟩;go_simp;with_reducible rfl) ?_
 refine pu_ 6 17 (bm_ 12 255) HT_ ?_
 refine tk_ 8 19 (bm_ 12 511) HT_ HW_ hHeld rfl (by rintro w' ⟨s0,s1,s2,s3,s4⟩;go_simp;with_reducible rfl) ?_
 refine pu_ 9 20 (bm_ 12 1023) HT_ ?_
 refine one_ (i:=10) (N:=some 4) (bm_ 12 2047) rfl rfl (one_of HT_.out (by kernel_rfl)) (by decide) (fun K hK=>?_)
 refine box_step ?hg (N:=4) ?hd (cs:= #[.int .u8 0,.int .i64 0,.bool false,.slice none 0 0]) (t:=43) ?hr ?_;(case hd=>rfl);(case hg=>rfl);(case hr=>first|(go_simp;done)|(go_simp;rfl))
 intro gb574 hg w11 hbox hb
 have n0_:=bb_ BK572 hb
 have n1_:=bb_ BK573 hb
 have n2_:=Aside0.mk (below_step (bl_ HB).out hb)
 have n3_:=Aside0.mk (hbox)
 have n4_:=sz_ HB hg
 have n5_:=sz_ HB hg
 have n6_:=na_ BK572 hg
 have n7_:=nb_ BK572 hg
 have n8_:=na_ BK573 hg
 have n9_:=nb_ BK573 hg
 clear BK572
 clear BK573
 clear HB
 have BK572:=n0_
 have BK573:=n1_
 have HB:=n2_
 have BK574:=n3_
 have GW574:=n4_
 have GE574:=n5_
 have NB572_574:=n6_
 have NB574_572:=n7_
 have NB573_574:=n8_
 have NB574_573:=n9_
 clear n0_ n1_ n2_ n3_ n4_ n5_ n6_ n7_ n8_ n9_
 clear hb hbox hg
 refine hK.out _ _ ⟨bc_ BK572 0,bc_ BK572 1,bc_ BK572 2,bc_ BK572 3,bc_ BK572 4⟩ (fun hHeld=>?_)
 clear hK K
 refine nm_ 4 ?_
 refine one_ (i:=11) (N:=none) (bm_ 12 4095) rfl rfl (one_of HT_.out (by kernel_rfl)) (by decide) (fun K hK=>?_)
 have hs12:w11.cell? ⟨gb574,0,none⟩=some (.int .u8 0):=bc_ BK574 0
 have hfs12:=blk_frozen BK574.out 0
 have hns12_0:=NB572_574.out
 have hns12_1:=NB573_574.out
 have hms12_0:=NB574_572.out
 have hms12_1:=NB574_573.out
 have hs13:w11.cell? ⟨gb574,1,none⟩=some (.int .i64 0):=bc_ BK574 1
 have hfs13:=blk_frozen BK574.out 1
 have hns13_0:=NB572_574.out
 have hns13_1:=NB573_574.out
 have hms13_0:=NB574_572.out
 have hms13_1:=NB574_573.out
 have hs14:w11.cell? ⟨gb574,2,none⟩=some (.bool false):=bc_ BK574 2
 have hfs14:=blk_frozen BK574.out 2
 have hns14_0:=NB572_574.out
 have hns14_1:=NB573_574.out
 have hms14_0:=NB574_572.out
 have hms14_1:=NB574_573.out
 have hs15:w11.cell? ⟨gb574,3,none⟩=some (.slice none 0 0):=bc_ BK574 3
 have hfs15:=blk_frozen BK574.out 3
 have hns15_0:=NB572_574.out
 have hns15_1:=NB573_574.out
 have hms15_0:=NB574_572.out
 have hms15_1:=NB574_573.out
 refine skip_ (w1:=?_) (by rfl) rfl ?_ ?_
 rotate_left
 ·go_simp
  rfl
 refine hK.out _ _ ⟨((cell_far (p:=⟨gb574,_,none⟩) NB572_574.out _).trans (((cell_far (p:=⟨gb574,_,none⟩) NB572_574.out _).trans (((cell_far (p:=⟨gb574,_,none⟩) NB572_574.out _).trans (((cell_far (p:=⟨gb574,_,none⟩) NB572_574.out _).trans (hHeld.1)))))))),((cell_far (p:=⟨gb574,_,none⟩) NB572_574.out _).trans (((cell_far (p:=⟨gb574,_,none⟩) NB572_574.out _).trans (((cell_far (p:=⟨gb574,_,none⟩) NB572_574.out _).trans (((cell_far (p:=⟨gb574,_,none⟩) NB572_574.out _).trans (hHeld.2.1)))))))),((cell_far (p:=⟨gb574,_,none⟩) NB572_574.out _).trans (((cell_far (p:=⟨gb574,_,none⟩) NB572_574.out _).trans (((cell_far (p:=⟨gb574,_,none⟩) NB572_574.out _).trans (((cell_far (p:=⟨gb574,_,none⟩) NB572_574.out _).trans (hHeld.2.2.1)))))))),((cell_far (p:=⟨gb574,_,none⟩) NB572_574.out _).trans (((cell_far (p:=⟨gb574,_,none⟩) NB572_574.out _).trans (((cell_far (p:=⟨gb574,_,none⟩) NB572_574.out _).trans (((cell_far (p:=⟨gb574,_,none⟩) NB572_574.out _).trans (hHeld.2.2.2.1)))))))),((cell_far (p:=⟨gb574,_,none⟩) NB572_574.out _).trans (((cell_far (p:=⟨gb574,_,none⟩) NB572_574.out _).trans (((cell_far (p:=⟨gb574,_,none⟩) NB572_574.out _).trans (((cell_far (p:=⟨gb574,_,none⟩) NB572_574.out _).trans (hHeld.2.2.2.2))))))))⟩ (fun hHeld=>?_)
 clear hK K
 refine done_ (done_of HT_.out (by kernel_rfl)) ?_
 have hnb16:=NB572_573.out
 have hnc16:=NB573_572.out
 have hnb17:=NB572_574.out
 have hnc17:=NB574_572.out
 obtain⟨hcz18_0,hcz18_1,hcz18_2,hcz18_3,hcz18_4,hfz18_0,hfz18_1,hfz18_2,hfz18_3,hfz18_4⟩:=bo5_ BK572
 go_upto_if 32 with (first|((with_reducible refine gate_callee (f:=15) rfl ?_);refine gl_ (some 23) Tryz.func15 #[.int .i64 a0_2] ?_;(with_reducible refine(florinlaw06_gap.calls _ _ _ A5.out).mono ?_);rintro e w19 ⟨rfl,hb⟩;refine⟨_,rfl,?_⟩;have n0_:=Aside0.mk (blk_below (g:=gb572) (o:= .cells #[.int .i64 a0_0,.int .i64 a0_1,.int .i64 a0_2,.bool a0_3,.slice A0_4 l0_4.length c0_4] 50 (0,0)) (by (with_reducible repeat(first|refine blk_drewN ?_ _|refine blk_drew ?_|refine blk_alloc ?_ _));refine blk_far ?_ NB572_574.out _;(with_reducible repeat(first|refine blk_drewN ?_ _|refine blk_drew ?_|refine blk_alloc ?_ _));refine blk_far ?_ NB572_574.out _;(with_reducible repeat(first|refine blk_drewN ?_ _|refine blk_drew ?_|refine blk_alloc ?_ _));refine blk_far ?_ NB572_574.out _;(with_reducible repeat(first|refine blk_drewN ?_ _|refine blk_drew ?_|refine blk_alloc ?_ _));refine blk_far ?_ NB572_574.out _;(with_reducible repeat(first|refine blk_drewN ?_ _|refine blk_drew ?_|refine blk_alloc ?_ _));exact BK572.out) hb);have n1_:=Aside0.mk (blk_below (g:=gb573) (o:= .cells #[.int .u8 0,.int .i64 0,.bool false,.slice none 0 0] 43 (0,0)) (by (with_reducible repeat(first|refine blk_drewN ?_ _|refine blk_drew ?_|refine blk_alloc ?_ _));refine blk_far ?_ NB573_574.out _;(with_reducible repeat(first|refine blk_drewN ?_ _|refine blk_drew ?_|refine blk_alloc ?_ _));refine blk_far ?_ NB573_574.out _;(with_reducible repeat(first|refine blk_drewN ?_ _|refine blk_drew ?_|refine blk_alloc ?_ _));refine blk_far ?_ NB573_574.out _;(with_reducible repeat(first|refine blk_drewN ?_ _|refine blk_drew ?_|refine blk_alloc ?_ _));refine blk_far ?_ NB573_574.out _;(with_reducible repeat(first|refine blk_drewN ?_ _|refine blk_drew ?_|refine blk_alloc ?_ _));exact BK573.out) hb);have n2_:=Aside0.mk (blk_below (g:=gb574) (o:= .cells #[.int .u8 (bt (⟨#[110,105,118,119,102,116,99,101]⟩:ByteArray) (Go.bits .and .i64 a0_0 7)),.int .i64 (Go.bits .and .i64 a0_1 65535),.bool a0_3,.slice none 0 0] 43 (0,0)) (by (with_reducible repeat(first|refine blk_drewN ?_ _|refine blk_drew ?_|refine blk_alloc ?_ _));refine blk_put (cs:= #[.int .u8 (bt (⟨#[110,105,118,119,102,116,99,101]⟩:ByteArray) (Go.bits .and .i64 a0_0 7)),.int .i64 (Go.bits .and .i64 a0_1 65535),.bool a0_3,.slice none 0 0]) ?_ 3 _ rfl;(with_reducible repeat(first|refine blk_drewN ?_ _|refine blk_drew ?_|refine blk_alloc ?_ _));refine blk_put (cs:= #[.int .u8 (bt (⟨#[110,105,118,119,102,116,99,101]⟩:ByteArray) (Go.bits .and .i64 a0_0 7)),.int .i64 (Go.bits .and .i64 a0_1 65535),.bool false,.slice none 0 0]) ?_ 2 _ rfl;(with_reducible repeat(first|refine blk_drewN ?_ _|refine blk_drew ?_|refine blk_alloc ?_ _));refine blk_put (cs:= #[.int .u8 (bt (⟨#[110,105,118,119,102,116,99,101]⟩:ByteArray) (Go.bits .and .i64 a0_0 7)),.int .i64 0,.bool false,.slice none 0 0]) ?_ 1 _ rfl;(with_reducible repeat(first|refine blk_drewN ?_ _|refine blk_drew ?_|refine blk_alloc ?_ _));refine blk_put (cs:= #[.int .u8 0,.int .i64 0,.bool false,.slice none 0 0]) ?_ 0 _ rfl;(with_reducible repeat(first|refine blk_drewN ?_ _|refine blk_drew ?_|refine blk_alloc ?_ _));exact BK574.out) hb);have n3_:=Aside0.mk (below_step (bl_ HB).out hb);clear BK572;clear BK573;clear BK574;clear HB;have BK572:=n0_;have BK573:=n1_;have BK574:=n2_;have HB:=n3_;clear n0_ n1_ n2_ n3_;(try clear hb);have hnb20:=NB574_573.out;have hnc20:=NB573_574.out;obtain⟨hcz21_0,hcz21_1,hcz21_2,hcz21_3,hfz21_0,hfz21_1,hfz21_2,hfz21_3⟩:=bo4_ BK574)|((with_reducible refine gate_dst (N:=26) rfl ?_);refine Kd.R_lit (Kd.int .u8) _ 5 ?hg (N:=26) ?hd (xs:=([bt (⟨#[110,105,118,119,102,116,99,101]⟩:ByteArray) (Go.bits .and .i64 a0_0 7)]:List Int)) (inner:=[.int .u8 (bt (⟨#[110,105,118,119,102,116,99,101]⟩:ByteArray) (Go.bits .and .i64 a0_0 7))]) (ok:=fun _=>True) (okp:=fun _=>True) ?hr ?hp (fun _ hk=>hk) trivial (Below.refl _ _) (Nat.le_refl _) (by simp) ?_;(case hd=>rfl);(case hg=>rfl);(case hr=>first|(go_simp;done)|(go_simp;rfl));(case hp=>exact(Reps.one (show Kd.M (Kd.int .u8) _ _ _ (bt (⟨#[110,105,118,119,102,116,99,101]⟩:ByteArray) (Go.bits .and .i64 a0_0 7)) [.int .u8 (bt (⟨#[110,105,118,119,102,116,99,101]⟩:ByteArray) (Go.bits .and .i64 a0_0 7))] from rfl) (Reps.none _ _)));intro v577 w22 ho23 hb hg_ hnew_;clear hg_ hnew_;(first|rw[← Ny576.out] at ho23|(simp only[Int.reduceToNat] at ho23;rw[← Ny576.out] at ho23));have HO578:=Aside0.mk (Kd.R_lower ho23 (below_size (bl_ HB).out));replace BK572:=bb_ BK572 hb;replace BK573:=bb_ BK573 hb;replace BK574:=bb_ BK574 hb;replace HB:=Aside0.mk (below_step (bl_ HB).out hb);clear hb ho23;have hcv24:=own_string (P:=Tryz.prog) Tryz.underlying75 Tryz.underlying5 Tryz.underlying9 (Kd.own_of_R HO578.out);obtain⟨hcz25_0,hcz25_1,hcz25_2,hcz25_3,hfz25_0,hfz25_1,hfz25_2,hfz25_3⟩:=bo4_ BK574))
 (try simp only[Act.put,List.setIfInBounds_toArray,List.set_cons_zero,List.set_cons_succ])
 go_cut [6] (fun v6 wc=>∃(kq:Nat) (x6_6:ByteArray),v6= .string x6_6∧Aside0 (florinlaw06_Relation_relation.j0 kq t575 x6_6 a0_0 a0_1 a0_2 a0_3 l0_4 (bt (⟨#[110,105,118,119,102,116,99,101]⟩:ByteArray) (Go.bits .and .i64 a0_0 7)) (Go.bits .and .i64 a0_1 65535) a0_3=some (r1,r2,r3,r4,r5))∧Aside0 (kq≤k)∧Aside0 (wc.heap[gb572]? = some (.cells #[.int .i64 a0_0,.int .i64 a0_1,.int .i64 a0_2,.bool a0_3,(.slice A0_4 l0_4.length c0_4)] 50 (0,0)))∧Aside0 (wc.heap[gb573]? = some (.cells #[.int .u8 0,.int .i64 0,.bool false,(.slice none 0 0)] 43 (0,0)))∧Aside0 (wc.heap[gb574]? = some (.cells #[.int .u8 (bt (⟨#[110,105,118,119,102,116,99,101]⟩:ByteArray) (Go.bits .and .i64 a0_0 7)),.int .i64 (Go.bits .and .i64 a0_1 65535),.bool a0_3,(.slice none 0 0)] 43 (0,0)))∧Aside0 (Below w.heap.size w wc))
 case first =>
  have H:=HC7.out
  clear HC7
  by_cases c26:(Go.bits .and .i64 a0_1 65535)=0
  ·rw[if_pos c26] at H
   have c26b0:((Go.bits .and .i64 a0_1 65535)==0)=true:=beq_iff_eq.mpr c26
   have c26b1:((Go.bits .and .i64 a0_1 65535) !=0)=false:=bne_eq_false_iff_eq.mpr c26
   clear c26
   (first|rw[c26b0]|(simp only[i64_w,i32_w];rw[c26b0])|skip)
   have H':=Aside0.mk H
   clear H
   go_wp2
   go_meet
   case rel=>exact⟨_,((strOfNums y576)++t575),eq_,H',⟨by first|omega|exact Nat.le_refl _⟩,(bk_ BK572),(bk_ BK573),(bk_ BK574),(bl_ HB)⟩
  ·rw[if_neg c26] at H
   have c26b0:((Go.bits .and .i64 a0_1 65535)==0)=false:=beq_eq_false_iff_ne.mpr c26
   have c26b1:((Go.bits .and .i64 a0_1 65535) !=0)=true:=bne_iff_ne.mpr c26
   (first|rw[c26b0]|(simp only[i64_w,i32_w];rw[c26b0])|skip)
   replace H:=ifn_ H
   obtain⟨c27,H⟩:=H
   have c27b0:=eq_true c27
   have c27b1:decide (((strOfNums y576)++t575).size+1≤9223372036854775807)=true:=decide_eq_true c27
   try (have c27b5:=c27b0;simp only[ByteArray.size_append,Int.natCast_add] at c27b5)
   try have c27b2:=eq_false (Nat.not_lt.2 c27)
   try have c27b3:(9223372036854775807<(strOfNums y576).size+t575.size+1)=False:=eq_false (Nat.not_lt.2 (by have h_:=c27;simp only[ByteArray.size_append] at h_;exact h_))
   try have c27b4:((strOfNums y576).size+t575.size+1≤9223372036854775807)=True:=eq_true (by have h_:=c27;simp only[ByteArray.size_append] at h_;exact h_)
   replace H:=ifn_ H
   obtain⟨c28,H⟩:=H
   have c28b0:=eq_true c28
   have c28b1:decide ((((strOfNums y576)++t575)++(⟨#[37]⟩:ByteArray)).size+t575.size≤9223372036854775807)=true:=decide_eq_true c28
   try (have c28b5:=c28b0;simp only[ByteArray.size_append,Int.natCast_add] at c28b5)
   try have c28b2:=eq_false (Nat.not_lt.2 c28)
   try have c28b3:(9223372036854775807<(strOfNums y576).size+t575.size+1+t575.size)=False:=eq_false (Nat.not_lt.2 (by have h_:=c28;simp only[ByteArray.size_append] at h_;exact h_))
   try have c28b4:((strOfNums y576).size+t575.size+1+t575.size≤9223372036854775807)=True:=eq_true (by have h_:=c28;simp only[ByteArray.size_append] at h_;exact h_)
   replace H:=Option.bind_eq_some_iff.mp H
   obtain⟨t579,A290,H⟩:=H
   replace H:(if ((((strOfNums y576)++t575)++(⟨#[37]⟩:ByteArray))++t575).size+t579.size≤9223372036854775807 then (if (((((strOfNums y576)++t575)++(⟨#[37]⟩:ByteArray))++t575)++t579).size+t575.size≤9223372036854775807 then (florinlaw06_Relation_relation.j0 k t575 ((((((strOfNums y576)++t575)++(⟨#[37]⟩:ByteArray))++t575)++t579)++t575) a0_0 a0_1 a0_2 a0_3 l0_4 (bt (⟨#[110,105,118,119,102,116,99,101]⟩:ByteArray) (Go.bits .and .i64 a0_0 7)) (Go.bits .and .i64 a0_1 65535) a0_3) else (none)) else (none))=some (r1,r2,r3,r4,r5):=H
   have A29:=Aside0.mk A290
   clear A290
   replace H:=ifn_ H
   obtain⟨c30,H⟩:=H
   have c30b0:=eq_true c30
   have c30b1:decide (((((strOfNums y576)++t575)++(⟨#[37]⟩:ByteArray))++t575).size+t579.size≤9223372036854775807)=true:=decide_eq_true c30
   try (have c30b5:=c30b0;simp only[ByteArray.size_append,Int.natCast_add] at c30b5)
   try have c30b2:=eq_false (Nat.not_lt.2 c30)
   try have c30b3:(9223372036854775807<(strOfNums y576).size+t575.size+1+t575.size+t579.size)=False:=eq_false (Nat.not_lt.2 (by have h_:=c30;simp only[ByteArray.size_append] at h_;exact h_))
   try have c30b4:((strOfNums y576).size+t575.size+1+t575.size+t579.size≤9223372036854775807)=True:=eq_true (by have h_:=c30;simp only[ByteArray.size_append] at h_;exact h_)
   replace H:=ifn_ H
   obtain⟨c31,H⟩:=H
   have c31b0:=eq_true c31
   have c31b1:decide ((((((strOfNums y576)++t575)++(⟨#[37]⟩:ByteArray))++t575)++t579).size+t575.size≤9223372036854775807)=true:=decide_eq_true c31
   try (have c31b5:=c31b0;simp only[ByteArray.size_append,Int.natCast_add] at c31b5)
   try have c31b2:=eq_false (Nat.not_lt.2 c31)
   try have c31b3:(9223372036854775807<(strOfNums y576).size+t575.size+1+t575.size+t579.size+t575.size)=False:=eq_false (Nat.not_lt.2 (by have h_:=c31;simp only[ByteArray.size_append] at h_;exact h_))
   try have c31b4:((strOfNums y576).size+t575.size+1+t575.size+t579.size+t575.size≤9223372036854775807)=True:=eq_true (by have h_:=c31;simp only[ByteArray.size_append] at h_;exact h_)
   have H':=Aside0.mk H
   clear H
   have hnb32:=NB574_572.out
   have hnc32:=NB572_574.out
   have hnb33:=NB574_573.out
   have hnc33:=NB573_574.out
   obtain⟨hcz34_0,hcz34_1,hcz34_2,hcz34_3,hfz34_0,hfz34_1,hfz34_2,hfz34_3⟩:=bo4_ BK574
   go_wp2_with (first|((with_reducible refine gate_callee (f:=32) rfl ?_);refine gl_ (some 39) Tryz.func32 #[.int .i64 (Go.bits .and .i64 a0_1 65535)] ?_;(with_reducible refine(florinlaw06_digits.calls _ _ _ _ A29.out).mono ?_);rintro e w35 ⟨rfl,hb⟩;refine⟨_,rfl,?_⟩;replace HO578:=kb_ HO578 hb;replace BK572:=bb_ BK572 hb;replace BK573:=bb_ BK573 hb;replace BK574:=bb_ BK574 hb;replace HB:=Aside0.mk (below_step (bl_ HB).out hb);(try clear hb);(try clear hi)))
   go_meet
   case rel=>exact⟨_,((((((strOfNums y576)++t575)++(⟨#[37]⟩:ByteArray))++t575)++t579)++t575),eq_,H',⟨by first|omega|exact Nat.le_refl _⟩,(bk_ BK572),(bk_ BK573),(bk_ BK574),(bl_ HB)⟩
 case rest =>
  clear HC7
  obtain⟨kq,x6_6,rfl,HA,HJ6,BK572,BK573,BK574,HB⟩:=hcut
  cases kq with
  | zero=>exact absurd HA.out (by simp[florinlaw06_Relation_relation.j0])
  | succ kj6 =>
   have H:=HA.out
   clear HA
   simp only[florinlaw06_Relation_relation.j0] at H
   have HC36:=Aside0.mk H
   clear H
   have hnb37:=NB574_572.out
   have hnc37:=NB572_574.out
   have hnb38:=NB574_573.out
   have hnc38:=NB573_574.out
   obtain⟨hcz39_0,hcz39_1,hcz39_2,hcz39_3,hfz39_0,hfz39_1,hfz39_2,hfz39_3⟩:=bo4_ BK574
   go_upto_if 44 with (fail)
   go_cut [6] (fun v6 wc=>∃(kq:Nat) (x6_35:ByteArray),v6= .string x6_35∧Aside0 (florinlaw06_Relation_relation.j1 kq t575 x6_35 a0_0 a0_1 a0_2 a0_3 l0_4 (bt (⟨#[110,105,118,119,102,116,99,101]⟩:ByteArray) (Go.bits .and .i64 a0_0 7)) (Go.bits .and .i64 a0_1 65535) a0_3=some (r1,r2,r3,r4,r5))∧Aside0 (kq≤kj6)∧Aside0 (wc.heap[gb572]? = some (.cells #[.int .i64 a0_0,.int .i64 a0_1,.int .i64 a0_2,.bool a0_3,(.slice A0_4 l0_4.length c0_4)] 50 (0,0)))∧Aside0 (wc.heap[gb573]? = some (.cells #[.int .u8 0,.int .i64 0,.bool false,(.slice none 0 0)] 43 (0,0)))∧Aside0 (wc.heap[gb574]? = some (.cells #[.int .u8 (bt (⟨#[110,105,118,119,102,116,99,101]⟩:ByteArray) (Go.bits .and .i64 a0_0 7)),.int .i64 (Go.bits .and .i64 a0_1 65535),.bool a0_3,(.slice none 0 0)] 43 (0,0)))∧Aside0 (Below w.heap.size w wc))
   case first =>
    have H:=HC36.out
    clear HC36
    by_cases c40:a0_3=true
    ·subst c40
     have H1:(if x6_6.size+1≤9223372036854775807 then (florinlaw06_Relation_relation.j1 kj6 t575 (x6_6++(⟨#[33]⟩:ByteArray)) a0_0 a0_1 a0_2 true l0_4 (bt (⟨#[110,105,118,119,102,116,99,101]⟩:ByteArray) (Go.bits .and .i64 a0_0 7)) (Go.bits .and .i64 a0_1 65535) true) else (none))=some (r1,r2,r3,r4,r5):=by rw[if_pos rfl] at H;exact H
     clear H
     have H:=H1
     clear H1
     replace H:=ifn_ H
     obtain⟨c41,H⟩:=H
     have c41b0:=eq_true c41
     have c41b1:decide (x6_6.size+1≤9223372036854775807)=true:=decide_eq_true c41
     try have c41b2:=eq_false (Nat.not_lt.2 c41)
     have H':=Aside0.mk H
     clear H
     go_wp2
     go_meet
     case rel=>exact⟨_,(x6_6++(⟨#[33]⟩:ByteArray)),eq_,H',⟨by have:=HJ6.out;first|omega|exact Nat.le_refl _⟩,(bk_ BK572),(bk_ BK573),(bk_ BK574),(bl_ HB)⟩
    ·replace c40:=Bool.eq_false_iff.mpr c40
     subst c40
     have H1:(florinlaw06_Relation_relation.j1 kj6 t575 x6_6 a0_0 a0_1 a0_2 false l0_4 (bt (⟨#[110,105,118,119,102,116,99,101]⟩:ByteArray) (Go.bits .and .i64 a0_0 7)) (Go.bits .and .i64 a0_1 65535) false)=some (r1,r2,r3,r4,r5):=by rw[if_neg (show ¬(false=true) by decide)] at H;exact H
     clear H
     have H:=H1
     clear H1
     have H':=Aside0.mk H
     clear H
     go_wp2
     go_meet
     case rel=>exact⟨_,(x6_6),eq_,H',⟨by have:=HJ6.out;first|omega|exact Nat.le_refl _⟩,(bk_ BK572),(bk_ BK573),(bk_ BK574),(bl_ HB)⟩
   case rest =>
    clear HC36
    obtain⟨kq,x6_35,rfl,HA,HJ35,BK572,BK573,BK574,HB⟩:=hcut
    cases kq with
    | zero=>exact absurd HA.out (by simp[florinlaw06_Relation_relation.j1])
    | succ kj35 =>
     have H:=HA.out
     clear HA
     simp only[florinlaw06_Relation_relation.j1] at H
     replace H:=ifn_ H
     obtain⟨c42,H⟩:=H
     have c42b0:=eq_true c42
     have c42b1:decide (x6_35.size+1≤9223372036854775807)=true:=decide_eq_true c42
     try have c42b2:=eq_false (Nat.not_lt.2 c42)
     replace H:=ifn_ H
     obtain⟨c43,H⟩:=H
     have c43b0:=eq_true c43
     have c43b1:decide ((x6_35++(⟨#[61]⟩:ByteArray)).size+t575.size≤9223372036854775807)=true:=decide_eq_true c43
     try (have c43b5:=c43b0;simp only[ByteArray.size_append,Int.natCast_add] at c43b5)
     try have c43b2:=eq_false (Nat.not_lt.2 c43)
     try have c43b3:(9223372036854775807<x6_35.size+1+t575.size)=False:=eq_false (Nat.not_lt.2 (by have h_:=c43;simp only[ByteArray.size_append] at h_;exact h_))
     try have c43b4:(x6_35.size+1+t575.size≤9223372036854775807)=True:=eq_true (by have h_:=c43;simp only[ByteArray.size_append] at h_;exact h_)
     obtain⟨y580,hy580⟩:∃y_:List (S85),y_=(([]:List (S85))):=⟨_,rfl⟩
     replace H:(if y580.length+l0_4.length<8796093022208 then ((some (y580++l0_4:List (S85))).bind fun y583=>(if (y583.length:Int)=0 then (if y583.length<8796093022208 then (florinlaw06_Relation_relation.j2 kj35 t575 ((x6_35++(⟨#[61]⟩:ByteArray))++t575) (y583++[(⟨0,0⟩:S85)]) (bt (⟨#[110,105,118,119,102,116,99,101]⟩:ByteArray) (Go.bits .and .i64 a0_0 7)) (Go.bits .and .i64 a0_1 65535) a0_3) else (none)) else (florinlaw06_Relation_relation.j2 kj35 t575 ((x6_35++(⟨#[61]⟩:ByteArray))++t575) y583 (bt (⟨#[110,105,118,119,102,116,99,101]⟩:ByteArray) (Go.bits .and .i64 a0_0 7)) (Go.bits .and .i64 a0_1 65535) a0_3))) else (none))=some (r1,r2,r3,r4,r5):=by first|(rw[hy580];with_reducible exact H)|(have H2_:=(Option.bind_some _ _).symm.trans H;rw[hy580];with_reducible exact H2_)|(have H2_:=(Option.bind_some _ _).symm.trans H;with_reducible exact H2_)|with_reducible exact H|(rw[hy580];exact H)|exact H
     have Ny580:=Aside0.mk hy580
     clear hy580
     replace H:=ifn_ H
     obtain⟨c44,H⟩:=H
     have LMc44:=Aside0.mk c44
     clear c44
     obtain⟨y583,hy583⟩:∃y_:List (S85),y_=(y580++l0_4):=⟨_,rfl⟩
     replace H:(if (y583.length:Int)=0 then (if y583.length<8796093022208 then (florinlaw06_Relation_relation.j2 kj35 t575 ((x6_35++(⟨#[61]⟩:ByteArray))++t575) (y583++[(⟨0,0⟩:S85)]) (bt (⟨#[110,105,118,119,102,116,99,101]⟩:ByteArray) (Go.bits .and .i64 a0_0 7)) (Go.bits .and .i64 a0_1 65535) a0_3) else (none)) else (florinlaw06_Relation_relation.j2 kj35 t575 ((x6_35++(⟨#[61]⟩:ByteArray))++t575) y583 (bt (⟨#[110,105,118,119,102,116,99,101]⟩:ByteArray) (Go.bits .and .i64 a0_0 7)) (Go.bits .and .i64 a0_1 65535) a0_3))=some (r1,r2,r3,r4,r5):=by first|(rw[hy583];with_reducible exact H)|(have H2_:=(Option.bind_some _ _).symm.trans H;rw[hy583];with_reducible exact H2_)|(have H2_:=(Option.bind_some _ _).symm.trans H;with_reducible exact H2_)|with_reducible exact H|(rw[hy583];exact H)|exact H
     have Ny583:=Aside0.mk hy583
     clear hy583
     have HC45:=Aside0.mk H
     clear H
     go_upto_if 57 with (first|((with_reducible refine gate_dst (N:=51) rfl ?_);refine Kd.R_lit k85 _ 85 ?hg (N:=51) ?hd (xs:=([]:List (S85))) (inner:=[]) (ok:=fun _=>True) (okp:=fun _=>True) ?hr ?hp (fun _ hk=>hk) trivial (Below.refl _ _) (Nat.le_refl _) (by simp) ?_;(case hd=>rfl);(case hg=>rfl);(case hr=>first|(go_simp;done)|(go_simp;rfl));(case hp=>exact(Reps.none _ _));intro v581 w46 ho47 hb hg_ hnew_;clear hg_ hnew_;(first|rw[← Ny580.out] at ho47|(simp only[Int.reduceToNat] at ho47;rw[← Ny580.out] at ho47));have HO582:=Aside0.mk (Kd.R_lower ho47 (below_size (bl_ HB).out));replace BK572:=bb_ BK572 hb;replace BK573:=bb_ BK573 hb;replace BK574:=bb_ BK574 hb;replace HB:=Aside0.mk (below_step (bl_ HB).out hb);clear hb ho47;have hnb48:=NB572_573.out;have hnc48:=NB573_572.out;have hnb49:=NB572_574.out;have hnc49:=NB574_572.out;obtain⟨hcz50_0,hcz50_1,hcz50_2,hcz50_3,hcz50_4,hfz50_0,hfz50_1,hfz50_2,hfz50_3,hfz50_4⟩:=bo5_ BK572)|((with_reducible refine gate_builtin (b:= .append) (xs:= #[.tmp 51,.tmp 53]) rfl ?_);at_builtin;refine Kd.R_append_rows k85 (w0:=w) w.heap.size rfl (.tmp 51) (.tmp 53) 48 85 (.agg #[(.int .i64 0),(.int .i64 0)]) 16 rfl Tryz.underlying48 info85 rfl (by decide) (by omega) v581 y580 l0_4 _ _ _ (fun _=>True) (fun _=>False) rfl rfl ?aO ?aR (fun _ _ h=>h) (fun _ h=>h.elim) ?aF ?aB ?aS ?aL ?_;(case aR=>repeat(first|exact(Kd.C_below HR0_4.out HB.out)|(with_reducible refine Kd.C_alloc ?_ _)|(with_reducible refine Kd.C_drewN ?_ _)|(with_reducible refine Kd.C_drew ?_)));(case aB=>exact(bl_ HB).out);(case aF=>exact(fun _ _=>trivial));(case aO=>exact(kr_ HO582));(case aS=>exact(below_size (bl_ HB).out));(case aL=>have:=LMc44.out;omega);intro v584 w51 ho hb hg hat;rw[← Ny583.out] at ho;have n0_:=Aside0.mk (blk_grown (bk_ BK572).out hg (Kd.R_ne HO582.out BK572.out (by decide)));have n1_:=Aside0.mk (blk_grown (bk_ BK573).out hg (Kd.R_ne HO582.out BK573.out (by decide)));have n2_:=Aside0.mk (blk_grown (bk_ BK574).out hg (Kd.R_ne HO582.out BK574.out (by decide)));have n3_:=Aside0.mk (hb);have n4_:=Aside0.mk (ho);clear BK572;clear BK573;clear BK574;clear HB;clear HO582;have BK572:=n0_;have BK573:=n1_;have BK574:=n2_;have HB:=n3_;have HO585:=n4_;clear n0_ n1_ n2_ n3_ n4_;clear ho hb hg hat;obtain⟨Ao52,co52,eo52⟩:=Kd.R_slice HO585.out;subst eo52))
     (try simp only[Act.put,List.setIfInBounds_toArray,List.set_cons_zero,List.set_cons_succ])
     go_cut [7] (fun v7 wc=>∃(kq:Nat) (x7_44:List (S85)),Aside0 (florinlaw06_Relation_relation.j2 kq t575 ((x6_35++(⟨#[61]⟩:ByteArray))++t575) x7_44 (bt (⟨#[110,105,118,119,102,116,99,101]⟩:ByteArray) (Go.bits .and .i64 a0_0 7)) (Go.bits .and .i64 a0_1 65535) a0_3=some (r1,r2,r3,r4,r5))∧Aside0 (kq≤kj35)∧Aside0 (Kd.R k85 85 wc w.heap.size (fun _=>True) v7 x7_44)∧Aside0 (wc.heap[gb572]? = some (.cells #[.int .i64 a0_0,.int .i64 a0_1,.int .i64 a0_2,.bool a0_3,(.slice A0_4 l0_4.length c0_4)] 50 (0,0)))∧Aside0 (wc.heap[gb573]? = some (.cells #[.int .u8 0,.int .i64 0,.bool false,(.slice none 0 0)] 43 (0,0)))∧Aside0 (wc.heap[gb574]? = some (.cells #[.int .u8 (bt (⟨#[110,105,118,119,102,116,99,101]⟩:ByteArray) (Go.bits .and .i64 a0_0 7)),.int .i64 (Go.bits .and .i64 a0_1 65535),.bool a0_3,(.slice none 0 0)] 43 (0,0)))∧Aside0 (Below w.heap.size w wc))
     case first =>
      have H:=HC45.out
      clear HC45
      by_cases c53:(y583.length:Int)=0
      ·rw[if_pos c53] at H
       have c53b0:((y583.length:Int)==0)=true:=beq_iff_eq.mpr c53
       have c53b1:((y583.length:Int) !=0)=false:=bne_eq_false_iff_eq.mpr c53
       clear c53
       (first|rw[c53b0]|(simp only[i64_w,i32_w];rw[c53b0])|skip)
       replace H:=ifn_ H
       obtain⟨c54,H⟩:=H
       have LMc54:=Aside0.mk c54
       clear c54
       obtain⟨y586,hy586⟩:∃y_:List (S85),y_=(y583++[(⟨0,0⟩:S85)]):=⟨_,rfl⟩
       replace H:(florinlaw06_Relation_relation.j2 kj35 t575 ((x6_35++(⟨#[61]⟩:ByteArray))++t575) y586 (bt (⟨#[110,105,118,119,102,116,99,101]⟩:ByteArray) (Go.bits .and .i64 a0_0 7)) (Go.bits .and .i64 a0_1 65535) a0_3)=some (r1,r2,r3,r4,r5):=by first|(rw[hy586];with_reducible exact H)|(have H2_:=(Option.bind_some _ _).symm.trans H;rw[hy586];with_reducible exact H2_)|(have H2_:=(Option.bind_some _ _).symm.trans H;with_reducible exact H2_)|with_reducible exact H|(rw[hy586];exact H)|exact H
       have Ny586:=Aside0.mk hy586
       clear hy586
       have H':=Aside0.mk H
       clear H
       go_wp2_with (first|((with_reducible refine gate_builtin (b:= .append) (xs:= #[.tmp 58,.tmp 60]) rfl ?_);at_builtin;refine Kd.R_append k85 (w0:=w) w.heap.size rfl (.tmp 58) (.tmp 60) 48 85 (.agg #[(.int .i64 0),(.int .i64 0)]) 16 rfl Tryz.underlying48 info85 rfl (by decide) (by omega) (.slice Ao52 y583.length co52) y583 (⟨0,0⟩:S85) [.int .i64 0,.int .i64 0] (fun _=>True) (fun _=>False) rfl rfl ?aP (fun _ hk=>hk.elim) ?aF ?aO ?aB ?aS ?aL ?_;(case aP=>exact k85_mkM _ _ _ (⟨0,0⟩:S85));(case aB=>exact(bl_ HB).out);(case aF=>exact(fun _ _=>trivial));(case aO=>exact(kr_ HO585));(case aS=>exact(below_size (bl_ HB).out));(case aL=>have:=LMc54.out;omega);intro v587 w55 ho hb hg hat;rw[← Ny586.out] at ho;have n0_:=Aside0.mk (blk_grown (bk_ BK572).out hg (Kd.R_ne HO585.out BK572.out (by decide)));have n1_:=Aside0.mk (blk_grown (bk_ BK573).out hg (Kd.R_ne HO585.out BK573.out (by decide)));have n2_:=Aside0.mk (blk_grown (bk_ BK574).out hg (Kd.R_ne HO585.out BK574.out (by decide)));have n3_:=Aside0.mk (hb);have n4_:=Aside0.mk (ho);clear BK572;clear BK573;clear BK574;clear HB;clear HO585;have BK572:=n0_;have BK573:=n1_;have BK574:=n2_;have HB:=n3_;have HO588:=n4_;clear n0_ n1_ n2_ n3_ n4_;clear ho hb hg hat))
       go_meet
       case rel=>exact⟨_,(y586),H',⟨by have:=HJ6.out;have:=HJ35.out;first|omega|exact Nat.le_refl _⟩,⟨by (with_reducible repeat(first|apply Kd.R_alloc|apply Kd.R_drewN|apply Kd.R_drew));exact HO588.out⟩,(bk_ BK572),(bk_ BK573),(bk_ BK574),(bl_ HB)⟩
      ·rw[if_neg c53] at H
       have c53b0:((y583.length:Int)==0)=false:=beq_eq_false_iff_ne.mpr c53
       have c53b1:((y583.length:Int) !=0)=true:=bne_iff_ne.mpr c53
       have c53b2:¬(y583=[]):=fun h_=>c53 (by rw[h_];rfl)
       (first|rw[c53b0]|(simp only[i64_w,i32_w];rw[c53b0])|skip)
       have H':=Aside0.mk H
       clear H
       go_wp2
       go_meet
       case rel=>exact⟨_,(y583),H',⟨by have:=HJ6.out;have:=HJ35.out;first|omega|exact Nat.le_refl _⟩,⟨by (with_reducible repeat(first|apply Kd.R_alloc|apply Kd.R_drewN|apply Kd.R_drew));exact HO585.out⟩,(bk_ BK572),(bk_ BK573),(bk_ BK574),(bl_ HB)⟩
     case rest =>
      clear HC45
      obtain⟨kq,x7_44,HA,HJ44,HO_7,BK572,BK573,BK574,HB⟩:=hcut
      cases kq with
      | zero=>exact absurd HA.out (by simp[florinlaw06_Relation_relation.j2])
      | succ kj44 =>
       have H:=HA.out
       clear HA
       simp only[florinlaw06_Relation_relation.j2] at H
       have H':=Aside0.mk H
       clear H
       obtain⟨Ao56,co56,eo56⟩:=Kd.R_slice HO_7.out
       subst eo56
       go_wp2
       go_loopg [6,64] kj44 (fun kq v6 v64 w'=>∃(x6_4:ByteArray) (x64_4:Int) (x575003_4:List (S73)) (u575003:Value),v6= .string x6_4∧v64= .int .i64 x64_4∧Aside0 (florinlaw06_Relation_relation.l0 kq t575 x6_4 x7_44 (x7_44.length:Int) x64_4 (bt (⟨#[110,105,118,119,102,116,99,101]⟩:ByteArray) (Go.bits .and .i64 a0_0 7)) (Go.bits .and .i64 a0_1 65535) a0_3 x575003_4=some (r1,r2,r3,r4,r5))∧Aside0 (kq≤kj44)∧Aside0 (Kd.R k85 85 w' w.heap.size (fun _=>True) (.slice Ao56 x7_44.length co56) x7_44)∧Aside0 (Kd.R k73 73 w' w.heap.size (fun _=>True) u575003 x575003_4)∧Aside0 (w'.heap[gb572]? = some (.cells #[.int .i64 a0_0,.int .i64 a0_1,.int .i64 a0_2,.bool a0_3,(.slice A0_4 l0_4.length c0_4)] 50 (0,0)))∧Aside0 (w'.heap[gb573]? = some (.cells #[.int .u8 0,.int .i64 0,.bool false,(.slice none 0 0)] 43 (0,0)))∧Aside0 (w'.heap[gb574]? = some (.cells #[.int .u8 (bt (⟨#[110,105,118,119,102,116,99,101]⟩:ByteArray) (Go.bits .and .i64 a0_0 7)),.int .i64 (Go.bits .and .i64 a0_1 65535),.bool a0_3,u575003] 43 (0,0)))∧Aside0 (Below w.heap.size w w'))
       case atStart=>exact⟨(((x6_35++(⟨#[61]⟩:ByteArray))++t575)),(0),(([]:List (S73))),(.slice none 0 0),eq_,eq_,H',⟨Nat.le_refl _⟩,⟨by (with_reducible repeat(first|apply Kd.R_alloc|apply Kd.R_drewN|apply Kd.R_drew));exact HO_7.out⟩,⟨by first|exact Kd.R_nil _ _ _ _ _|exact Kd.N_nil _ _ _ _ _|exact Kd.V_nil _ _ _ _ _|exact Kd.Q_nil _ _ _ _ _|exact Kd.S_nil _ _ _ _ _⟩,(bk_ BK572),(bk_ BK573),(bk_ BK574),(bl_ HB)⟩
       case round =>
        clear H'
        obtain⟨x6_4,x64_4,x575003_4,u575003,rfl,rfl,HA,HK4,HO_62,HO_575003,BK572,BK573,BK574,HB⟩:=hrel
        cases gk with
        | zero=>exact absurd HA.out (by simp[florinlaw06_Relation_relation.l0])
        | succ k4 =>
         have H:=HA.out
         clear HA
         simp only[florinlaw06_Relation_relation.l0] at H
         by_cases c57:x64_4<(x7_44.length:Int)
         ·rw[if_pos c57] at H
          have c57b0:=decide_eq_true c57
          clear c57
          replace H:=ifn_ H
          obtain⟨c58,H⟩:=H
          have c58b0:decide (0≤x64_4)=true:=decide_eq_true c58
          clear c58
          replace H:=ifn_ H
          obtain⟨c59,H⟩:=H
          have c59b0:decide (x64_4<(x7_44.length:Int))=true:=decide_eq_true c59
          clear c59
          replace H:=ifn_ H
          obtain⟨c60,H⟩:=H
          have LMc60:=Aside0.mk c60
          clear c60
          obtain⟨y592,hy592⟩:∃y_:List (S73),y_=(x575003_4++[(⟨Go.bits .and .i64 ((rd_T85 x7_44 x64_4).f0) 1048575,wrap64 ((Go.bits .and .i64 ((rd_T85 x7_44 x64_4).f0) 1048575)+(Go.bits .and .i64 ((rd_T85 x7_44 x64_4).f1) 3))⟩:S73)]):=⟨_,rfl⟩
          replace H:(if x64_4>0 then (if x6_4.size+t575.size≤9223372036854775807 then (if (x6_4++t575).size+1≤9223372036854775807 then (if ((x6_4++t575)++(⟨#[44]⟩:ByteArray)).size+t575.size≤9223372036854775807 then (florinlaw06_Relation_relation.j4 k4 t575 (((x6_4++t575)++(⟨#[44]⟩:ByteArray))++t575) x7_44 (x7_44.length:Int) x64_4 (bt (⟨#[110,105,118,119,102,116,99,101]⟩:ByteArray) (Go.bits .and .i64 a0_0 7)) (Go.bits .and .i64 a0_1 65535) a0_3 y592 ((rd_T85 x7_44 x64_4).f0) ((rd_T85 x7_44 x64_4).f1) (Go.bits .and .i64 ((rd_T85 x7_44 x64_4).f0) 1048575) (wrap64 ((Go.bits .and .i64 ((rd_T85 x7_44 x64_4).f0) 1048575)+(Go.bits .and .i64 ((rd_T85 x7_44 x64_4).f1) 3)))) else (none)) else (none)) else (none)) else (florinlaw06_Relation_relation.j4 k4 t575 x6_4 x7_44 (x7_44.length:Int) x64_4 (bt (⟨#[110,105,118,119,102,116,99,101]⟩:ByteArray) (Go.bits .and .i64 a0_0 7)) (Go.bits .and .i64 a0_1 65535) a0_3 y592 ((rd_T85 x7_44 x64_4).f0) ((rd_T85 x7_44 x64_4).f1) (Go.bits .and .i64 ((rd_T85 x7_44 x64_4).f0) 1048575) (wrap64 ((Go.bits .and .i64 ((rd_T85 x7_44 x64_4).f0) 1048575)+(Go.bits .and .i64 ((rd_T85 x7_44 x64_4).f1) 3)))))=some (r1,r2,r3,r4,r5):=by first|(rw[hy592];with_reducible exact H)|(have H2_:=(Option.bind_some _ _).symm.trans H;rw[hy592];with_reducible exact H2_)|(have H2_:=(Option.bind_some _ _).symm.trans H;with_reducible exact H2_)|with_reducible exact H|(rw[hy592];exact H)|exact H
          have Ny592:=Aside0.mk hy592
          clear hy592
          have HC61:=Aside0.mk H
          clear H
          have p589:0≤(x64_4:Int):=od_
          have q589:x64_4<(x7_44.length:Int):=od_
          obtain⟨ad589,e589,hx589_0,hx589_1⟩:=at_T85 (Kd.R_reads' HO_62.out).2.2 x64_4 p589 q589
          cases e589
          replace p589:=eq_true p589
          replace q589:=eq_true q589
          go_upto_if 87 with (first|((with_reducible refine gate_dst (N:=9) rfl ?_);refine be_ 9 #[.int .i64 0,.int .i64 0] 85 ?_;intro gb590 hg w62 hbox hb;have BK590:=Aside0.mk (hbox);have GW590:=sz_ HB hg;have GE590:=sz_ HB hg;have NB572_590:=na_ BK572 hg;have NB590_572:=nb_ BK572 hg;have NB573_590:=na_ BK573 hg;have NB590_573:=nb_ BK573 hg;have NB574_590:=na_ BK574 hg;have NB590_574:=nb_ BK574 hg;replace HO_62:=Aside0.mk (Kd.R_below (Kd.R_elderB (kr_ HO_62) gb590 (Nat.le_of_eq hg.symm)) hb);replace HO_575003:=kb_ HO_575003 hb;replace BK572:=bb_ BK572 hb;replace BK573:=bb_ BK573 hb;replace BK574:=bb_ BK574 hb;replace HB:=Aside0.mk (below_step (bl_ HB).out hb);clear hb hbox hg;have hnb63:=NB590_572.out;have hnc63:=NB572_590.out;have hnb64:=NB590_573.out;have hnc64:=NB573_590.out;have hnb65:=NB590_574.out;have hnc65:=NB574_590.out;obtain⟨hcz66_0,hcz66_1,hfz66_0,hfz66_1⟩:=bo2_ BK590)|((with_reducible refine gate_dst (N:=10) rfl ?_);refine be_ 10 #[.int .i64 0,.int .i64 0] 73 ?_;intro gb591 hg w67 hbox hb;have n0_:=Aside0.mk (Kd.R_below (by (with_reducible repeat(first|apply Kd.R_alloc|apply Kd.R_drewN|apply Kd.R_drew));exact(Kd.R_mono (Kd.R_far (Kd.R_far (Kd.R_mono HO_62.out (fun k_ hk=>(⟨hk,hk.2⟩:_∧k_≠gb590))) (fun _ hk=>hk.2) _) (fun _ hk=>hk.2) _) (fun _ h_=>h_.1))) hb);have n1_:=Aside0.mk (Kd.R_below (Kd.R_elderB (by (with_reducible repeat(first|apply Kd.R_alloc|apply Kd.R_drewN|apply Kd.R_drew));exact(Kd.R_mono (Kd.R_far (Kd.R_far (Kd.R_types HO_575003.out BK590.out (by decide)) (fun _ hk=>hk.2) _) (fun _ hk=>hk.2) _) (fun _ h_=>h_.1))) gb591 (Nat.le_of_eq hg.symm)) hb);have n2_:=Aside0.mk (blk_below (g:=gb572) (o:= .cells #[.int .i64 a0_0,.int .i64 a0_1,.int .i64 a0_2,.bool a0_3,.slice A0_4 l0_4.length c0_4] 50 (0,0)) (by (with_reducible repeat(first|refine blk_drewN ?_ _|refine blk_drew ?_|refine blk_alloc ?_ _));refine blk_far ?_ NB572_590.out _;(with_reducible repeat(first|refine blk_drewN ?_ _|refine blk_drew ?_|refine blk_alloc ?_ _));refine blk_far ?_ NB572_590.out _;(with_reducible repeat(first|refine blk_drewN ?_ _|refine blk_drew ?_|refine blk_alloc ?_ _));exact BK572.out) hb);have n3_:=Aside0.mk (blk_below (g:=gb573) (o:= .cells #[.int .u8 0,.int .i64 0,.bool false,.slice none 0 0] 43 (0,0)) (by (with_reducible repeat(first|refine blk_drewN ?_ _|refine blk_drew ?_|refine blk_alloc ?_ _));refine blk_far ?_ NB573_590.out _;(with_reducible repeat(first|refine blk_drewN ?_ _|refine blk_drew ?_|refine blk_alloc ?_ _));refine blk_far ?_ NB573_590.out _;(with_reducible repeat(first|refine blk_drewN ?_ _|refine blk_drew ?_|refine blk_alloc ?_ _));exact BK573.out) hb);have n4_:=Aside0.mk (blk_below (g:=gb574) (o:= .cells #[.int .u8 (bt (⟨#[110,105,118,119,102,116,99,101]⟩:ByteArray) (Go.bits .and .i64 a0_0 7)),.int .i64 (Go.bits .and .i64 a0_1 65535),.bool a0_3,u575003] 43 (0,0)) (by (with_reducible repeat(first|refine blk_drewN ?_ _|refine blk_drew ?_|refine blk_alloc ?_ _));refine blk_far ?_ NB574_590.out _;(with_reducible repeat(first|refine blk_drewN ?_ _|refine blk_drew ?_|refine blk_alloc ?_ _));refine blk_far ?_ NB574_590.out _;(with_reducible repeat(first|refine blk_drewN ?_ _|refine blk_drew ?_|refine blk_alloc ?_ _));exact BK574.out) hb);have n5_:=Aside0.mk (blk_below (g:=gb590) (o:= .cells #[.int .i64 ((rd_T85 x7_44 x64_4).f0),.int .i64 ((rd_T85 x7_44 x64_4).f1)] 85 (0,0)) (by (with_reducible repeat(first|refine blk_drewN ?_ _|refine blk_drew ?_|refine blk_alloc ?_ _));refine blk_put (cs:= #[.int .i64 ((rd_T85 x7_44 x64_4).f0),.int .i64 0]) ?_ 1 _ rfl;(with_reducible repeat(first|refine blk_drewN ?_ _|refine blk_drew ?_|refine blk_alloc ?_ _));refine blk_put (cs:= #[.int .i64 0,.int .i64 0]) ?_ 0 _ rfl;(with_reducible repeat(first|refine blk_drewN ?_ _|refine blk_drew ?_|refine blk_alloc ?_ _));exact BK590.out) hb);have n6_:=Aside0.mk (below_step (bl_ HB).out hb);have n7_:=Aside0.mk (hbox);have n8_:=sz_ HB hg;have n9_:=sz_ HB hg;have n10_:=Aside0.mk ((by rw[hg];exact Nat.ne_of_lt (blk_lt (g:=gb572) (o:= .cells #[.int .i64 a0_0,.int .i64 a0_1,.int .i64 a0_2,.bool a0_3,.slice A0_4 l0_4.length c0_4] 50 (0,0)) (by (with_reducible repeat(first|refine blk_drewN ?_ _|refine blk_drew ?_|refine blk_alloc ?_ _));refine blk_far ?_ NB572_590.out _;(with_reducible repeat(first|refine blk_drewN ?_ _|refine blk_drew ?_|refine blk_alloc ?_ _));refine blk_far ?_ NB572_590.out _;(with_reducible repeat(first|refine blk_drewN ?_ _|refine blk_drew ?_|refine blk_alloc ?_ _));exact BK572.out)):gb572≠gb591));have n11_:=Aside0.mk ((by rw[hg];exact Nat.ne_of_gt (blk_lt (g:=gb572) (o:= .cells #[.int .i64 a0_0,.int .i64 a0_1,.int .i64 a0_2,.bool a0_3,.slice A0_4 l0_4.length c0_4] 50 (0,0)) (by (with_reducible repeat(first|refine blk_drewN ?_ _|refine blk_drew ?_|refine blk_alloc ?_ _));refine blk_far ?_ NB572_590.out _;(with_reducible repeat(first|refine blk_drewN ?_ _|refine blk_drew ?_|refine blk_alloc ?_ _));refine blk_far ?_ NB572_590.out _;(with_reducible repeat(first|refine blk_drewN ?_ _|refine blk_drew ?_|refine blk_alloc ?_ _));exact BK572.out)):gb591≠gb572));have n12_:=Aside0.mk ((by rw[hg];exact Nat.ne_of_lt (blk_lt (g:=gb573) (o:= .cells #[.int .u8 0,.int .i64 0,.bool false,.slice none 0 0] 43 (0,0)) (by (with_reducible repeat(first|refine blk_drewN ?_ _|refine blk_drew ?_|refine blk_alloc ?_ _));refine blk_far ?_ NB573_590.out _;(with_reducible repeat(first|refine blk_drewN ?_ _|refine blk_drew ?_|refine blk_alloc ?_ _));refine blk_far ?_ NB573_590.out _;(with_reducible repeat(first|refine blk_drewN ?_ _|refine blk_drew ?_|refine blk_alloc ?_ _));exact BK573.out)):gb573≠gb591));have n13_:=Aside0.mk ((by rw[hg];exact Nat.ne_of_gt (blk_lt (g:=gb573) (o:= .cells #[.int .u8 0,.int .i64 0,.bool false,.slice none 0 0] 43 (0,0)) (by (with_reducible repeat(first|refine blk_drewN ?_ _|refine blk_drew ?_|refine blk_alloc ?_ _));refine blk_far ?_ NB573_590.out _;(with_reducible repeat(first|refine blk_drewN ?_ _|refine blk_drew ?_|refine blk_alloc ?_ _));refine blk_far ?_ NB573_590.out _;(with_reducible repeat(first|refine blk_drewN ?_ _|refine blk_drew ?_|refine blk_alloc ?_ _));exact BK573.out)):gb591≠gb573));have n14_:=Aside0.mk ((by rw[hg];exact Nat.ne_of_lt (blk_lt (g:=gb574) (o:= .cells #[.int .u8 (bt (⟨#[110,105,118,119,102,116,99,101]⟩:ByteArray) (Go.bits .and .i64 a0_0 7)),.int .i64 (Go.bits .and .i64 a0_1 65535),.bool a0_3,u575003] 43 (0,0)) (by (with_reducible repeat(first|refine blk_drewN ?_ _|refine blk_drew ?_|refine blk_alloc ?_ _));refine blk_far ?_ NB574_590.out _;(with_reducible repeat(first|refine blk_drewN ?_ _|refine blk_drew ?_|refine blk_alloc ?_ _));refine blk_far ?_ NB574_590.out _;(with_reducible repeat(first|refine blk_drewN ?_ _|refine blk_drew ?_|refine blk_alloc ?_ _));exact BK574.out)):gb574≠gb591));have n15_:=Aside0.mk ((by rw[hg];exact Nat.ne_of_gt (blk_lt (g:=gb574) (o:= .cells #[.int .u8 (bt (⟨#[110,105,118,119,102,116,99,101]⟩:ByteArray) (Go.bits .and .i64 a0_0 7)),.int .i64 (Go.bits .and .i64 a0_1 65535),.bool a0_3,u575003] 43 (0,0)) (by (with_reducible repeat(first|refine blk_drewN ?_ _|refine blk_drew ?_|refine blk_alloc ?_ _));refine blk_far ?_ NB574_590.out _;(with_reducible repeat(first|refine blk_drewN ?_ _|refine blk_drew ?_|refine blk_alloc ?_ _));refine blk_far ?_ NB574_590.out _;(with_reducible repeat(first|refine blk_drewN ?_ _|refine blk_drew ?_|refine blk_alloc ?_ _));exact BK574.out)):gb591≠gb574));have n16_:=Aside0.mk ((by rw[hg];exact Nat.ne_of_lt (blk_lt (g:=gb590) (o:= .cells #[.int .i64 ((rd_T85 x7_44 x64_4).f0),.int .i64 ((rd_T85 x7_44 x64_4).f1)] 85 (0,0)) (by (with_reducible repeat(first|refine blk_drewN ?_ _|refine blk_drew ?_|refine blk_alloc ?_ _));refine blk_put (cs:= #[.int .i64 ((rd_T85 x7_44 x64_4).f0),.int .i64 0]) ?_ 1 _ rfl;(with_reducible repeat(first|refine blk_drewN ?_ _|refine blk_drew ?_|refine blk_alloc ?_ _));refine blk_put (cs:= #[.int .i64 0,.int .i64 0]) ?_ 0 _ rfl;(with_reducible repeat(first|refine blk_drewN ?_ _|refine blk_drew ?_|refine blk_alloc ?_ _));exact BK590.out)):gb590≠gb591));have n17_:=Aside0.mk ((by rw[hg];exact Nat.ne_of_gt (blk_lt (g:=gb590) (o:= .cells #[.int .i64 ((rd_T85 x7_44 x64_4).f0),.int .i64 ((rd_T85 x7_44 x64_4).f1)] 85 (0,0)) (by (with_reducible repeat(first|refine blk_drewN ?_ _|refine blk_drew ?_|refine blk_alloc ?_ _));refine blk_put (cs:= #[.int .i64 ((rd_T85 x7_44 x64_4).f0),.int .i64 0]) ?_ 1 _ rfl;(with_reducible repeat(first|refine blk_drewN ?_ _|refine blk_drew ?_|refine blk_alloc ?_ _));refine blk_put (cs:= #[.int .i64 0,.int .i64 0]) ?_ 0 _ rfl;(with_reducible repeat(first|refine blk_drewN ?_ _|refine blk_drew ?_|refine blk_alloc ?_ _));exact BK590.out)):gb591≠gb590));clear HO_62;clear HO_575003;clear BK572;clear BK573;clear BK574;clear BK590;clear HB;have HO_62:=n0_;have HO_575003:=n1_;have BK572:=n2_;have BK573:=n3_;have BK574:=n4_;have BK590:=n5_;have HB:=n6_;have BK591:=n7_;have GW591:=n8_;have GE591:=n9_;have NB572_591:=n10_;have NB591_572:=n11_;have NB573_591:=n12_;have NB591_573:=n13_;have NB574_591:=n14_;have NB591_574:=n15_;have NB590_591:=n16_;have NB591_590:=n17_;clear n0_ n1_ n2_ n3_ n4_ n5_ n6_ n7_ n8_ n9_ n10_ n11_ n12_ n13_ n14_ n15_ n16_ n17_;clear hb hbox hg;have hnb68:=NB591_572.out;have hnc68:=NB572_591.out;have hnb69:=NB591_573.out;have hnc69:=NB573_591.out;have hnb70:=NB591_574.out;have hnc70:=NB574_591.out;have hnb71:=NB591_590.out;have hnc71:=NB590_591.out;obtain⟨hcz72_0,hcz72_1,hfz72_0,hfz72_1⟩:=bo2_ BK591;have hnb73:=NB574_572.out;have hnc73:=NB572_574.out;have hnb74:=NB574_573.out;have hnc74:=NB573_574.out;obtain⟨hcz75_0,hcz75_1,hcz75_2,hcz75_3,hfz75_0,hfz75_1,hfz75_2,hfz75_3⟩:=bo4_ BK574)|((with_reducible refine gate_builtin (b:= .append) (xs:= #[.tmp 81,.tmp 83]) rfl ?_);at_builtin;refine Kd.R_append k73 (w0:=w) w.heap.size rfl (.tmp 81) (.tmp 83) 41 73 (.agg #[(.int .i64 0),(.int .i64 0)]) 16 rfl Tryz.underlying41 info73 rfl (by decide) (by omega) u575003 x575003_4 (⟨Go.bits .and .i64 ((rd_T85 x7_44 x64_4).f0) 1048575,wrap64 ((Go.bits .and .i64 ((rd_T85 x7_44 x64_4).f0) 1048575)+(Go.bits .and .i64 ((rd_T85 x7_44 x64_4).f1) 3))⟩:S73) [.int .i64 (Go.bits .and .i64 ((rd_T85 x7_44 x64_4).f0) 1048575),.int .i64 (wrap64 ((Go.bits .and .i64 ((rd_T85 x7_44 x64_4).f0) 1048575)+(Go.bits .and .i64 ((rd_T85 x7_44 x64_4).f1) 3)))] (fun k_=>k_≠gb591) (fun _=>False) rfl (by first|(go_simp;done)|(go_simp;rfl)) ?aP (fun _ hk=>hk.elim) ?aF ?aO ?aB ?aS ?aL ?_;(case aP=>exact k73_mkM _ _ _ (⟨Go.bits .and .i64 ((rd_T85 x7_44 x64_4).f0) 1048575,wrap64 ((Go.bits .and .i64 ((rd_T85 x7_44 x64_4).f0) 1048575)+(Go.bits .and .i64 ((rd_T85 x7_44 x64_4).f1) 3))⟩:S73));(case aB=>exact(bl_ HB).out);(case aF=>exact(fun k_ hk=>Kd.freshB (g:=gb591) (o:= .cells #[.int .i64 (Go.bits .and .i64 ((rd_T85 x7_44 x64_4).f0) 1048575),.int .i64 (wrap64 ((Go.bits .and .i64 ((rd_T85 x7_44 x64_4).f0) 1048575)+(Go.bits .and .i64 ((rd_T85 x7_44 x64_4).f1) 3)))] 73 (0,0)) (by (with_reducible repeat(first|refine blk_drewN ?_ _|refine blk_drew ?_|refine blk_alloc ?_ _));refine blk_put (cs:= #[.int .i64 (Go.bits .and .i64 ((rd_T85 x7_44 x64_4).f0) 1048575),.int .i64 0]) ?_ 1 _ rfl;(with_reducible repeat(first|refine blk_drewN ?_ _|refine blk_drew ?_|refine blk_alloc ?_ _));refine blk_put (cs:= #[.int .i64 0,.int .i64 0]) ?_ 0 _ rfl;(with_reducible repeat(first|refine blk_drewN ?_ _|refine blk_drew ?_|refine blk_alloc ?_ _));exact BK591.out) k_ hk));(case aO=>exact(by (with_reducible repeat(first|apply Kd.R_alloc|apply Kd.R_drewN|apply Kd.R_drew));exact Kd.R_mono (Kd.R_far (Kd.R_far (Kd.R_mono HO_575003.out (fun k_ hk=>(⟨hk,hk.2⟩:_∧k_≠gb591))) (fun _ hk=>hk.2) _) (fun _ hk=>hk.2) _) (fun _ hk=>hk.1.2)));(case aS=>exact(below_size (bl_ HB).out));(case aL=>have:=LMc60.out;omega);intro v593 w76 ho hb hg hat;rw[← Ny592.out] at ho;have n0_:=Aside0.mk (Kd.R_over' (by (with_reducible repeat(first|apply Kd.R_alloc|apply Kd.R_drewN|apply Kd.R_drew));exact(Kd.R_mono (Kd.R_far (Kd.R_far (Kd.R_types HO_62.out BK591.out (by decide)) (fun _ hk=>hk.2) _) (fun _ hk=>hk.2) _) (fun _ h_=>h_.1))) (Kd.R_typed (by (with_reducible repeat(first|apply Kd.R_alloc|apply Kd.R_drewN|apply Kd.R_drew));exact(Kd.R_mono (Kd.R_far (Kd.R_far (Kd.R_mono HO_575003.out (fun k_ hk=>(⟨hk,hk.2⟩:_∧k_≠gb591))) (fun _ hk=>hk.2) _) (fun _ hk=>hk.2) _) (fun _ h_=>h_.1)))) (by decide) hg);have n1_:=Aside0.mk (blk_grown (g:=gb572) (o:= .cells #[.int .i64 a0_0,.int .i64 a0_1,.int .i64 a0_2,.bool a0_3,.slice A0_4 l0_4.length c0_4] 50 (0,0)) (by (with_reducible repeat(first|refine blk_drewN ?_ _|refine blk_drew ?_|refine blk_alloc ?_ _));refine blk_far ?_ NB572_591.out _;(with_reducible repeat(first|refine blk_drewN ?_ _|refine blk_drew ?_|refine blk_alloc ?_ _));refine blk_far ?_ NB572_591.out _;(with_reducible repeat(first|refine blk_drewN ?_ _|refine blk_drew ?_|refine blk_alloc ?_ _));exact BK572.out) hg (Kd.R_ne HO_575003.out BK572.out (by decide)));have n2_:=Aside0.mk (blk_grown (g:=gb573) (o:= .cells #[.int .u8 0,.int .i64 0,.bool false,.slice none 0 0] 43 (0,0)) (by (with_reducible repeat(first|refine blk_drewN ?_ _|refine blk_drew ?_|refine blk_alloc ?_ _));refine blk_far ?_ NB573_591.out _;(with_reducible repeat(first|refine blk_drewN ?_ _|refine blk_drew ?_|refine blk_alloc ?_ _));refine blk_far ?_ NB573_591.out _;(with_reducible repeat(first|refine blk_drewN ?_ _|refine blk_drew ?_|refine blk_alloc ?_ _));exact BK573.out) hg (Kd.R_ne HO_575003.out BK573.out (by decide)));have n3_:=Aside0.mk (blk_grown (g:=gb574) (o:= .cells #[.int .u8 (bt (⟨#[110,105,118,119,102,116,99,101]⟩:ByteArray) (Go.bits .and .i64 a0_0 7)),.int .i64 (Go.bits .and .i64 a0_1 65535),.bool a0_3,u575003] 43 (0,0)) (by (with_reducible repeat(first|refine blk_drewN ?_ _|refine blk_drew ?_|refine blk_alloc ?_ _));refine blk_far ?_ NB574_591.out _;(with_reducible repeat(first|refine blk_drewN ?_ _|refine blk_drew ?_|refine blk_alloc ?_ _));refine blk_far ?_ NB574_591.out _;(with_reducible repeat(first|refine blk_drewN ?_ _|refine blk_drew ?_|refine blk_alloc ?_ _));exact BK574.out) hg (Kd.R_ne HO_575003.out BK574.out (by decide)));have n4_:=Aside0.mk (blk_grown (g:=gb590) (o:= .cells #[.int .i64 ((rd_T85 x7_44 x64_4).f0),.int .i64 ((rd_T85 x7_44 x64_4).f1)] 85 (0,0)) (by (with_reducible repeat(first|refine blk_drewN ?_ _|refine blk_drew ?_|refine blk_alloc ?_ _));refine blk_far ?_ NB590_591.out _;(with_reducible repeat(first|refine blk_drewN ?_ _|refine blk_drew ?_|refine blk_alloc ?_ _));refine blk_far ?_ NB590_591.out _;(with_reducible repeat(first|refine blk_drewN ?_ _|refine blk_drew ?_|refine blk_alloc ?_ _));exact BK590.out) hg (Kd.R_ne HO_575003.out BK590.out (by decide)));have n5_:=Aside0.mk (blk_grown (g:=gb591) (o:= .cells #[.int .i64 (Go.bits .and .i64 ((rd_T85 x7_44 x64_4).f0) 1048575),.int .i64 (wrap64 ((Go.bits .and .i64 ((rd_T85 x7_44 x64_4).f0) 1048575)+(Go.bits .and .i64 ((rd_T85 x7_44 x64_4).f1) 3)))] 73 (0,0)) (by (with_reducible repeat(first|refine blk_drewN ?_ _|refine blk_drew ?_|refine blk_alloc ?_ _));refine blk_put (cs:= #[.int .i64 (Go.bits .and .i64 ((rd_T85 x7_44 x64_4).f0) 1048575),.int .i64 0]) ?_ 1 _ rfl;(with_reducible repeat(first|refine blk_drewN ?_ _|refine blk_drew ?_|refine blk_alloc ?_ _));refine blk_put (cs:= #[.int .i64 0,.int .i64 0]) ?_ 0 _ rfl;(with_reducible repeat(first|refine blk_drewN ?_ _|refine blk_drew ?_|refine blk_alloc ?_ _));exact BK591.out) hg (Kd.R_away HO_575003.out (fun _ hk=>hk.2)));have n6_:=Aside0.mk (hb);have n7_:=Aside0.mk (ho);clear HO_62;clear BK572;clear BK573;clear BK574;clear BK590;clear BK591;clear HB;clear HO_575003;have HO_62:=n0_;have BK572:=n1_;have BK573:=n2_;have BK574:=n3_;have BK590:=n4_;have BK591:=n5_;have HB:=n6_;have HO594:=n7_;clear n0_ n1_ n2_ n3_ n4_ n5_ n6_ n7_;clear ho hb hg hat;obtain⟨Ao77,co77,eo77⟩:=Kd.R_slice HO594.out;subst eo77;obtain⟨hcz78_0,hcz78_1,hcz78_2,hcz78_3,hfz78_0,hfz78_1,hfz78_2,hfz78_3⟩:=bo4_ BK574))
          (try simp only[Act.put,List.setIfInBounds_toArray,List.set_cons_zero,List.set_cons_succ])
          go_cut [6] (fun v6 wc=>∃(kq:Nat) (x6_60:ByteArray),v6= .string x6_60∧Aside0 (florinlaw06_Relation_relation.j4 kq t575 x6_60 x7_44 (x7_44.length:Int) x64_4 (bt (⟨#[110,105,118,119,102,116,99,101]⟩:ByteArray) (Go.bits .and .i64 a0_0 7)) (Go.bits .and .i64 a0_1 65535) a0_3 y592 ((rd_T85 x7_44 x64_4).f0) ((rd_T85 x7_44 x64_4).f1) (Go.bits .and .i64 ((rd_T85 x7_44 x64_4).f0) 1048575) (wrap64 ((Go.bits .and .i64 ((rd_T85 x7_44 x64_4).f0) 1048575)+(Go.bits .and .i64 ((rd_T85 x7_44 x64_4).f1) 3)))=some (r1,r2,r3,r4,r5))∧Aside0 (kq≤k4)∧Aside0 (Kd.R k85 85 wc w.heap.size (fun k_=>k_≠gb590) (.slice (some ad589) x7_44.length co56) x7_44)∧Aside0 (Kd.R k73 73 wc w.heap.size (fun k_=>k_≠gb591) (.slice Ao77 y592.length co77) y592)∧Aside0 (wc.heap[gb572]? = some (.cells #[.int .i64 a0_0,.int .i64 a0_1,.int .i64 a0_2,.bool a0_3,(.slice A0_4 l0_4.length c0_4)] 50 (0,0)))∧Aside0 (wc.heap[gb573]? = some (.cells #[.int .u8 0,.int .i64 0,.bool false,(.slice none 0 0)] 43 (0,0)))∧Aside0 (wc.heap[gb574]? = some (.cells #[.int .u8 (bt (⟨#[110,105,118,119,102,116,99,101]⟩:ByteArray) (Go.bits .and .i64 a0_0 7)),.int .i64 (Go.bits .and .i64 a0_1 65535),.bool a0_3,(.slice Ao77 y592.length co77)] 43 (0,0)))∧Aside0 (wc.heap[gb590]? = some (.cells #[.int .i64 ((rd_T85 x7_44 x64_4).f0),.int .i64 ((rd_T85 x7_44 x64_4).f1)] 85 (0,0)))∧Aside0 (wc.heap[gb591]? = some (.cells #[.int .i64 (Go.bits .and .i64 ((rd_T85 x7_44 x64_4).f0) 1048575),.int .i64 (wrap64 ((Go.bits .and .i64 ((rd_T85 x7_44 x64_4).f0) 1048575)+(Go.bits .and .i64 ((rd_T85 x7_44 x64_4).f1) 3)))] 73 (0,0)))∧Aside0 (Below w.heap.size w wc))
          case first =>
           have H:=HC61.out
           clear HC61
           by_cases c79:x64_4>0
           ·rw[if_pos c79] at H
            have c79b0:decide (0<x64_4)=true:=decide_eq_true c79
            clear c79
            (first|rw[c79b0]|(simp only[i64_w,i32_w];rw[c79b0])|skip)
            replace H:=ifn_ H
            obtain⟨c80,H⟩:=H
            have c80b0:=eq_true c80
            have c80b1:decide (x6_4.size+t575.size≤9223372036854775807)=true:=decide_eq_true c80
            try have c80b2:=eq_false (Nat.not_lt.2 c80)
            replace H:=ifn_ H
            obtain⟨c81,H⟩:=H
            have c81b0:=eq_true c81
            have c81b1:decide ((x6_4++t575).size+1≤9223372036854775807)=true:=decide_eq_true c81
            try (have c81b5:=c81b0;simp only[ByteArray.size_append,Int.natCast_add] at c81b5)
            try have c81b2:=eq_false (Nat.not_lt.2 c81)
            try have c81b3:(9223372036854775807<x6_4.size+t575.size+1)=False:=eq_false (Nat.not_lt.2 (by have h_:=c81;simp only[ByteArray.size_append] at h_;exact h_))
            try have c81b4:(x6_4.size+t575.size+1≤9223372036854775807)=True:=eq_true (by have h_:=c81;simp only[ByteArray.size_append] at h_;exact h_)
            replace H:=ifn_ H
            obtain⟨c82,H⟩:=H
            have c82b0:=eq_true c82
            have c82b1:decide (((x6_4++t575)++(⟨#[44]⟩:ByteArray)).size+t575.size≤9223372036854775807)=true:=decide_eq_true c82
            try (have c82b5:=c82b0;simp only[ByteArray.size_append,Int.natCast_add] at c82b5)
            try have c82b2:=eq_false (Nat.not_lt.2 c82)
            try have c82b3:(9223372036854775807<x6_4.size+t575.size+1+t575.size)=False:=eq_false (Nat.not_lt.2 (by have h_:=c82;simp only[ByteArray.size_append] at h_;exact h_))
            try have c82b4:(x6_4.size+t575.size+1+t575.size≤9223372036854775807)=True:=eq_true (by have h_:=c82;simp only[ByteArray.size_append] at h_;exact h_)
            have H':=Aside0.mk H
            clear H
            go_wp2
            go_meet
            case rel=>exact⟨_,(((x6_4++t575)++(⟨#[44]⟩:ByteArray))++t575),eq_,H',⟨by have:=HJ6.out;have:=HJ35.out;have:=HJ44.out;have:=HK4.out;first|omega|exact Nat.le_refl _⟩,⟨by (with_reducible repeat(first|apply Kd.R_alloc|apply Kd.R_drewN|apply Kd.R_drew));exact Kd.R_mono (Kd.R_far (Kd.R_types HO_62.out BK574.out (by decide)) (fun _ hk=>hk.2) _) (fun _ hk=>hk.1.2)⟩,⟨by (with_reducible repeat(first|apply Kd.R_alloc|apply Kd.R_drewN|apply Kd.R_drew));exact Kd.R_mono (Kd.R_far (Kd.R_types HO594.out BK574.out (by decide)) (fun _ hk=>hk.2) _) (fun _ hk=>hk.1)⟩,⟨by (with_reducible repeat(first|refine blk_drewN ?_ _|refine blk_drew ?_|refine blk_alloc ?_ _));refine blk_far ?_ NB572_574.out _;(with_reducible repeat(first|refine blk_drewN ?_ _|refine blk_drew ?_|refine blk_alloc ?_ _));exact BK572.out⟩,⟨by (with_reducible repeat(first|refine blk_drewN ?_ _|refine blk_drew ?_|refine blk_alloc ?_ _));refine blk_far ?_ NB573_574.out _;(with_reducible repeat(first|refine blk_drewN ?_ _|refine blk_drew ?_|refine blk_alloc ?_ _));exact BK573.out⟩,⟨by (with_reducible repeat(first|refine blk_drewN ?_ _|refine blk_drew ?_|refine blk_alloc ?_ _));refine blk_put (cs:= #[.int .u8 (bt (⟨#[110,105,118,119,102,116,99,101]⟩:ByteArray) (Go.bits .and .i64 a0_0 7)),.int .i64 (Go.bits .and .i64 a0_1 65535),.bool a0_3,u575003]) ?_ 3 _ rfl;(with_reducible repeat(first|refine blk_drewN ?_ _|refine blk_drew ?_|refine blk_alloc ?_ _));exact BK574.out⟩,⟨by (with_reducible repeat(first|refine blk_drewN ?_ _|refine blk_drew ?_|refine blk_alloc ?_ _));refine blk_far ?_ NB590_574.out _;(with_reducible repeat(first|refine blk_drewN ?_ _|refine blk_drew ?_|refine blk_alloc ?_ _));exact BK590.out⟩,⟨by (with_reducible repeat(first|refine blk_drewN ?_ _|refine blk_drew ?_|refine blk_alloc ?_ _));refine blk_far ?_ NB591_574.out _;(with_reducible repeat(first|refine blk_drewN ?_ _|refine blk_drew ?_|refine blk_alloc ?_ _));exact BK591.out⟩,(bl_ HB)⟩
           ·rw[if_neg c79] at H
            have c79b0:decide (0<x64_4)=false:=decide_eq_false c79
            clear c79
            (first|rw[c79b0]|(simp only[i64_w,i32_w];rw[c79b0])|skip)
            have H':=Aside0.mk H
            clear H
            go_wp2
            go_meet
            case rel=>exact⟨_,(x6_4),eq_,H',⟨by have:=HJ6.out;have:=HJ35.out;have:=HJ44.out;have:=HK4.out;first|omega|exact Nat.le_refl _⟩,⟨by (with_reducible repeat(first|apply Kd.R_alloc|apply Kd.R_drewN|apply Kd.R_drew));exact Kd.R_mono (Kd.R_far (Kd.R_types HO_62.out BK574.out (by decide)) (fun _ hk=>hk.2) _) (fun _ hk=>hk.1.2)⟩,⟨by (with_reducible repeat(first|apply Kd.R_alloc|apply Kd.R_drewN|apply Kd.R_drew));exact Kd.R_mono (Kd.R_far (Kd.R_types HO594.out BK574.out (by decide)) (fun _ hk=>hk.2) _) (fun _ hk=>hk.1)⟩,⟨by (with_reducible repeat(first|refine blk_drewN ?_ _|refine blk_drew ?_|refine blk_alloc ?_ _));refine blk_far ?_ NB572_574.out _;(with_reducible repeat(first|refine blk_drewN ?_ _|refine blk_drew ?_|refine blk_alloc ?_ _));exact BK572.out⟩,⟨by (with_reducible repeat(first|refine blk_drewN ?_ _|refine blk_drew ?_|refine blk_alloc ?_ _));refine blk_far ?_ NB573_574.out _;(with_reducible repeat(first|refine blk_drewN ?_ _|refine blk_drew ?_|refine blk_alloc ?_ _));exact BK573.out⟩,⟨by (with_reducible repeat(first|refine blk_drewN ?_ _|refine blk_drew ?_|refine blk_alloc ?_ _));refine blk_put (cs:= #[.int .u8 (bt (⟨#[110,105,118,119,102,116,99,101]⟩:ByteArray) (Go.bits .and .i64 a0_0 7)),.int .i64 (Go.bits .and .i64 a0_1 65535),.bool a0_3,u575003]) ?_ 3 _ rfl;(with_reducible repeat(first|refine blk_drewN ?_ _|refine blk_drew ?_|refine blk_alloc ?_ _));exact BK574.out⟩,⟨by (with_reducible repeat(first|refine blk_drewN ?_ _|refine blk_drew ?_|refine blk_alloc ?_ _));refine blk_far ?_ NB590_574.out _;(with_reducible repeat(first|refine blk_drewN ?_ _|refine blk_drew ?_|refine blk_alloc ?_ _));exact BK590.out⟩,⟨by (with_reducible repeat(first|refine blk_drewN ?_ _|refine blk_drew ?_|refine blk_alloc ?_ _));refine blk_far ?_ NB591_574.out _;(with_reducible repeat(first|refine blk_drewN ?_ _|refine blk_drew ?_|refine blk_alloc ?_ _));exact BK591.out⟩,(bl_ HB)⟩
          case rest =>
           clear HC61
           obtain⟨kq,x6_60,rfl,HA,HJ60,HO_62,HO_575003,BK572,BK573,BK574,BK590,BK591,HB⟩:=hcut
           cases kq with
           | zero=>exact absurd HA.out (by simp[florinlaw06_Relation_relation.j4])
           | succ kj60 =>
            have H:=HA.out
            clear HA
            simp only[florinlaw06_Relation_relation.j4] at H
            replace H:=Option.bind_eq_some_iff.mp H
            obtain⟨t595,A830,H⟩:=H
            replace H:(if x6_60.size+t595.size≤9223372036854775807 then (if (Go.bits .and .i64 ((rd_T85 x7_44 x64_4).f0) 1048575)=(wrap64 ((Go.bits .and .i64 ((rd_T85 x7_44 x64_4).f0) 1048575)+(Go.bits .and .i64 ((rd_T85 x7_44 x64_4).f1) 3))) then (if (Go.bits .and .i64 ((rd_T85 x7_44 x64_4).f1) 4)=4 then (if (x6_60++t595).size+t575.size≤9223372036854775807 then (if ((x6_60++t595)++t575).size+2≤9223372036854775807 then (if (((x6_60++t595)++t575)++(⟨#[46,46]⟩:ByteArray)).size+t575.size≤9223372036854775807 then ((florinlaw06_digits.f kj60 (wrap64 ((Go.bits .and .i64 ((rd_T85 x7_44 x64_4).f0) 1048575)+(Go.bits .and .i64 ((rd_T85 x7_44 x64_4).f1) 3)))).bind fun t596=>(if ((((x6_60++t595)++t575)++(⟨#[46,46]⟩:ByteArray))++t575).size+t596.size≤9223372036854775807 then (florinlaw06_Relation_relation.l0 kj60 t575 (((((x6_60++t595)++t575)++(⟨#[46,46]⟩:ByteArray))++t575)++t596) x7_44 (x7_44.length:Int) (wrap64 (x64_4+1)) (bt (⟨#[110,105,118,119,102,116,99,101]⟩:ByteArray) (Go.bits .and .i64 a0_0 7)) (Go.bits .and .i64 a0_1 65535) a0_3 y592) else (none))) else (none)) else (none)) else (none)) else (florinlaw06_Relation_relation.l0 kj60 t575 (x6_60++t595) x7_44 (x7_44.length:Int) (wrap64 (x64_4+1)) (bt (⟨#[110,105,118,119,102,116,99,101]⟩:ByteArray) (Go.bits .and .i64 a0_0 7)) (Go.bits .and .i64 a0_1 65535) a0_3 y592)) else (if (x6_60++t595).size+t575.size≤9223372036854775807 then (if ((x6_60++t595)++t575).size+2≤9223372036854775807 then (if (((x6_60++t595)++t575)++(⟨#[46,46]⟩:ByteArray)).size+t575.size≤9223372036854775807 then ((florinlaw06_digits.f kj60 (wrap64 ((Go.bits .and .i64 ((rd_T85 x7_44 x64_4).f0) 1048575)+(Go.bits .and .i64 ((rd_T85 x7_44 x64_4).f1) 3)))).bind fun t597=>(if ((((x6_60++t595)++t575)++(⟨#[46,46]⟩:ByteArray))++t575).size+t597.size≤9223372036854775807 then (florinlaw06_Relation_relation.l0 kj60 t575 (((((x6_60++t595)++t575)++(⟨#[46,46]⟩:ByteArray))++t575)++t597) x7_44 (x7_44.length:Int) (wrap64 (x64_4+1)) (bt (⟨#[110,105,118,119,102,116,99,101]⟩:ByteArray) (Go.bits .and .i64 a0_0 7)) (Go.bits .and .i64 a0_1 65535) a0_3 y592) else (none))) else (none)) else (none)) else (none))) else (none))=some (r1,r2,r3,r4,r5):=H
            have A83:=Aside0.mk A830
            clear A830
            replace H:=ifn_ H
            obtain⟨c84,H⟩:=H
            have c84b0:=eq_true c84
            have c84b1:decide (x6_60.size+t595.size≤9223372036854775807)=true:=decide_eq_true c84
            try have c84b2:=eq_false (Nat.not_lt.2 c84)
            by_cases c85:(Go.bits .and .i64 ((rd_T85 x7_44 x64_4).f0) 1048575)=(wrap64 ((Go.bits .and .i64 ((rd_T85 x7_44 x64_4).f0) 1048575)+(Go.bits .and .i64 ((rd_T85 x7_44 x64_4).f1) 3)))
            ·rw[if_pos c85] at H
             have c85b0:((Go.bits .and .i64 ((rd_T85 x7_44 x64_4).f0) 1048575)==(wrap64 ((Go.bits .and .i64 ((rd_T85 x7_44 x64_4).f0) 1048575)+(Go.bits .and .i64 ((rd_T85 x7_44 x64_4).f1) 3))))=true:=beq_iff_eq.mpr c85
             have c85b1:((Go.bits .and .i64 ((rd_T85 x7_44 x64_4).f0) 1048575) !=(wrap64 ((Go.bits .and .i64 ((rd_T85 x7_44 x64_4).f0) 1048575)+(Go.bits .and .i64 ((rd_T85 x7_44 x64_4).f1) 3))))=false:=bne_eq_false_iff_eq.mpr c85
             clear c85
             by_cases c86:(Go.bits .and .i64 ((rd_T85 x7_44 x64_4).f1) 4)=4
             ·rw[if_pos c86] at H
              have c86b0:((Go.bits .and .i64 ((rd_T85 x7_44 x64_4).f1) 4)==4)=true:=beq_iff_eq.mpr c86
              have c86b1:((Go.bits .and .i64 ((rd_T85 x7_44 x64_4).f1) 4) !=4)=false:=bne_eq_false_iff_eq.mpr c86
              clear c86
              replace H:=ifn_ H
              obtain⟨c87,H⟩:=H
              have c87b0:=eq_true c87
              have c87b1:decide ((x6_60++t595).size+t575.size≤9223372036854775807)=true:=decide_eq_true c87
              try (have c87b5:=c87b0;simp only[ByteArray.size_append,Int.natCast_add] at c87b5)
              try have c87b2:=eq_false (Nat.not_lt.2 c87)
              try have c87b3:(9223372036854775807<x6_60.size+t595.size+t575.size)=False:=eq_false (Nat.not_lt.2 (by have h_:=c87;simp only[ByteArray.size_append] at h_;exact h_))
              try have c87b4:(x6_60.size+t595.size+t575.size≤9223372036854775807)=True:=eq_true (by have h_:=c87;simp only[ByteArray.size_append] at h_;exact h_)
              replace H:=ifn_ H
              obtain⟨c88,H⟩:=H
              have c88b0:=eq_true c88
              have c88b1:decide (((x6_60++t595)++t575).size+2≤9223372036854775807)=true:=decide_eq_true c88
              try (have c88b5:=c88b0;simp only[ByteArray.size_append,Int.natCast_add] at c88b5)
              try have c88b2:=eq_false (Nat.not_lt.2 c88)
              try have c88b3:(9223372036854775807<x6_60.size+t595.size+t575.size+2)=False:=eq_false (Nat.not_lt.2 (by have h_:=c88;simp only[ByteArray.size_append] at h_;exact h_))
              try have c88b4:(x6_60.size+t595.size+t575.size+2≤9223372036854775807)=True:=eq_true (by have h_:=c88;simp only[ByteArray.size_append] at h_;exact h_)
              replace H:=ifn_ H
              obtain⟨c89,H⟩:=H
              have c89b0:=eq_true c89
              have c89b1:decide ((((x6_60++t595)++t575)++(⟨#[46,46]⟩:ByteArray)).size+t575.size≤9223372036854775807)=true:=decide_eq_true c89
              try (have c89b5:=c89b0;simp only[ByteArray.size_append,Int.natCast_add] at c89b5)
              try have c89b2:=eq_false (Nat.not_lt.2 c89)
              try have c89b3:(9223372036854775807<x6_60.size+t595.size+t575.size+2+t575.size)=False:=eq_false (Nat.not_lt.2 (by have h_:=c89;simp only[ByteArray.size_append] at h_;exact h_))
              try have c89b4:(x6_60.size+t595.size+t575.size+2+t575.size≤9223372036854775807)=True:=eq_true (by have h_:=c89;simp only[ByteArray.size_append] at h_;exact h_)
              replace H:=Option.bind_eq_some_iff.mp H
              obtain⟨t596,A900,H⟩:=H
              replace H:(if ((((x6_60++t595)++t575)++(⟨#[46,46]⟩:ByteArray))++t575).size+t596.size≤9223372036854775807 then (florinlaw06_Relation_relation.l0 kj60 t575 (((((x6_60++t595)++t575)++(⟨#[46,46]⟩:ByteArray))++t575)++t596) x7_44 (x7_44.length:Int) (wrap64 (x64_4+1)) (bt (⟨#[110,105,118,119,102,116,99,101]⟩:ByteArray) (Go.bits .and .i64 a0_0 7)) (Go.bits .and .i64 a0_1 65535) a0_3 y592) else (none))=some (r1,r2,r3,r4,r5):=H
              have A90:=Aside0.mk A900
              clear A900
              replace H:=ifn_ H
              obtain⟨c91,H⟩:=H
              have c91b0:=eq_true c91
              have c91b1:decide (((((x6_60++t595)++t575)++(⟨#[46,46]⟩:ByteArray))++t575).size+t596.size≤9223372036854775807)=true:=decide_eq_true c91
              try (have c91b5:=c91b0;simp only[ByteArray.size_append,Int.natCast_add] at c91b5)
              try have c91b2:=eq_false (Nat.not_lt.2 c91)
              try have c91b3:(9223372036854775807<x6_60.size+t595.size+t575.size+2+t575.size+t596.size)=False:=eq_false (Nat.not_lt.2 (by have h_:=c91;simp only[ByteArray.size_append] at h_;exact h_))
              try have c91b4:(x6_60.size+t595.size+t575.size+2+t575.size+t596.size≤9223372036854775807)=True:=eq_true (by have h_:=c91;simp only[ByteArray.size_append] at h_;exact h_)
              have H':=Aside0.mk H
              clear H
              have hnb92:=NB591_572.out
              have hnc92:=NB572_591.out
              have hnb93:=NB591_573.out
              have hnc93:=NB573_591.out
              have hnb94:=NB591_574.out
              have hnc94:=NB574_591.out
              have hnb95:=NB591_590.out
              have hnc95:=NB590_591.out
              obtain⟨hcz96_0,hcz96_1,hfz96_0,hfz96_1⟩:=bo2_ BK591
              go_wp2_with (first|((with_reducible refine gate_callee (f:=32) rfl ?_);refine gl_ (some 97) Tryz.func32 #[.int .i64 (Go.bits .and .i64 ((rd_T85 x7_44 x64_4).f0) 1048575)] ?_;(with_reducible refine(florinlaw06_digits.calls _ _ _ _ A83.out).mono ?_);rintro e w97 ⟨rfl,hb⟩;refine⟨_,rfl,?_⟩;replace HO_62:=kb_ HO_62 hb;replace HO_575003:=kb_ HO_575003 hb;replace BK572:=bb_ BK572 hb;replace BK573:=bb_ BK573 hb;replace BK574:=bb_ BK574 hb;replace BK590:=bb_ BK590 hb;replace BK591:=bb_ BK591 hb;replace HB:=Aside0.mk (below_step (bl_ HB).out hb);(try clear hb);obtain⟨hcz98_0,hcz98_1,hfz98_0,hfz98_1⟩:=bo2_ BK591;have hnb99:=NB590_572.out;have hnc99:=NB572_590.out;have hnb100:=NB590_573.out;have hnc100:=NB573_590.out;have hnb101:=NB590_574.out;have hnc101:=NB574_590.out;obtain⟨hcz102_0,hcz102_1,hfz102_0,hfz102_1⟩:=bo2_ BK590)|((with_reducible refine gate_callee (f:=32) rfl ?_);refine gl_ (some 118) Tryz.func32 #[.int .i64 (wrap64 ((Go.bits .and .i64 ((rd_T85 x7_44 x64_4).f0) 1048575)+(Go.bits .and .i64 ((rd_T85 x7_44 x64_4).f1) 3)))] ?_;(with_reducible refine(florinlaw06_digits.calls kj60 (wrap64 ((Go.bits .and .i64 ((rd_T85 x7_44 x64_4).f0) 1048575)+(Go.bits .and .i64 ((rd_T85 x7_44 x64_4).f1) 3))) t596 _ A90.out).mono ?_);rintro e w103 ⟨rfl,hb⟩;refine⟨_,rfl,?_⟩;replace HO_62:=kb_ HO_62 hb;replace HO_575003:=kb_ HO_575003 hb;replace BK572:=bb_ BK572 hb;replace BK573:=bb_ BK573 hb;replace BK574:=bb_ BK574 hb;replace BK590:=bb_ BK590 hb;replace BK591:=bb_ BK591 hb;replace HB:=Aside0.mk (below_step (bl_ HB).out hb);(try clear hb);(try clear hi)))
              go_roundg kj60
              case measure=>have:=HJ6.out;have:=HJ35.out;have:=HJ44.out;have:=HK4.out;have:=HJ60.out;omega
              case rel=>exact⟨(((((x6_60++t595)++t575)++(⟨#[46,46]⟩:ByteArray))++t575)++t596),(wrap64 (x64_4+1)),(y592),(.slice Ao77 y592.length co77),eq_,eq_,H',⟨by have:=HJ6.out;have:=HJ35.out;have:=HJ44.out;have:=HK4.out;have:=HJ60.out;omega⟩,⟨by (with_reducible repeat(first|apply Kd.R_alloc|apply Kd.R_drewN|apply Kd.R_drew));exact Kd.R_mono HO_62.out (fun _ hk=>trivial)⟩,⟨by (with_reducible repeat(first|apply Kd.R_alloc|apply Kd.R_drewN|apply Kd.R_drew));exact Kd.R_mono HO_575003.out (fun _ hk=>trivial)⟩,(bk_ BK572),(bk_ BK573),(bk_ BK574),(bl_ HB)⟩
             ·rw[if_neg c86] at H
              have c86b0:((Go.bits .and .i64 ((rd_T85 x7_44 x64_4).f1) 4)==4)=false:=beq_eq_false_iff_ne.mpr c86
              have c86b1:((Go.bits .and .i64 ((rd_T85 x7_44 x64_4).f1) 4) !=4)=true:=bne_iff_ne.mpr c86
              have H':=Aside0.mk H
              clear H
              have hnb104:=NB591_572.out
              have hnc104:=NB572_591.out
              have hnb105:=NB591_573.out
              have hnc105:=NB573_591.out
              have hnb106:=NB591_574.out
              have hnc106:=NB574_591.out
              have hnb107:=NB591_590.out
              have hnc107:=NB590_591.out
              obtain⟨hcz108_0,hcz108_1,hfz108_0,hfz108_1⟩:=bo2_ BK591
              go_wp2_with (first|((with_reducible refine gate_callee (f:=32) rfl ?_);refine gl_ (some 97) Tryz.func32 #[.int .i64 (Go.bits .and .i64 ((rd_T85 x7_44 x64_4).f0) 1048575)] ?_;(with_reducible refine(florinlaw06_digits.calls _ _ _ _ A83.out).mono ?_);rintro e w109 ⟨rfl,hb⟩;refine⟨_,rfl,?_⟩;replace HO_62:=kb_ HO_62 hb;replace HO_575003:=kb_ HO_575003 hb;replace BK572:=bb_ BK572 hb;replace BK573:=bb_ BK573 hb;replace BK574:=bb_ BK574 hb;replace BK590:=bb_ BK590 hb;replace BK591:=bb_ BK591 hb;replace HB:=Aside0.mk (below_step (bl_ HB).out hb);(try clear hb);obtain⟨hcz110_0,hcz110_1,hfz110_0,hfz110_1⟩:=bo2_ BK591;have hnb111:=NB590_572.out;have hnc111:=NB572_590.out;have hnb112:=NB590_573.out;have hnc112:=NB573_590.out;have hnb113:=NB590_574.out;have hnc113:=NB574_590.out;obtain⟨hcz114_0,hcz114_1,hfz114_0,hfz114_1⟩:=bo2_ BK590))
              go_roundg kj60
              case measure=>have:=HJ6.out;have:=HJ35.out;have:=HJ44.out;have:=HK4.out;have:=HJ60.out;omega
              case rel=>exact⟨(x6_60++t595),(wrap64 (x64_4+1)),(y592),(.slice Ao77 y592.length co77),eq_,eq_,H',⟨by have:=HJ6.out;have:=HJ35.out;have:=HJ44.out;have:=HK4.out;have:=HJ60.out;omega⟩,⟨by (with_reducible repeat(first|apply Kd.R_alloc|apply Kd.R_drewN|apply Kd.R_drew));exact Kd.R_mono HO_62.out (fun _ hk=>trivial)⟩,⟨by (with_reducible repeat(first|apply Kd.R_alloc|apply Kd.R_drewN|apply Kd.R_drew));exact Kd.R_mono HO_575003.out (fun _ hk=>trivial)⟩,(bk_ BK572),(bk_ BK573),(bk_ BK574),(bl_ HB)⟩
            ·rw[if_neg c85] at H
             have c85b0:((Go.bits .and .i64 ((rd_T85 x7_44 x64_4).f0) 1048575)==(wrap64 ((Go.bits .and .i64 ((rd_T85 x7_44 x64_4).f0) 1048575)+(Go.bits .and .i64 ((rd_T85 x7_44 x64_4).f1) 3))))=false:=beq_eq_false_iff_ne.mpr c85
             have c85b1:((Go.bits .and .i64 ((rd_T85 x7_44 x64_4).f0) 1048575) !=(wrap64 ((Go.bits .and .i64 ((rd_T85 x7_44 x64_4).f0) 1048575)+(Go.bits .and .i64 ((rd_T85 x7_44 x64_4).f1) 3))))=true:=bne_iff_ne.mpr c85
             replace H:=ifn_ H
             obtain⟨c115,H⟩:=H
             have c115b0:=eq_true c115
             have c115b1:decide ((x6_60++t595).size+t575.size≤9223372036854775807)=true:=decide_eq_true c115
             try (have c115b5:=c115b0;simp only[ByteArray.size_append,Int.natCast_add] at c115b5)
             try have c115b2:=eq_false (Nat.not_lt.2 c115)
             try have c115b3:(9223372036854775807<x6_60.size+t595.size+t575.size)=False:=eq_false (Nat.not_lt.2 (by have h_:=c115;simp only[ByteArray.size_append] at h_;exact h_))
             try have c115b4:(x6_60.size+t595.size+t575.size≤9223372036854775807)=True:=eq_true (by have h_:=c115;simp only[ByteArray.size_append] at h_;exact h_)
             replace H:=ifn_ H
             obtain⟨c116,H⟩:=H
             have c116b0:=eq_true c116
             have c116b1:decide (((x6_60++t595)++t575).size+2≤9223372036854775807)=true:=decide_eq_true c116
             try (have c116b5:=c116b0;simp only[ByteArray.size_append,Int.natCast_add] at c116b5)
             try have c116b2:=eq_false (Nat.not_lt.2 c116)
             try have c116b3:(9223372036854775807<x6_60.size+t595.size+t575.size+2)=False:=eq_false (Nat.not_lt.2 (by have h_:=c116;simp only[ByteArray.size_append] at h_;exact h_))
             try have c116b4:(x6_60.size+t595.size+t575.size+2≤9223372036854775807)=True:=eq_true (by have h_:=c116;simp only[ByteArray.size_append] at h_;exact h_)
             replace H:=ifn_ H
             obtain⟨c117,H⟩:=H
             have c117b0:=eq_true c117
             have c117b1:decide ((((x6_60++t595)++t575)++(⟨#[46,46]⟩:ByteArray)).size+t575.size≤9223372036854775807)=true:=decide_eq_true c117
             try (have c117b5:=c117b0;simp only[ByteArray.size_append,Int.natCast_add] at c117b5)
             try have c117b2:=eq_false (Nat.not_lt.2 c117)
             try have c117b3:(9223372036854775807<x6_60.size+t595.size+t575.size+2+t575.size)=False:=eq_false (Nat.not_lt.2 (by have h_:=c117;simp only[ByteArray.size_append] at h_;exact h_))
             try have c117b4:(x6_60.size+t595.size+t575.size+2+t575.size≤9223372036854775807)=True:=eq_true (by have h_:=c117;simp only[ByteArray.size_append] at h_;exact h_)
             replace H:=Option.bind_eq_some_iff.mp H
             obtain⟨t597,A1180,H⟩:=H
             replace H:(if ((((x6_60++t595)++t575)++(⟨#[46,46]⟩:ByteArray))++t575).size+t597.size≤9223372036854775807 then (florinlaw06_Relation_relation.l0 kj60 t575 (((((x6_60++t595)++t575)++(⟨#[46,46]⟩:ByteArray))++t575)++t597) x7_44 (x7_44.length:Int) (wrap64 (x64_4+1)) (bt (⟨#[110,105,118,119,102,116,99,101]⟩:ByteArray) (Go.bits .and .i64 a0_0 7)) (Go.bits .and .i64 a0_1 65535) a0_3 y592) else (none))=some (r1,r2,r3,r4,r5):=H
             have A118:=Aside0.mk A1180
             clear A1180
             replace H:=ifn_ H
             obtain⟨c119,H⟩:=H
             have c119b0:=eq_true c119
             have c119b1:decide (((((x6_60++t595)++t575)++(⟨#[46,46]⟩:ByteArray))++t575).size+t597.size≤9223372036854775807)=true:=decide_eq_true c119
             try (have c119b5:=c119b0;simp only[ByteArray.size_append,Int.natCast_add] at c119b5)
             try have c119b2:=eq_false (Nat.not_lt.2 c119)
             try have c119b3:(9223372036854775807<x6_60.size+t595.size+t575.size+2+t575.size+t597.size)=False:=eq_false (Nat.not_lt.2 (by have h_:=c119;simp only[ByteArray.size_append] at h_;exact h_))
             try have c119b4:(x6_60.size+t595.size+t575.size+2+t575.size+t597.size≤9223372036854775807)=True:=eq_true (by have h_:=c119;simp only[ByteArray.size_append] at h_;exact h_)
             have H':=Aside0.mk H
             clear H
             have hnb120:=NB591_572.out
             have hnc120:=NB572_591.out
             have hnb121:=NB591_573.out
             have hnc121:=NB573_591.out
             have hnb122:=NB591_574.out
             have hnc122:=NB574_591.out
             have hnb123:=NB591_590.out
             have hnc123:=NB590_591.out
             obtain⟨hcz124_0,hcz124_1,hfz124_0,hfz124_1⟩:=bo2_ BK591
             go_wp2_with (first|((with_reducible refine gate_callee (f:=32) rfl ?_);refine gl_ (some 97) Tryz.func32 #[.int .i64 (Go.bits .and .i64 ((rd_T85 x7_44 x64_4).f0) 1048575)] ?_;(with_reducible refine(florinlaw06_digits.calls _ _ _ _ A83.out).mono ?_);rintro e w125 ⟨rfl,hb⟩;refine⟨_,rfl,?_⟩;replace HO_62:=kb_ HO_62 hb;replace HO_575003:=kb_ HO_575003 hb;replace BK572:=bb_ BK572 hb;replace BK573:=bb_ BK573 hb;replace BK574:=bb_ BK574 hb;replace BK590:=bb_ BK590 hb;replace BK591:=bb_ BK591 hb;replace HB:=Aside0.mk (below_step (bl_ HB).out hb);(try clear hb);obtain⟨hcz126_0,hcz126_1,hfz126_0,hfz126_1⟩:=bo2_ BK591)|((with_reducible refine gate_callee (f:=32) rfl ?_);refine gl_ (some 118) Tryz.func32 #[.int .i64 (wrap64 ((Go.bits .and .i64 ((rd_T85 x7_44 x64_4).f0) 1048575)+(Go.bits .and .i64 ((rd_T85 x7_44 x64_4).f1) 3)))] ?_;(with_reducible refine(florinlaw06_digits.calls kj60 (wrap64 ((Go.bits .and .i64 ((rd_T85 x7_44 x64_4).f0) 1048575)+(Go.bits .and .i64 ((rd_T85 x7_44 x64_4).f1) 3))) t597 _ A118.out).mono ?_);rintro e w127 ⟨rfl,hb⟩;refine⟨_,rfl,?_⟩;replace HO_62:=kb_ HO_62 hb;replace HO_575003:=kb_ HO_575003 hb;replace BK572:=bb_ BK572 hb;replace BK573:=bb_ BK573 hb;replace BK574:=bb_ BK574 hb;replace BK590:=bb_ BK590 hb;replace BK591:=bb_ BK591 hb;replace HB:=Aside0.mk (below_step (bl_ HB).out hb);(try clear hb);(try clear hi)))
             go_roundg kj60
             case measure=>have:=HJ6.out;have:=HJ35.out;have:=HJ44.out;have:=HK4.out;have:=HJ60.out;omega
             case rel=>exact⟨(((((x6_60++t595)++t575)++(⟨#[46,46]⟩:ByteArray))++t575)++t597),(wrap64 (x64_4+1)),(y592),(.slice Ao77 y592.length co77),eq_,eq_,H',⟨by have:=HJ6.out;have:=HJ35.out;have:=HJ44.out;have:=HK4.out;have:=HJ60.out;omega⟩,⟨by (with_reducible repeat(first|apply Kd.R_alloc|apply Kd.R_drewN|apply Kd.R_drew));exact Kd.R_mono HO_62.out (fun _ hk=>trivial)⟩,⟨by (with_reducible repeat(first|apply Kd.R_alloc|apply Kd.R_drewN|apply Kd.R_drew));exact Kd.R_mono HO_575003.out (fun _ hk=>trivial)⟩,(bk_ BK572),(bk_ BK573),(bk_ BK574),(bl_ HB)⟩
         ·rw[if_neg c57] at H
          have c57b0:=decide_eq_false c57
          clear c57
          simp only[Option.some.injEq,Prod.mk.injEq] at H
          obtain⟨rfl,rfl,rfl,rfl,rfl⟩:=H
          have hnb128:=NB574_572.out
          have hnc128:=NB572_574.out
          have hnb129:=NB574_573.out
          have hnc129:=NB573_574.out
          obtain⟨hcz130_0,hcz130_1,hcz130_2,hcz130_3,hfz130_0,hfz130_1,hfz130_2,hfz130_3⟩:=bo4_ BK574
          have hnb131:=NB573_572.out
          have hnc131:=NB572_573.out
          obtain⟨hcz132_0,hcz132_1,hcz132_2,hcz132_3,hfz132_0,hfz132_1,hfz132_2,hfz132_3⟩:=bo4_ BK573
          obtain⟨Ao133,co133,eo133⟩:=Kd.R_slice HO_575003.out
          subst eo133
          go_wp2
          refine bodyPost_ret (results_ct rfl _ _ gb573 43 #[.int .u8 (bt (⟨#[110,105,118,119,102,116,99,101]⟩:ByteArray) (Go.bits .and .i64 a0_0 7)),.int .i64 (Go.bits .and .i64 a0_1 65535),.bool a0_3,.slice Ao133 x575003_4.length co133] (0,0) _ rfl (by (with_reducible repeat(first|refine blk_drewN ?_ _|refine blk_drew ?_|refine blk_alloc ?_ _));refine blk_put (cs:= #[.int .u8 (bt (⟨#[110,105,118,119,102,116,99,101]⟩:ByteArray) (Go.bits .and .i64 a0_0 7)),.int .i64 (Go.bits .and .i64 a0_1 65535),.bool a0_3,.slice none 0 0]) ?_ 3 _ rfl;(with_reducible repeat(first|refine blk_drewN ?_ _|refine blk_drew ?_|refine blk_alloc ?_ _));refine blk_put (cs:= #[.int .u8 (bt (⟨#[110,105,118,119,102,116,99,101]⟩:ByteArray) (Go.bits .and .i64 a0_0 7)),.int .i64 (Go.bits .and .i64 a0_1 65535),.bool false,.slice none 0 0]) ?_ 2 _ rfl;(with_reducible repeat(first|refine blk_drewN ?_ _|refine blk_drew ?_|refine blk_alloc ?_ _));refine blk_put (cs:= #[.int .u8 (bt (⟨#[110,105,118,119,102,116,99,101]⟩:ByteArray) (Go.bits .and .i64 a0_0 7)),.int .i64 0,.bool false,.slice none 0 0]) ?_ 1 _ rfl;(with_reducible repeat(first|refine blk_drewN ?_ _|refine blk_drew ?_|refine blk_alloc ?_ _));refine blk_put (cs:= #[.int .u8 0,.int .i64 0,.bool false,.slice none 0 0]) ?_ 0 _ rfl;(with_reducible repeat(first|refine blk_drewN ?_ _|refine blk_drew ?_|refine blk_alloc ?_ _));exact BK573.out) Tryz.underlying43 rfl (by kernel_rfl)) rfl ?_
          exact⟨_,by first|rfl|(simp[errW_none,errW_some] <;> rfl)|(simp[*,errW_none,errW_some] <;> first|rfl|exact given_isEmpty _|exact(given_isEmpty _).symm),by (with_reducible repeat(first|apply Kd.R_alloc|apply Kd.R_drewN|apply Kd.R_drew));exact Kd.R_mono (Kd.R_far (Kd.R_far (Kd.R_far (Kd.R_far (Kd.R_types HO_575003.out BK573.out (by decide)) (fun _ hk=>hk.2) _) (fun _ hk=>hk.2) _) (fun _ hk=>hk.2) _) (fun _ hk=>hk.2) _) (fun _ hk=>trivial),by repeat(first|(with_reducible first|exact HB.out|apply below_alloc|apply pw_below_drewN|apply below_drew1|refine below_set ?_ GE572.out|refine below_set ?_ GE573.out|refine below_set ?_ GE574.out)|exact HB.out)⟩

end Go.Proofs.YtcokjmnkieakiaaGreatDoor.P
