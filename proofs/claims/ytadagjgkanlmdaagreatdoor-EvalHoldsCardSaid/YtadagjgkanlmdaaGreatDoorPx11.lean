import Derived.Test.YtadagjgkanlmdaaGreatDoorPx0
import Derived.Test.YtadagjgkanlmdaaGreatDoorPx3
import Derived.Test.YtadagjgkanlmdaaGreatDoorPx10
namespace Go.Proofs.YtadagjgkanlmdaaGreatDoor.P
open Go.RowKit Go.Proofs.YtadagjgkanlmdaaGreatDoorW.PrintWords Go.Proofs.YtadagjgkanlmdaaGreatDoorW.PrintLast Go.Proofs.YtadagjgkanlmdaaGreatDoorW.PrintMore
attribute [local go_sem] max2_int min2_int max_two min_two max_three min_three max_four min_four
set_option maxHeartbeats 64000000
set_option maxRecDepth 100000
set_option linter.unusedVariables false
set_option linter.unusedSimpArgs false

mutual
def florinlaw06_Made_Write.j0:Nat→ByteArray→ByteArray→List (List (S46))→Int→Int→Int→List (List (S46))→Int→ByteArray→Option (Int × (List (List (S53))) × ByteArray × ByteArray)
 | 0,_,_,_,_,_,_,_,_,_=>none
 | k+1,x5,x6,x7,x663000,x663001,x663002,x663003,x666000,x666002=>if x666000=5 then ((some (([(⟨#[]⟩:ByteArray),(⟨#[64,105,110,116,101,103,101,114,32,49,44,32,50,49,126,50,52,44,32,226,128,166]⟩:ByteArray),(⟨#[64,100,101,99,105,109,97,108,32,48,46,48]⟩:ByteArray),(⟨#[64,32,119,104,97,116,32,101,118,101,114,32,64]⟩:ByteArray),(⟨#[]⟩:ByteArray)]:List ByteArray):List ByteArray)).bind fun y677=>(if 0≤(wrap64 (Int.tmod (IntKind.u64.wrap (x663002)) 5)) then (if (wrap64 (Int.tmod (IntKind.u64.wrap (x663002)) 5))<(y677.length:Int) then (if x6.size+1≤9223372036854775807 then (if (x6++(⟨#[32]⟩:ByteArray)).size+(rdOf ByteArray.empty y677 (wrap64 (Int.tmod (IntKind.u64.wrap (x663002)) 5))).size≤9223372036854775807 then (if ((x6++(⟨#[32]⟩:ByteArray))++(rdOf ByteArray.empty y677 (wrap64 (Int.tmod (IntKind.u64.wrap (x663002)) 5)))).size+x5.size≤9223372036854775807 then (some (x666000,([]:List (List (S53))),rdOf ByteArray.empty y677 (wrap64 (Int.tmod (IntKind.u64.wrap (x663002)) 5)),((x6++(⟨#[32]⟩:ByteArray))++(rdOf ByteArray.empty y677 (wrap64 (Int.tmod (IntKind.u64.wrap (x663002)) 5))))++x5)) else (none)) else (none)) else (none)) else (none)) else (none))) else (florinlaw06_Made_Write.l0 k x5 x6 x7 (x7.length:Int) 0 x663000 x663001 x663002 x663003 x666000 ([]:List (List (S53))) x666002)
def florinlaw06_Made_Write.l0:Nat→ByteArray→ByteArray→List (List (S46))→Int→Int→Int→Int→Int→List (List (S46))→Int→List (List (S53))→ByteArray→Option (Int × (List (List (S53))) × ByteArray × ByteArray)
 | 0,_,_,_,_,_,_,_,_,_,_,_,_=>none
 | k+1,x5,x6,x45,x46,x47,x663000,x663001,x663002,x663003,x666000,x666001,x666002=>if x47<x46 then (if 0≤x47 then (if x47<(x45.length:Int) then ((some (([]:List (S46)):List (S46))).bind fun y686=>(if y686.length+(rd_L14 x45 x47).length<2513169434916 then ((some (y686++(rd_L14 x45 x47):List (S46))).bind fun y689=>(if (y689.length:Int)=0 then (if y689.length<2513169434916 then (florinlaw06_Made_Write.j2 k x5 x6 x47 (y689++[(⟨0,0,0,false,([]:List (S139))⟩:S46)]) x45 x46 x47 x663000 x663001 x663002 x663003 x666000 x666001 x666002) else (none)) else (florinlaw06_Made_Write.j2 k x5 x6 x47 y689 x45 x46 x47 x663000 x663001 x663002 x663003 x666000 x666001 x666002))) else (none))) else (none)) else (none)) else ((some (([(⟨#[]⟩:ByteArray),(⟨#[64,105,110,116,101,103,101,114,32,49,44,32,50,49,126,50,52,44,32,226,128,166]⟩:ByteArray),(⟨#[64,100,101,99,105,109,97,108,32,48,46,48]⟩:ByteArray),(⟨#[64,32,119,104,97,116,32,101,118,101,114,32,64]⟩:ByteArray),(⟨#[]⟩:ByteArray)]:List ByteArray):List ByteArray)).bind fun y681=>(if 0≤(wrap64 (Int.tmod (IntKind.u64.wrap (x663002)) 5)) then (if (wrap64 (Int.tmod (IntKind.u64.wrap (x663002)) 5))<(y681.length:Int) then (if x6.size+1≤9223372036854775807 then (if (x6++(⟨#[32]⟩:ByteArray)).size+(rdOf ByteArray.empty y681 (wrap64 (Int.tmod (IntKind.u64.wrap (x663002)) 5))).size≤9223372036854775807 then (if ((x6++(⟨#[32]⟩:ByteArray))++(rdOf ByteArray.empty y681 (wrap64 (Int.tmod (IntKind.u64.wrap (x663002)) 5)))).size+x5.size≤9223372036854775807 then (some (x666000,x666001,rdOf ByteArray.empty y681 (wrap64 (Int.tmod (IntKind.u64.wrap (x663002)) 5)),((x6++(⟨#[32]⟩:ByteArray))++(rdOf ByteArray.empty y681 (wrap64 (Int.tmod (IntKind.u64.wrap (x663002)) 5))))++x5)) else (none)) else (none)) else (none)) else (none)) else (none)))
def florinlaw06_Made_Write.j2:Nat→ByteArray→ByteArray→Int→List (S46)→List (List (S46))→Int→Int→Int→Int→Int→List (List (S46))→Int→List (List (S53))→ByteArray→Option (Int × (List (List (S53))) × ByteArray × ByteArray)
 | 0,_,_,_,_,_,_,_,_,_,_,_,_,_,_=>none
 | k+1,x5,x6,x8,x10,x45,x46,x47,x663000,x663001,x663002,x663003,x666000,x666001,x666002=>if x8>0 then (if x6.size+3≤9223372036854775807 then (if (x6++(⟨#[32,111,114]⟩:ByteArray)).size+x5.size≤9223372036854775807 then (if ((x6++(⟨#[32,111,114]⟩:ByteArray))++x5).size+1≤9223372036854775807 then (florinlaw06_Made_Write.j3 k x5 (((x6++(⟨#[32,111,114]⟩:ByteArray))++x5)++(⟨#[32]⟩:ByteArray)) x10 x45 x46 x47 x663000 x663001 x663002 x663003 x666000 x666001 x666002) else (none)) else (none)) else (none)) else (florinlaw06_Made_Write.j3 k x5 x6 x10 x45 x46 x47 x663000 x663001 x663002 x663003 x666000 x666001 x666002)
def florinlaw06_Made_Write.j3:Nat→ByteArray→ByteArray→List (S46)→List (List (S46))→Int→Int→Int→Int→Int→List (List (S46))→Int→List (List (S53))→ByteArray→Option (Int × (List (List (S53))) × ByteArray × ByteArray)
 | 0,_,_,_,_,_,_,_,_,_,_,_,_,_=>none
 | k+1,x5,x6,x10,x45,x46,x47,x663000,x663001,x663002,x663003,x666000,x666001,x666002=>florinlaw06_Made_Write.l1 k x5 x6 (([]:List (S53))) x45 x46 x47 x10 (x10.length:Int) 0 x663000 x663001 x663002 x663003 x666000 x666001 x666002
def florinlaw06_Made_Write.l1:Nat→ByteArray→ByteArray→List (S53)→List (List (S46))→Int→Int→List (S46)→Int→Int→Int→Int→Int→List (List (S46))→Int→List (List (S53))→ByteArray→Option (Int × (List (List (S53))) × ByteArray × ByteArray)
 | 0,_,_,_,_,_,_,_,_,_,_,_,_,_,_,_,_=>none
 | k+1,x5,x6,x11,x45,x46,x47,x70,x71,x72,x663000,x663001,x663002,x663003,x666000,x666001,x666002=>if x72<x71 then (if 0≤x72 then (if x72<(x70.length:Int) then ((florinlaw06_Relation_relation.f k ((rd_T46 x70 x72).f0) ((rd_T46 x70 x72).f1) ((rd_T46 x70 x72).f2) ((rd_T46 x70 x72).f3) ((rd_T46 x70 x72).f4)).bind fun bt700=>(if x11.length<2932031007402 then ((some (x11++[(⟨bt700.1,bt700.2.1,bt700.2.2.1,bt700.2.2.2.1⟩:S53)]:List (S53))).bind fun y708=>(if x72>0 then (if x6.size+4≤9223372036854775807 then (if (x6++(⟨#[32,97,110,100]⟩:ByteArray)).size+1≤9223372036854775807 then (if ((x6++(⟨#[32,97,110,100]⟩:ByteArray))++(⟨#[32]⟩:ByteArray)).size+bt700.2.2.2.2.size≤9223372036854775807 then (florinlaw06_Made_Write.l1 k x5 (((x6++(⟨#[32,97,110,100]⟩:ByteArray))++(⟨#[32]⟩:ByteArray))++bt700.2.2.2.2) y708 x45 x46 x47 x70 x71 (wrap64 (x72+1)) x663000 x663001 x663002 x663003 x666000 x666001 x666002) else (none)) else (none)) else (none)) else (if x6.size+bt700.2.2.2.2.size≤9223372036854775807 then (florinlaw06_Made_Write.l1 k x5 (x6++bt700.2.2.2.2) y708 x45 x46 x47 x70 x71 (wrap64 (x72+1)) x663000 x663001 x663002 x663003 x666000 x666001 x666002) else (none)))) else (none))) else (none)) else (none)) else (if x666001.length<5864062014805 then (florinlaw06_Made_Write.l0 k x5 x6 x45 x46 (wrap64 (x47+1)) x663000 x663001 x663002 x663003 x666000 (x666001++[x11]) x666002) else (none))
end
def florinlaw06_Made_Write.f (k:Nat) (a0_0:Int) (a0_1:Int) (a0_2:Int) (l0_3:List (List (S46))):Option (Int × (List (List (S53))) × ByteArray × ByteArray):=(florinlaw06_Made_cat.f a0_0 a0_1 a0_2 l0_3).bind fun t664=>((florinlaw06_gap.f a0_1).bind fun t666=>((rule_Cat_String.f t664).bind fun t667=>(if t666.size+t667.size≤9223372036854775807 then (if (t666++t667).size+t666.size≤9223372036854775807 then (if ((t666++t667)++t666).size+1≤9223372036854775807 then (if (((t666++t667)++t666)++(⟨#[58]⟩:ByteArray)).size+t666.size≤9223372036854775807 then ((some (([]:List (List (S46))):List (List (S46)))).bind fun y668=>(if y668.length+l0_3.length<5864062014805 then ((some (y668++l0_3:List (List (S46)))).bind fun y671=>(if (y671.length:Int)=0 then (if y671.length<5864062014805 then (florinlaw06_Made_Write.j0 k t666 ((((t666++t667)++t666)++(⟨#[58]⟩:ByteArray))++t666) (y671++[[]]) a0_0 a0_1 a0_2 l0_3 t664 (⟨#[]⟩:ByteArray)) else (none)) else (florinlaw06_Made_Write.j0 k t666 ((((t666++t667)++t666)++(⟨#[58]⟩:ByteArray))++t666) y671 a0_0 a0_1 a0_2 l0_3 t664 (⟨#[]⟩:ByteArray)))) else (none))) else (none)) else (none)) else (none)) else (none))))
def florinlaw06_Made_Write.T29:Bool × List (List Nat × List Nat):=(true,[([],[]),([],[]),([1],[1]),([],[]),([3],[3]),([2,4],[2,4]),([],[]),([5,6],[5,6]),([0,0],[0]),([7,8,0,1,2,3,4,5,6,7,8],[7])])
def florinlaw06_Made_Write.B29:List Nat:=[0,0,2,0,8,30,0,126,1,511]
theorem florinlaw06_Made_Write.tab29:rtab .any (opsOf Tryz.f28 29)=florinlaw06_Made_Write.T29:=by kernel_rfl
theorem florinlaw06_Made_Write.bits29:waitsOk florinlaw06_Made_Write.T29.2 florinlaw06_Made_Write.B29=true:=by kernel_rfl
theorem florinlaw06_Made_Write.calls (k:Nat) (a0_0:Int) (a0_1:Int) (a0_2:Int) (P0_3_:Nat→Prop) (A0_3:Option Addr) (c0_3:Nat) (l0_3:List (List (S46))) (r1:Int) (r2:List (List (S53))) (r3:ByteArray) (r4:ByteArray) (w:World) (hs0_3:Kd.V (Kd.slice 46 k46) 47 w w.heap.size (fun k_=>P0_3_ k_) (.slice A0_3 l0_3.length c0_3) l0_3) (h:florinlaw06_Made_Write.f k a0_0 a0_1 a0_2 l0_3=some (r1,r2,r3,r4)) :
  Calls Tryz.prog 28 #[.agg #[.int .i64 a0_0,.int .i64 a0_1,.int .i64 a0_2,.slice A0_3 l0_3.length c0_3]] w fun e w'=>∃v1_:Value,e= .returned (.tuple #[.agg #[.int .i64 r1,v1_,.string r3],.string r4])∧Kd.N (Kd.slice 53 k53) 54 w' w.heap.size (fun k_=>(P0_3_ k_∨w.heap.size≤k_)) v1_ r2∧Below w.heap.size w w':=by
 have hu50:=Tryz.underlying50
 have hu41:=Tryz.underlying41
 have hu46:=Tryz.underlying46
 have hu53:=Tryz.underlying53
 have HO0_3:=am_ (show Kd.V (Kd.slice 46 k46) 47 w w.heap.size (fun k_=>(P0_3_ k_∨w.heap.size≤k_)) (.slice A0_3 l0_3.length c0_3) l0_3 from Kd.V_mono hs0_3 (fun k_ hk=> .inl hk))
 have HB:=am_ (Below.refl w.heap.size w)
 have H:=h
 clear h
 unfold florinlaw06_Made_Write.f at H
 replace H:=Option.bind_eq_some_iff.mp H
 obtain⟨t664,A20,H⟩:=H
 have A2:=am_ A20
 clear A20
 replace H:=Option.bind_eq_some_iff.mp H
 obtain⟨t666,A30,H⟩:=H
 have A3:=am_ A30
 clear A30
 replace H:=Option.bind_eq_some_iff.mp H
 obtain⟨t667,A40,H⟩:=H
 have A4:=am_ A40
 clear A40
 replace H:=ifn_ H
 obtain⟨c5,H⟩:=H
 have c5b0:=eq_true c5
 have c5b1:decide (t666.size+t667.size≤9223372036854775807)=true:=decide_eq_true c5
 try have c5b2:=eq_false (Nat.not_lt.2 c5)
 replace H:=ifn_ H
 obtain⟨c6,H⟩:=H
 have c6b0:=eq_true c6
 have c6b1:decide ((t666++t667).size+t666.size≤9223372036854775807)=true:=decide_eq_true c6
 try (have c6b5:=c6b0;simp only[ByteArray.size_append,Int.natCast_add] at c6b5)
 try have c6b2:=eq_false (Nat.not_lt.2 c6)
 try have c6b3:(9223372036854775807<t666.size+t667.size+t666.size)=False:=eq_false (Nat.not_lt.2 (by have h_:=c6;simp only[ByteArray.size_append] at h_;exact h_))
 try have c6b4:(t666.size+t667.size+t666.size≤9223372036854775807)=True:=eq_true (by have h_:=c6;simp only[ByteArray.size_append] at h_;exact h_)
 replace H:=ifn_ H
 obtain⟨c7,H⟩:=H
 have c7b0:=eq_true c7
 have c7b1:decide (((t666++t667)++t666).size+1≤9223372036854775807)=true:=decide_eq_true c7
 try (have c7b5:=c7b0;simp only[ByteArray.size_append,Int.natCast_add] at c7b5)
 try have c7b2:=eq_false (Nat.not_lt.2 c7)
 try have c7b3:(9223372036854775807<t666.size+t667.size+t666.size+1)=False:=eq_false (Nat.not_lt.2 (by have h_:=c7;simp only[ByteArray.size_append] at h_;exact h_))
 try have c7b4:(t666.size+t667.size+t666.size+1≤9223372036854775807)=True:=eq_true (by have h_:=c7;simp only[ByteArray.size_append] at h_;exact h_)
 replace H:=ifn_ H
 obtain⟨c8,H⟩:=H
 have c8b0:=eq_true c8
 have c8b1:decide ((((t666++t667)++t666)++(⟨#[58]⟩:ByteArray)).size+t666.size≤9223372036854775807)=true:=decide_eq_true c8
 try (have c8b5:=c8b0;simp only[ByteArray.size_append,Int.natCast_add] at c8b5)
 try have c8b2:=eq_false (Nat.not_lt.2 c8)
 try have c8b3:(9223372036854775807<t666.size+t667.size+t666.size+1+t666.size)=False:=eq_false (Nat.not_lt.2 (by have h_:=c8;simp only[ByteArray.size_append] at h_;exact h_))
 try have c8b4:(t666.size+t667.size+t666.size+1+t666.size≤9223372036854775807)=True:=eq_true (by have h_:=c8;simp only[ByteArray.size_append] at h_;exact h_)
 obtain⟨y668,hy668⟩:∃y_:List (List (S46)),y_=(([]:List (List (S46)))):=⟨_,rfl⟩
 replace H:(if y668.length+l0_3.length<5864062014805 then ((some (y668++l0_3:List (List (S46)))).bind fun y671=>(if (y671.length:Int)=0 then (if y671.length<5864062014805 then (florinlaw06_Made_Write.j0 k t666 ((((t666++t667)++t666)++(⟨#[58]⟩:ByteArray))++t666) (y671++[[]]) a0_0 a0_1 a0_2 l0_3 t664 (⟨#[]⟩:ByteArray)) else (none)) else (florinlaw06_Made_Write.j0 k t666 ((((t666++t667)++t666)++(⟨#[58]⟩:ByteArray))++t666) y671 a0_0 a0_1 a0_2 l0_3 t664 (⟨#[]⟩:ByteArray)))) else (none))=some (r1,r2,r3,r4):=by first|(rw[hy668];with_reducible exact H)|(have H2_:=(Option.bind_some _ _).symm.trans H;rw[hy668];with_reducible exact H2_)|(have H2_:=(Option.bind_some _ _).symm.trans H;with_reducible exact H2_)|with_reducible exact H|(rw[hy668];exact H)|exact H
 have Ny668:=am_ hy668
 clear hy668
 replace H:=ifn_ H
 obtain⟨c9,H⟩:=H
 have LMc9:=am_ c9
 clear c9
 obtain⟨y671,hy671⟩:∃y_:List (List (S46)),y_=(y668++l0_3):=⟨_,rfl⟩
 replace H:(if (y671.length:Int)=0 then (if y671.length<5864062014805 then (florinlaw06_Made_Write.j0 k t666 ((((t666++t667)++t666)++(⟨#[58]⟩:ByteArray))++t666) (y671++[[]]) a0_0 a0_1 a0_2 l0_3 t664 (⟨#[]⟩:ByteArray)) else (none)) else (florinlaw06_Made_Write.j0 k t666 ((((t666++t667)++t666)++(⟨#[58]⟩:ByteArray))++t666) y671 a0_0 a0_1 a0_2 l0_3 t664 (⟨#[]⟩:ByteArray)))=some (r1,r2,r3,r4):=by first|(rw[hy671];with_reducible exact H)|(have H2_:=(Option.bind_some _ _).symm.trans H;rw[hy671];with_reducible exact H2_)|(have H2_:=(Option.bind_some _ _).symm.trans H;with_reducible exact H2_)|with_reducible exact H|(rw[hy671];exact H)|exact H
 have Ny671:=am_ hy671
 clear hy671
 have HC10:=am_ H
 clear H
 go_enter Tryz.func28,Tryz.ntmps28
 go_upto_if 38 with (first|((with_reducible refine gate_dst (N:=1) rfl ?_);refine be_ 1 #[.int .i64 a0_0,.int .i64 a0_1,.int .i64 a0_2,.slice A0_3 l0_3.length c0_3] 50 ?_;intro gb662 hg w11 hbox hb;have BK662:=am_ (hbox);have GW662:=sz_ HB hg;have GE662:=sz_ HB hg;replace HO0_3:=am_ (Kd.V_below (Kd.V_elderB (krV_ HO0_3) gb662 (Nat.le_of_eq hg.symm)) hb);replace HB:=am_ (below_step (bl_ HB).out hb);clear hb hbox hg)|((with_reducible refine gate_dst (N:=2) rfl ?_);refine be_ 2 #[.int .i64 0,.slice none 0 0,.string (⟨#[]⟩:ByteArray)] 41 ?_;intro gb663 hg w12 hbox hb;have BK663:=am_ (hbox);have GW663:=sz_ HB hg;have GE663:=sz_ HB hg;have NB662_663:=na_ BK662 hg;have NB663_662:=nb_ BK662 hg;replace HO0_3:=am_ (Kd.V_below (Kd.V_elderB (krV_ HO0_3) gb663 (Nat.le_of_eq hg.symm)) hb);replace BK662:=bb_ BK662 hb;replace HB:=am_ (below_step (bl_ HB).out hb);clear hb hbox hg;have hnb13:=NB662_663.out;have hnc13:=NB663_662.out;obtain⟨hcz14_0,hcz14_1,hcz14_2,hcz14_3,hfz14_0,hfz14_1,hfz14_2,hfz14_3⟩:=bo4_ BK662)|((with_reducible refine gate_callee (f:=27) rfl ?_);refine gl_ (some 17) Tryz.func27 #[.agg #[.int .i64 a0_0,.int .i64 a0_1,.int .i64 a0_2,.slice A0_3 l0_3.length c0_3]] ?_;(with_reducible refine(florinlaw06_Made_cat.calls _ _ _ _ _ _ _ _ ?side1 ?side2 A2.out).mono ?_);(case side1=>repeat(first|exact(Kd.V_reads' HO0_3.out).2.2|(with_reducible refine Kd.C_alloc ?_ _)|(with_reducible refine Kd.C_drewN ?_ _)|(with_reducible refine Kd.C_drew ?_)));(case side2=>exact(Kd.V_reads' HO0_3.out).2.1);rintro e w15 ⟨rfl,hb⟩;refine⟨_,rfl,?_⟩;replace HO0_3:=am_ (Kd.V_below (krV_ HO0_3) hb);replace BK662:=bb_ BK662 hb;replace BK663:=bb_ BK663 hb;replace HB:=am_ (below_step (bl_ HB).out hb);(try clear hb);(try clear hi))|((with_reducible refine gate_dst (N:=4) rfl ?_);refine be_ 4 #[.int .i64 0,.slice none 0 0,.string (⟨#[]⟩:ByteArray)] 41 ?_;intro gb665 hg w16 hbox hb;have BK665:=am_ (hbox);have GW665:=sz_ HB hg;have GE665:=sz_ HB hg;have NB662_665:=na_ BK662 hg;have NB665_662:=nb_ BK662 hg;have NB663_665:=na_ BK663 hg;have NB665_663:=nb_ BK663 hg;replace HO0_3:=am_ (Kd.V_below (Kd.V_elderB (krV_ HO0_3) gb665 (Nat.le_of_eq hg.symm)) hb);replace BK662:=bb_ BK662 hb;replace BK663:=bb_ BK663 hb;replace HB:=am_ (below_step (bl_ HB).out hb);clear hb hbox hg;have hnb17:=NB665_662.out;have hnc17:=NB662_665.out;have hnb18:=NB665_663.out;have hnc18:=NB663_665.out;obtain⟨hcz19_0,hcz19_1,hcz19_2,hfz19_0,hfz19_1,hfz19_2⟩:=bo3_ BK665;obtain⟨hcz20_0,hcz20_1,hcz20_2,hcz20_3,hfz20_0,hfz20_1,hfz20_2,hfz20_3⟩:=bo4_ BK662)|((with_reducible refine gate_callee (f:=29) rfl ?_);refine gl_ (some 21) Tryz.func29 #[.int .i64 a0_1] ?_;(with_reducible refine(florinlaw06_gap.calls _ _ _ A3.out).mono ?_);rintro e w21 ⟨rfl,hb⟩;refine⟨_,rfl,?_⟩;have n0_:=am_ (Kd.V_below (kfV_ gb665 HO0_3) hb);have n1_:=bz_ BK662 hb;have n2_:=bz_ BK663 hb;have n3_:=am_ (blk_below (g:=gb665) (o:= .cells #[.int .i64 t664,.slice none 0 0,.string (⟨#[]⟩:ByteArray)] 41 (0,0)) ((bp_ BK665).out) hb);have n4_:=am_ (below_step (bl_ HB).out hb);clear HO0_3;clear BK662;clear BK663;clear BK665;clear HB;revert n0_ n1_ n2_ n3_ n4_;intro HO0_3 BK662 BK663 BK665 HB;(try clear hb);obtain⟨hcz22_0,hcz22_1,hcz22_2,hfz22_0,hfz22_1,hfz22_2⟩:=bo3_ BK665)|((with_reducible refine gate_callee (f:=49) rfl ?_);refine gl_ (some 25) Tryz.func49 #[.int .i64 t664] ?_;(with_reducible refine(rule_Cat_String.calls _ _ _ A4.out).mono ?_);rintro e w23 ⟨rfl,hb⟩;refine⟨_,rfl,?_⟩;replace HO0_3:=am_ (Kd.V_below (krV_ HO0_3) hb);replace BK662:=bb_ BK662 hb;replace BK663:=bb_ BK663 hb;replace BK665:=bb_ BK665 hb;replace HB:=am_ (below_step (bl_ HB).out hb);(try clear hb);(try clear hi))|((with_reducible refine gate_dst (N:=32) rfl ?_);refine Kd.N_lit (Kd.slice 46 k46) _ 47 ?hg (N':=32) ?hd (xs:=([]:List (List (S46)))) (inner:=[]) (ok:=(fun k_=>(P0_3_ k_∨w.heap.size≤k_)∧k_≠gb662∧k_≠gb663∧k_≠gb665)) (okp:=(fun k_=>(P0_3_ k_∨w.heap.size≤k_)∧k_≠gb662∧k_≠gb663∧k_≠gb665)) ?hr ?hp (fun _ hk=>hk) ((show ∀k_,w23.heap.size≤k_→(fun k_=>(P0_3_ k_∨w.heap.size≤k_)∧k_≠gb662∧k_≠gb663∧k_≠gb665) k_ from fun k_ hk=>⟨(.inr (Nat.le_trans (below_size (bl_ HB).out) hk)),Kd.freshB (bk_ BK662).out k_ hk,Kd.freshB (bk_ BK663).out k_ hk,Kd.freshB (bk_ BK665).out k_ hk⟩) _ (Nat.le_refl _)) (Below.refl _ _) (Nat.le_refl _) (by simp) ?_;(case hd=>rfl);(case hg=>rfl);(case hr=>first|(go_simp;done)|(go_simp;rfl));(case hp=>exact(Reps.none _ _));intro v669 w24 ho25 hb hg_ hnew_;clear hg_ hnew_;(first|rw[← Ny668.out] at ho25|(simp only[Int.reduceToNat] at ho25;rw[← Ny668.out] at ho25));have HO670:=am_ (Kd.N_lower ho25 (below_size (bl_ HB).out));replace HO0_3:=am_ (Kd.V_elder' (krV_ HO0_3) (Kd.N_base ho25) hb);replace BK662:=bb_ BK662 hb;replace BK663:=bb_ BK663 hb;replace BK665:=bb_ BK665 hb;replace HB:=am_ (below_step (bl_ HB).out hb);clear hb ho25;obtain⟨hcz26_0,hcz26_1,hcz26_2,hcz26_3,hfz26_0,hfz26_1,hfz26_2,hfz26_3⟩:=bo4_ BK662)|((with_reducible refine gate_builtin (b:= .append) (xs:= #[.tmp 32,.tmp 34]) rfl ?_);at_builtin;refine Kd.N_append_rows (Kd.slice 46 k46) (w0:=w) w.heap.size rfl (.tmp 32) (.tmp 34) 48 47 (.slice none 0 0) 24 rfl Tryz.underlying48 info47 rfl (by decide) (by omega) v669 y668 l0_3 _ _ _ (fun k_=>(P0_3_ k_∨w.heap.size≤k_)∧k_≠gb662∧k_≠gb663∧k_≠gb665) (fun k_=>((fun k_=>(P0_3_ k_∨w.heap.size≤k_)∧k_≠gb662∧k_≠gb663∧k_≠gb665)) k_∧some k_≠(v669:Value).ownBlock) rfl rfl ?aO ?aR (fun _ hk=>hk) ?aF ?aB ?aS ?aL ?_;(case aR=>exact(by skip;exact Kd.V_F (Kd.V_mono (ok':=(fun k_=>((fun k_=>(P0_3_ k_∨w.heap.size≤k_)∧k_≠gb662∧k_≠gb663∧k_≠gb665)) k_∧some k_≠(v669:Value).ownBlock)) (HO0_3.out) (fun k_ hk=>⟨⟨hk.1.1.1.1,⟨hk.1.1.1.2,⟨hk.1.1.2,hk.1.2⟩⟩⟩,hk.2⟩))));(case aB=>exact(bl_ HB).out);(case aF=>exact(fun k_ hk=>⟨(.inr (Nat.le_trans (below_size (bl_ HB).out) hk)),Kd.freshB (bk_ BK662).out k_ hk,Kd.freshB (bk_ BK663).out k_ hk,Kd.freshB (bk_ BK665).out k_ hk⟩));(case aO=>exact(krN_ HO670));(case aS=>exact(below_size (bl_ HB).out));(case aL=>have:=LMc9.out;omega);intro v672 w27 ho hb hg hat;rw[← Ny671.out] at ho;have n0_:=am_ (Kd.V_afterv (ok:=(fun k_=>(P0_3_ k_∨w.heap.size≤k_)∧k_≠gb662∧k_≠gb663∧k_≠gb665)) (kdV_ (Kd.V_mono HO0_3.out (fun _ hk=>⟨⟨hk.1.1.1.1,⟨hk.1.1.1.2,⟨hk.1.1.2,hk.1.2⟩⟩⟩,hk.2⟩))) hg hat);have n1_:=am_ (blk_grown (bk_ BK662).out hg (Kd.N_ne HO670.out BK662.out (by decide)));have n2_:=am_ (blk_grown (bk_ BK663).out hg (Kd.N_ne HO670.out BK663.out (by decide)));have n3_:=am_ (blk_grown (bk_ BK665).out hg (Kd.N_ne HO670.out BK665.out (by decide)));have n4_:=am_ (hb);have n5_:=am_ (ho);clear HO0_3;clear BK662;clear BK663;clear BK665;clear HB;clear HO670;revert n0_ n1_ n2_ n3_ n4_ n5_;intro HO0_3 BK662 BK663 BK665 HB HO673;clear ho hb hg hat;obtain⟨Ao28,co28,eo28⟩:=Kd.N_slice HO673.out;subst eo28))
 (try simp only[Act.put,List.setIfInBounds_toArray,List.set_cons_zero,List.set_cons_succ])
 go_cut [7] (fun v7 wc=>∃(kq:Nat) (x7_9:List (List (S46))),Aside0 (florinlaw06_Made_Write.j0 kq t666 ((((t666++t667)++t666)++(⟨#[58]⟩:ByteArray))++t666) x7_9 a0_0 a0_1 a0_2 l0_3 t664 (⟨#[]⟩:ByteArray)=some (r1,r2,r3,r4))∧Aside0 (kq≤k)∧Aside0 (Kd.N (Kd.slice 46 k46) 47 wc w.heap.size (fun k_=>(P0_3_ k_∨w.heap.size≤k_)∧k_≠gb662∧k_≠gb663∧k_≠gb665) v7 x7_9)∧Aside0 (Kd.V (Kd.slice 46 k46) 47 wc w.heap.size (fun k_=>(P0_3_ k_∨w.heap.size≤k_)∧some k_≠(v7:Value).ownBlock∧k_≠gb662∧k_≠gb663∧k_≠gb665) (.slice A0_3 l0_3.length c0_3) l0_3)∧Aside0 (wc.heap[gb662]? = some (.cells #[.int .i64 a0_0,.int .i64 a0_1,.int .i64 a0_2,(.slice A0_3 l0_3.length c0_3)] 50 (0,0)))∧Aside0 (wc.heap[gb663]? = some (.cells #[.int .i64 0,(.slice none 0 0),.string (⟨#[]⟩:ByteArray)] 41 (0,0)))∧Aside0 (wc.heap[gb665]? = some (.cells #[.int .i64 t664,(.slice none 0 0),.string (⟨#[]⟩:ByteArray)] 41 (0,0)))∧Aside0 (Below w.heap.size w wc))
 case first =>
  have H:=HC10.out
  clear HC10
  by_cases c29:(y671.length:Int)=0
  ·rw[if_pos c29] at H
   have c29b0:((y671.length:Int)==0)=true:=beq_iff_eq.mpr c29
   have c29b1:((y671.length:Int) !=0)=false:=bne_eq_false_iff_eq.mpr c29
   clear c29
   (first|rw[c29b0]|(simp only[i64_w,i32_w];rw[c29b0])|skip)
   replace H:=ifn_ H
   obtain⟨c30,H⟩:=H
   have LMc30:=am_ c30
   clear c30
   obtain⟨y674,hy674⟩:∃y_:List (List (S46)),y_=(y671++[[]]):=⟨_,rfl⟩
   replace H:(florinlaw06_Made_Write.j0 k t666 ((((t666++t667)++t666)++(⟨#[58]⟩:ByteArray))++t666) y674 a0_0 a0_1 a0_2 l0_3 t664 (⟨#[]⟩:ByteArray))=some (r1,r2,r3,r4):=by first|(rw[hy674];with_reducible exact H)|(have H2_:=(Option.bind_some _ _).symm.trans H;rw[hy674];with_reducible exact H2_)|(have H2_:=(Option.bind_some _ _).symm.trans H;with_reducible exact H2_)|with_reducible exact H|(rw[hy674];exact H)|exact H
   have Ny674:=am_ hy674
   clear hy674
   have H':=am_ H
   clear H
   go_wp2_with (first|((with_reducible refine gate_builtin (b:= .append) (xs:= #[.tmp 39,.tmp 40]) rfl ?_);at_builtin;refine Kd.N_append (Kd.slice 46 k46) (w0:=w) w.heap.size rfl (.tmp 39) (.tmp 40) 48 47 (.slice none 0 0) 24 rfl Tryz.underlying48 info47 rfl (by decide) (by omega) (.slice Ao28 y671.length co28) y671 ([]:List (S46)) [.slice none 0 0] (fun k_=>(P0_3_ k_∨w.heap.size≤k_)∧k_≠gb662∧k_≠gb663∧k_≠gb665) (fun k_=>((fun k_=>(P0_3_ k_∨w.heap.size≤k_)∧k_≠gb662∧k_≠gb663∧k_≠gb665)) k_∧some k_≠(.slice Ao28 y671.length co28:Value).ownBlock) rfl rfl ?aP (fun _ hk=>hk) ?aF ?aO ?aB ?aS ?aL ?_;(case aP=>exact(Kd.FK_slice_mk (Nat.le_refl _) (Kd.F_nil _ _ _)));(case aB=>exact(bl_ HB).out);(case aF=>exact(fun k_ hk=>⟨(.inr (Nat.le_trans (below_size (bl_ HB).out) hk)),Kd.freshB (bk_ BK662).out k_ hk,Kd.freshB (bk_ BK663).out k_ hk,Kd.freshB (bk_ BK665).out k_ hk⟩));(case aO=>exact(krN_ HO673));(case aS=>exact(below_size (bl_ HB).out));(case aL=>have:=LMc30.out;omega);intro v675 w31 ho hb hg hat;rw[← Ny674.out] at ho;have n0_:=am_ (Kd.V_afterv (ok:=(fun k_=>(P0_3_ k_∨w.heap.size≤k_)∧k_≠gb662∧k_≠gb663∧k_≠gb665)) (krV_ HO0_3) hg hat);have n1_:=am_ (blk_grown (bk_ BK662).out hg (Kd.N_ne HO673.out BK662.out (by decide)));have n2_:=am_ (blk_grown (bk_ BK663).out hg (Kd.N_ne HO673.out BK663.out (by decide)));have n3_:=am_ (blk_grown (bk_ BK665).out hg (Kd.N_ne HO673.out BK665.out (by decide)));have n4_:=am_ (hb);have n5_:=am_ (ho);clear HO0_3;clear BK662;clear BK663;clear BK665;clear HB;clear HO673;revert n0_ n1_ n2_ n3_ n4_ n5_;intro HO0_3 BK662 BK663 BK665 HB HO676;clear ho hb hg hat))
   go_meet
   case rel=>exact⟨_,(y674),H',⟨by first|omega|exact Nat.le_refl _⟩,⟨kdN_ HO676.out⟩,⟨kdV_ (Kd.V_mono HO0_3.out (fun _ hk=>⟨hk.1.1,⟨hk.2,⟨hk.1.2.1,⟨hk.1.2.2.1,hk.1.2.2.2⟩⟩⟩⟩))⟩,(bk_ BK662),(bk_ BK663),(bk_ BK665),(bl_ HB)⟩
  rw[if_neg c29] at H
  have c29b0:((y671.length:Int)==0)=false:=beq_eq_false_iff_ne.mpr c29
  have c29b1:((y671.length:Int) !=0)=true:=bne_iff_ne.mpr c29
  have c29b2:¬(y671=[]):=fun h_=>c29 (by rw[h_];rfl)
  (first|rw[c29b0]|(simp only[i64_w,i32_w];rw[c29b0])|skip)
  have H':=am_ H
  clear H
  go_wp2
  go_meet
  case rel=>exact⟨_,(y671),H',⟨by first|omega|exact Nat.le_refl _⟩,⟨kdN_ HO673.out⟩,⟨kdV_ (Kd.V_mono HO0_3.out (fun _ hk=>⟨hk.1.1,⟨hk.2,⟨hk.1.2.1,⟨hk.1.2.2.1,hk.1.2.2.2⟩⟩⟩⟩))⟩,(bk_ BK662),(bk_ BK663),(bk_ BK665),(bl_ HB)⟩
 clear HC10
 obtain⟨kq,x7_9,HA,HJ9,HO_7,HO_663003,BK662,BK663,BK665,HB⟩:=hcut
 cases kq with
 | zero=>exact absurd HA.out (by simp[florinlaw06_Made_Write.j0])
 | succ kj9=>?_
 have H:=HA.out
 clear HA
 simp only[florinlaw06_Made_Write.j0] at H
 by_cases c32:t664=5
 ·rw[if_pos c32] at H
  have c32b0:(t664==5)=true:=beq_iff_eq.mpr c32
  have c32b1:(t664 !=5)=false:=bne_eq_false_iff_eq.mpr c32
  clear c32
  obtain⟨y677,hy677⟩:∃y_:List ByteArray,y_=(([(⟨#[]⟩:ByteArray),(⟨#[64,105,110,116,101,103,101,114,32,49,44,32,50,49,126,50,52,44,32,226,128,166]⟩:ByteArray),(⟨#[64,100,101,99,105,109,97,108,32,48,46,48]⟩:ByteArray),(⟨#[64,32,119,104,97,116,32,101,118,101,114,32,64]⟩:ByteArray),(⟨#[]⟩:ByteArray)]:List ByteArray)):=⟨_,rfl⟩
  replace H:(if 0≤(wrap64 (Int.tmod (IntKind.u64.wrap (a0_2)) 5)) then (if (wrap64 (Int.tmod (IntKind.u64.wrap (a0_2)) 5))<(y677.length:Int) then (if ((((t666++t667)++t666)++(⟨#[58]⟩:ByteArray))++t666).size+1≤9223372036854775807 then (if (((((t666++t667)++t666)++(⟨#[58]⟩:ByteArray))++t666)++(⟨#[32]⟩:ByteArray)).size+(rdOf ByteArray.empty y677 (wrap64 (Int.tmod (IntKind.u64.wrap (a0_2)) 5))).size≤9223372036854775807 then (if ((((((t666++t667)++t666)++(⟨#[58]⟩:ByteArray))++t666)++(⟨#[32]⟩:ByteArray))++(rdOf ByteArray.empty y677 (wrap64 (Int.tmod (IntKind.u64.wrap (a0_2)) 5)))).size+t666.size≤9223372036854775807 then (some (t664,([]:List (List (S53))),rdOf ByteArray.empty y677 (wrap64 (Int.tmod (IntKind.u64.wrap (a0_2)) 5)),((((((t666++t667)++t666)++(⟨#[58]⟩:ByteArray))++t666)++(⟨#[32]⟩:ByteArray))++(rdOf ByteArray.empty y677 (wrap64 (Int.tmod (IntKind.u64.wrap (a0_2)) 5))))++t666)) else (none)) else (none)) else (none)) else (none)) else (none))=some (r1,r2,r3,r4):=by first|(rw[hy677];with_reducible exact H)|(have H2_:=(Option.bind_some _ _).symm.trans H;rw[hy677];with_reducible exact H2_)|(have H2_:=(Option.bind_some _ _).symm.trans H;with_reducible exact H2_)|with_reducible exact H|(rw[hy677];exact H)|exact H
  have Ny677:=am_ hy677
  clear hy677
  obtain⟨ji33,hji33⟩:∃j_:Int,(wrap64 (Int.tmod (IntKind.u64.wrap (a0_2)) 5))=j_:=⟨_,rfl⟩
  replace H:(if 0≤(ji33) then (if (ji33)<(y677.length:Int) then (if ((((t666++t667)++t666)++(⟨#[58]⟩:ByteArray))++t666).size+1≤9223372036854775807 then (if (((((t666++t667)++t666)++(⟨#[58]⟩:ByteArray))++t666)++(⟨#[32]⟩:ByteArray)).size+(rdOf ByteArray.empty y677 (ji33)).size≤9223372036854775807 then (if ((((((t666++t667)++t666)++(⟨#[58]⟩:ByteArray))++t666)++(⟨#[32]⟩:ByteArray))++(rdOf ByteArray.empty y677 (ji33))).size+t666.size≤9223372036854775807 then (some (t664,([]:List (List (S53))),rdOf ByteArray.empty y677 (ji33),((((((t666++t667)++t666)++(⟨#[58]⟩:ByteArray))++t666)++(⟨#[32]⟩:ByteArray))++(rdOf ByteArray.empty y677 (ji33)))++t666)) else (none)) else (none)) else (none)) else (none)) else (none))=some (r1,r2,r3,r4):=by first|(rw[hji33] at H;exact H)|(simp only[hji33] at H ⊢;exact H)
  have hji33w:(IntKind.i64.wrap (Int.tmod (IntKind.u64.wrap (a0_2)) 5))=ji33:=(i64_w _).trans hji33
  replace H:=ifn_ H
  obtain⟨c34,H⟩:=H
  have c34b0:decide (0≤(ji33))=true:=decide_eq_true c34
  clear c34
  replace H:=ifn_ H
  obtain⟨c35,H⟩:=H
  have c35b0:decide ((ji33)<(y677.length:Int))=true:=decide_eq_true c35
  clear c35
  replace H:=ifn_ H
  obtain⟨c36,H⟩:=H
  have c36b0:=eq_true c36
  have c36b1:decide (((((t666++t667)++t666)++(⟨#[58]⟩:ByteArray))++t666).size+1≤9223372036854775807)=true:=decide_eq_true c36
  try (have c36b5:=c36b0;simp only[ByteArray.size_append,Int.natCast_add] at c36b5)
  try have c36b2:=eq_false (Nat.not_lt.2 c36)
  try have c36b3:(9223372036854775807<t666.size+t667.size+t666.size+1+t666.size+1)=False:=eq_false (Nat.not_lt.2 (by have h_:=c36;simp only[ByteArray.size_append] at h_;exact h_))
  try have c36b4:(t666.size+t667.size+t666.size+1+t666.size+1≤9223372036854775807)=True:=eq_true (by have h_:=c36;simp only[ByteArray.size_append] at h_;exact h_)
  replace H:=ifn_ H
  obtain⟨c37,H⟩:=H
  have c37b0:=eq_true c37
  have c37b1:decide ((((((t666++t667)++t666)++(⟨#[58]⟩:ByteArray))++t666)++(⟨#[32]⟩:ByteArray)).size+(rdOf ByteArray.empty y677 (ji33)).size≤9223372036854775807)=true:=decide_eq_true c37
  try (have c37b5:=c37b0;simp only[ByteArray.size_append,Int.natCast_add] at c37b5)
  try have c37b2:=eq_false (Nat.not_lt.2 c37)
  try have c37b3:(9223372036854775807<t666.size+t667.size+t666.size+1+t666.size+1+(rdOf ByteArray.empty y677 (ji33)).size)=False:=eq_false (Nat.not_lt.2 (by have h_:=c37;simp only[ByteArray.size_append] at h_;exact h_))
  try have c37b4:(t666.size+t667.size+t666.size+1+t666.size+1+(rdOf ByteArray.empty y677 (ji33)).size≤9223372036854775807)=True:=eq_true (by have h_:=c37;simp only[ByteArray.size_append] at h_;exact h_)
  replace H:=ifn_ H
  obtain⟨c38,H⟩:=H
  have c38b0:=eq_true c38
  have c38b1:decide (((((((t666++t667)++t666)++(⟨#[58]⟩:ByteArray))++t666)++(⟨#[32]⟩:ByteArray))++(rdOf ByteArray.empty y677 (ji33))).size+t666.size≤9223372036854775807)=true:=decide_eq_true c38
  try (have c38b5:=c38b0;simp only[ByteArray.size_append,Int.natCast_add] at c38b5)
  try have c38b2:=eq_false (Nat.not_lt.2 c38)
  try have c38b3:(9223372036854775807<t666.size+t667.size+t666.size+1+t666.size+1+(rdOf ByteArray.empty y677 (ji33)).size+t666.size)=False:=eq_false (Nat.not_lt.2 (by have h_:=c38;simp only[ByteArray.size_append] at h_;exact h_))
  try have c38b4:(t666.size+t667.size+t666.size+1+t666.size+1+(rdOf ByteArray.empty y677 (ji33)).size+t666.size≤9223372036854775807)=True:=eq_true (by have h_:=c38;simp only[ByteArray.size_append] at h_;exact h_)
  simp only[Option.some.injEq,Prod.mk.injEq] at H
  obtain⟨rfl,rfl,rfl,rfl⟩:=H
  have hnb39:=NB665_662.out
  have hnc39:=NB662_665.out
  have hnb40:=NB665_663.out
  have hnc40:=NB663_665.out
  obtain⟨hcz41_0,hcz41_1,hcz41_2,hfz41_0,hfz41_1,hfz41_2⟩:=bo3_ BK665
  try go_wp2_with (first|((with_reducible refine gate_dst (N:=102) rfl ?_);refine Kd.R_lit Kd.string _ 9 ?hg (N:=102) ?hd (xs:=([(⟨#[]⟩:ByteArray),(⟨#[64,105,110,116,101,103,101,114,32,49,44,32,50,49,126,50,52,44,32,226,128,166]⟩:ByteArray),(⟨#[64,100,101,99,105,109,97,108,32,48,46,48]⟩:ByteArray),(⟨#[64,32,119,104,97,116,32,101,118,101,114,32,64]⟩:ByteArray),(⟨#[]⟩:ByteArray)]:List ByteArray)) (inner:=[.string (⟨#[]⟩:ByteArray),.string (⟨#[64,105,110,116,101,103,101,114,32,49,44,32,50,49,126,50,52,44,32,226,128,166]⟩:ByteArray),.string (⟨#[64,100,101,99,105,109,97,108,32,48,46,48]⟩:ByteArray),.string (⟨#[64,32,119,104,97,116,32,101,118,101,114,32,64]⟩:ByteArray),.string (⟨#[]⟩:ByteArray)]) (ok:=fun _=>True) (okp:=fun _=>True) ?hr ?hp (fun _ hk=>hk) trivial (Below.refl _ _) (Nat.le_refl _) (by simp) ?_;(case hd=>rfl);(case hg=>rfl);(case hr=>first|(go_simp;done)|(go_simp;rfl));(case hp=>exact(Reps.one (show Kd.M Kd.string _ _ _ (⟨#[]⟩:ByteArray) [.string (⟨#[]⟩:ByteArray)] from rfl) (Reps.one (show Kd.M Kd.string _ _ _ (⟨#[64,105,110,116,101,103,101,114,32,49,44,32,50,49,126,50,52,44,32,226,128,166]⟩:ByteArray) [.string (⟨#[64,105,110,116,101,103,101,114,32,49,44,32,50,49,126,50,52,44,32,226,128,166]⟩:ByteArray)] from rfl) (Reps.one (show Kd.M Kd.string _ _ _ (⟨#[64,100,101,99,105,109,97,108,32,48,46,48]⟩:ByteArray) [.string (⟨#[64,100,101,99,105,109,97,108,32,48,46,48]⟩:ByteArray)] from rfl) (Reps.one (show Kd.M Kd.string _ _ _ (⟨#[64,32,119,104,97,116,32,101,118,101,114,32,64]⟩:ByteArray) [.string (⟨#[64,32,119,104,97,116,32,101,118,101,114,32,64]⟩:ByteArray)] from rfl) (Reps.one (show Kd.M Kd.string _ _ _ (⟨#[]⟩:ByteArray) [.string (⟨#[]⟩:ByteArray)] from rfl) (Reps.none _ _)))))));intro v678 w42 ho43 hb hg_ hnew_;clear hg_ hnew_;(first|rw[← Ny677.out] at ho43|(simp only[Int.reduceToNat] at ho43;rw[← Ny677.out] at ho43));have HO679:=am_ (Kd.R_lower (Kd.R_newM (M:=fun k_=>(w.heap.size≤k_)) ho43 (below_size (bl_ HB).out) (fun k_ h_=>h_)) (below_size (bl_ HB).out));replace HO_7:=am_ (Kd.N_elder' (krN_ HO_7) (Kd.R_base ho43) hb);replace HO_663003:=am_ (Kd.V_elder' (krV_ HO_663003) (Kd.R_base ho43) hb);replace BK662:=bb_ BK662 hb;replace BK663:=bb_ BK663 hb;replace BK665:=bb_ BK665 hb;replace HB:=am_ (below_step (bl_ HB).out hb);clear hb ho43;have hnb44:=NB662_663.out;have hnc44:=NB663_662.out;obtain⟨hcz45_0,hcz45_1,hcz45_2,hcz45_3,hfz45_0,hfz45_1,hfz45_2,hfz45_3⟩:=bo4_ BK662;obtain⟨Ao46,co46,eo46⟩:=Kd.R_slice HO679.out;subst eo46;have p680:0≤((ji33):Int):=od_;have q680:(ji33)<(y677.length:Int):=od_;obtain⟨ad680,e680,hx680_0⟩:=Kd.at_string (Kd.R_reads' HO679.out).2.2 (ji33) p680 q680;cases e680;replace p680:=eq_true p680;replace q680:=eq_true q680;obtain⟨hcz47_0,hcz47_1,hcz47_2,hfz47_0,hfz47_1,hfz47_2⟩:=bo3_ BK665))
  obtain⟨w48,hWz1⟩:∃W_,W_=(w42.setCell ⟨gb665,2,none⟩ (.string (rdOf ByteArray.empty y677 (ji33)))):=⟨_,rfl⟩
  have n0_:Aside0 (Kd.N (Kd.slice 46 k46) 47 w48 w.heap.size (fun k_=>(P0_3_ k_∨w.heap.size≤k_)∧some k_≠(.slice (some ad680) y677.length co46:Value).ownBlock∧k_≠gb662∧k_≠gb663∧k_≠gb665) u7 x7_9):=by rw[hWz1];exact⟨kdN_ (Kd.N_mono (Kd.N_far (Kd.N_mono HO_7.out (fun k_ hk=>(⟨hk,hk.1.2.2.2⟩:_∧k_≠gb665))) (fun _ hk=>hk.2) _) (fun _ hk=>⟨hk.1.1.1,⟨hk.1.2,⟨hk.1.1.2.1,⟨hk.1.1.2.2.1,hk.1.1.2.2.2⟩⟩⟩⟩))⟩
  have n1_:Aside0 (Kd.V (Kd.slice 46 k46) 47 w48 w.heap.size (fun k_=>(P0_3_ k_∨w.heap.size≤k_)∧some k_≠(u7:Value).ownBlock∧some k_≠(.slice (some ad680) y677.length co46:Value).ownBlock∧k_≠gb662∧k_≠gb663∧k_≠gb665) (.slice A0_3 l0_3.length c0_3) l0_3):=by rw[hWz1];exact⟨kdV_ (Kd.V_mono (Kd.V_far (Kd.V_mono HO_663003.out (fun k_ hk=>(⟨hk,hk.1.2.2.2.2⟩:_∧k_≠gb665))) (fun _ hk=>hk.2) _) (fun _ hk=>⟨hk.1.1.1,⟨hk.1.1.2.1,⟨hk.1.2,⟨hk.1.1.2.2.1,⟨hk.1.1.2.2.2.1,hk.1.1.2.2.2.2⟩⟩⟩⟩⟩))⟩
  have n2_:Aside0 (Kd.R Kd.string 9 w48 w.heap.size (fun k_=>(w.heap.size≤k_)) (.slice (some ad680) y677.length co46) y677):=by rw[hWz1];exact⟨kdR_ (Kd.R_mono (Kd.R_far (Kd.R_types HO679.out BK665.out (by decide)) (fun _ hk=>hk.2) _) (fun _ hk=>hk.1.1))⟩
  have n3_:=wh_ hWz1 (bf_ BK662)
  have n4_:=wh_ hWz1 (bf_ BK663)
  have n5_:Aside0 (w48.heap[gb665]? = some (.cells #[.int .i64 t664,.slice none 0 0,.string (rdOf ByteArray.empty y677 (ji33))] 41 (0,0))):=by rw[hWz1];exact⟨(bp_ BK665).out⟩
  have n6_:=wb_ hWz1 (bl_ HB)
  (try clear HO_7)
  (try clear HO_663003)
  (try clear HO679)
  (try clear BK662)
  (try clear BK663)
  (try clear BK665)
  (try clear HB)
  rw[← hWz1]
  clear hWz1
  revert n0_ n1_ n2_ n3_ n4_ n5_ n6_
  intro HO_7 HO_663003 HO679 BK662 BK663 BK665 HB
  replace HO_7:=am_ (Kd.N_drew HO_7.out)
  replace HO_663003:=am_ (Kd.V_drew HO_663003.out)
  replace HO679:=am_ (Kd.R_drew HO679.out)
  replace BK662:=am_ (blk_drew BK662.out)
  replace BK663:=am_ (blk_drew BK663.out)
  replace BK665:=am_ (blk_drew BK665.out)
  replace HB:=am_ (below_drew1 HB.out)
  refine start_ (n:=10) (S:=fun w'=>w'.cell? ⟨gb665,0,none⟩=some (.int .i64 t664)∧w'.cell? ⟨gb665,1,none⟩=some (.slice none 0 0)∧w'.cell? ⟨gb665,2,none⟩=some (.string (rdOf ByteArray.empty y677 (ji33)))) (ds:=[]) #[false,false,false,false,false,false,false,false,false,false] (by kernel_rfl) rfl rfl ⟨bc_ BK665 0,bc_ BK665 1,bc_ BK665 2⟩ (fun hHeld=>?_);refine with_tabW florinlaw06_Made_Write.tab29 florinlaw06_Made_Write.bits29 (fun HT_ HW_=>?_)
  generalize w48.drew=w49 at HO_7 HO_663003 HO679 BK662 BK663 BK665 HB hHeld ⊢
  refine pu_ 1 112 (bm_ 10 2) HT_ ?_
  refine pu_ 2 113 (bm_ 10 6) HT_ ?_
  refine pu_ 3 114 (bm_ 10 14) HT_ ?_
  refine pu_ 6 117 (bm_ 10 78) HT_ ?_
  refine tk_ 0 111 (bm_ 10 79) HT_ HW_ hHeld rfl (by rintro w' ⟨s0,s1,s2⟩;go_simp;with_reducible rfl) ?_
  refine tk_ 4 115 (bm_ 10 95) HT_ HW_ hHeld rfl (by rintro w' ⟨s0,s1,s2⟩;go_simp;with_reducible rfl) ?_
  refine pu_ 5 116 (bm_ 10 127) HT_ ?_
  refine pu_ 7 118 (bm_ 10 255) HT_ ?_
  refine one_ (i:=8) (N:=none) (bm_ 10 511) rfl rfl (one_of HT_.out (by kernel_rfl)) (by decide) (fun K hK=>?_)
  have hs50:w49.cell? ⟨gb663,0,none⟩=some (.int .i64 0):=bc_ BK663 0
  have hfs50:=blk_frozen BK663.out 0
  have hns50_0:=NB662_663.out
  have hns50_2:=NB665_663.out
  have hms50_0:=NB663_662.out
  have hms50_2:=NB663_665.out
  have hs51:w49.cell? ⟨gb663,1,none⟩=some (.slice none 0 0):=bc_ BK663 1
  have hfs51:=blk_frozen BK663.out 1
  have hns51_0:=NB662_663.out
  have hns51_2:=NB665_663.out
  have hms51_0:=NB663_662.out
  have hms51_2:=NB663_665.out
  have hs52:w49.cell? ⟨gb663,2,none⟩=some (.string (⟨#[]⟩:ByteArray)):=bc_ BK663 2
  have hfs52:=blk_frozen BK663.out 2
  have hns52_0:=NB662_663.out
  have hns52_2:=NB665_663.out
  have hms52_0:=NB663_662.out
  have hms52_2:=NB663_665.out
  refine skip_ (w1:=?_) (by rfl) rfl ?_ ?_
  rotate_left
  ·go_simp
   rfl
  refine hK.out _ _ ⟨((cell_far (p:=⟨gb663,_,none⟩) NB665_663.out _).trans (((cell_far (p:=⟨gb663,_,none⟩) NB665_663.out _).trans (((cell_far (p:=⟨gb663,_,none⟩) NB665_663.out _).trans (hHeld.1)))))),((cell_far (p:=⟨gb663,_,none⟩) NB665_663.out _).trans (((cell_far (p:=⟨gb663,_,none⟩) NB665_663.out _).trans (((cell_far (p:=⟨gb663,_,none⟩) NB665_663.out _).trans (hHeld.2.1)))))),((cell_far (p:=⟨gb663,_,none⟩) NB665_663.out _).trans (((cell_far (p:=⟨gb663,_,none⟩) NB665_663.out _).trans (((cell_far (p:=⟨gb663,_,none⟩) NB665_663.out _).trans (hHeld.2.2))))))⟩ (fun hHeld=>?_)
  clear hK K
  refine pu_ 9 3 (bm_ 10 1023) HT_ ?_
  refine done_ (done_of HT_.out (by kernel_rfl)) ?_
  try go_wp2
  refine bodyPost_ret (results_ct rfl _ _ gb663 41 #[.int .i64 t664,.slice none 0 0,.string (rdOf ByteArray.empty y677 (ji33))] (0,0) _ rfl ((bp_ BK663).out) Tryz.underlying41 rfl (by kernel_rfl)) rfl ?_
  exact⟨_,by first|rfl|(simp[errW_none,errW_some] <;> rfl)|(simp only[← hji33];first|rfl|(simp[errW_none,errW_some] <;> rfl))|(simp[*,errW_none,errW_some] <;> first|rfl|exact given_isEmpty _|exact(given_isEmpty _).symm),by first|exact Kd.R_nil _ _ _ _ _|exact Kd.N_nil _ _ _ _ _|exact Kd.V_nil _ _ _ _ _|exact Kd.Q_nil _ _ _ _ _|exact Kd.S_nil _ _ _ _ _,by repeat(first|(with_reducible first|exact HB.out|apply below_alloc|apply pw_below_drewN|apply below_drew1|refine below_set ?_ GE662.out|refine below_set ?_ GE663.out|refine below_set ?_ GE665.out)|exact HB.out)⟩
 rw[if_neg c32] at H
 have c32b0:(t664==5)=false:=beq_eq_false_iff_ne.mpr c32
 have c32b1:(t664 !=5)=true:=bne_iff_ne.mpr c32
 have H':=am_ H
 clear H
 have hnb53:=NB665_662.out
 have hnc53:=NB662_665.out
 have hnb54:=NB665_663.out
 have hnc54:=NB663_665.out
 obtain⟨hcz55_0,hcz55_1,hcz55_2,hfz55_0,hfz55_1,hfz55_2⟩:=bo3_ BK665
 obtain⟨Ao56,co56,eo56⟩:=Kd.N_slice HO_7.out
 subst eo56
 go_wp2
 go_loopg [6,47] kj9 (fun kq v6 v47 w'=>∃(x6_2:ByteArray) (x47_2:Int) (x666001_2:List (List (S53))) (u666001:Value),v6= .string x6_2∧v47= .int .i64 x47_2∧Aside0 (florinlaw06_Made_Write.l0 kq t666 x6_2 x7_9 (x7_9.length:Int) x47_2 a0_0 a0_1 a0_2 l0_3 t664 x666001_2 (⟨#[]⟩:ByteArray)=some (r1,r2,r3,r4))∧Aside0 (kq≤kj9)∧Aside0 (Kd.N (Kd.slice 46 k46) 47 w' w.heap.size (fun k_=>(P0_3_ k_∨w.heap.size≤k_)∧some k_≠(u666001:Value).ownBlock∧k_≠gb662∧k_≠gb663∧k_≠gb665) (.slice Ao56 x7_9.length co56) x7_9)∧Aside0 (Kd.V (Kd.slice 46 k46) 47 w' w.heap.size (fun k_=>(P0_3_ k_∨w.heap.size≤k_)∧some k_≠((.slice Ao56 x7_9.length co56):Value).ownBlock∧some k_≠(u666001:Value).ownBlock∧k_≠gb662∧k_≠gb663∧k_≠gb665) (.slice A0_3 l0_3.length c0_3) l0_3)∧Aside0 (Kd.N (Kd.slice 53 k53) 54 w' w.heap.size (fun k_=>(P0_3_ k_∨w.heap.size≤k_)∧some k_≠((.slice Ao56 x7_9.length co56):Value).ownBlock∧k_≠gb662∧k_≠gb663∧k_≠gb665) u666001 x666001_2)∧Aside0 (w'.heap[gb662]? = some (.cells #[.int .i64 a0_0,.int .i64 a0_1,.int .i64 a0_2,(.slice A0_3 l0_3.length c0_3)] 50 (0,0)))∧Aside0 (w'.heap[gb663]? = some (.cells #[.int .i64 0,(.slice none 0 0),.string (⟨#[]⟩:ByteArray)] 41 (0,0)))∧Aside0 (w'.heap[gb665]? = some (.cells #[.int .i64 t664,u666001,.string (⟨#[]⟩:ByteArray)] 41 (0,0)))∧Aside0 (Below w.heap.size w w'))
 case atStart=>exact⟨(((((t666++t667)++t666)++(⟨#[58]⟩:ByteArray))++t666)),(0),(([]:List (List (S53)))),(.slice none 0 0),eq_,eq_,H',⟨Nat.le_refl _⟩,⟨kdN_ (Kd.N_mono HO_7.out (fun _ hk=>⟨hk.1,⟨(by simp[Value.ownBlock]),⟨hk.2.1,⟨hk.2.2.1,hk.2.2.2⟩⟩⟩⟩))⟩,⟨kdV_ (Kd.V_mono HO_663003.out (fun _ hk=>⟨hk.1,⟨hk.2.1,⟨(by simp[Value.ownBlock]),⟨hk.2.2.1,⟨hk.2.2.2.1,hk.2.2.2.2⟩⟩⟩⟩⟩))⟩,⟨by first|exact Kd.R_nil _ _ _ _ _|exact Kd.N_nil _ _ _ _ _|exact Kd.V_nil _ _ _ _ _|exact Kd.Q_nil _ _ _ _ _|exact Kd.S_nil _ _ _ _ _⟩,(bk_ BK662),(bk_ BK663),(bk_ BK665),(bl_ HB)⟩
 clear H'
 obtain⟨x6_2,x47_2,x666001_2,u666001,rfl,rfl,HA,HK2,HO_45,HO_663003,HO_666001,BK662,BK663,BK665,HB⟩:=hrel
 cases gk with
 | zero=>exact absurd HA.out (by simp[florinlaw06_Made_Write.l0])
 | succ k2=>?_
 have H:=HA.out
 clear HA
 simp only[florinlaw06_Made_Write.l0] at H
 by_cases c57:x47_2<(x7_9.length:Int)
 ·rw[if_pos c57] at H
  have c57b0:=decide_eq_true c57
  clear c57
  replace H:=ifn_ H
  obtain⟨c58,H⟩:=H
  have c58b0:decide (0≤x47_2)=true:=decide_eq_true c58
  clear c58
  replace H:=ifn_ H
  obtain⟨c59,H⟩:=H
  have c59b0:decide (x47_2<(x7_9.length:Int))=true:=decide_eq_true c59
  clear c59
  obtain⟨y686,hy686⟩:∃y_:List (S46),y_=(([]:List (S46))):=⟨_,rfl⟩
  replace H:(if y686.length+(rd_L14 x7_9 x47_2).length<2513169434916 then ((some (y686++(rd_L14 x7_9 x47_2):List (S46))).bind fun y689=>(if (y689.length:Int)=0 then (if y689.length<2513169434916 then (florinlaw06_Made_Write.j2 k2 t666 x6_2 x47_2 (y689++[(⟨0,0,0,false,([]:List (S139))⟩:S46)]) x7_9 (x7_9.length:Int) x47_2 a0_0 a0_1 a0_2 l0_3 t664 x666001_2 (⟨#[]⟩:ByteArray)) else (none)) else (florinlaw06_Made_Write.j2 k2 t666 x6_2 x47_2 y689 x7_9 (x7_9.length:Int) x47_2 a0_0 a0_1 a0_2 l0_3 t664 x666001_2 (⟨#[]⟩:ByteArray)))) else (none))=some (r1,r2,r3,r4):=by first|(rw[hy686];with_reducible exact H)|(have H2_:=(Option.bind_some _ _).symm.trans H;rw[hy686];with_reducible exact H2_)|(have H2_:=(Option.bind_some _ _).symm.trans H;with_reducible exact H2_)|with_reducible exact H|(rw[hy686];exact H)|exact H
  have Ny686:=am_ hy686
  clear hy686
  replace H:=ifn_ H
  obtain⟨c60,H⟩:=H
  have LMc60:=am_ c60
  clear c60
  obtain⟨y689,hy689⟩:∃y_:List (S46),y_=(y686++(rd_L14 x7_9 x47_2)):=⟨_,rfl⟩
  replace H:(if (y689.length:Int)=0 then (if y689.length<2513169434916 then (florinlaw06_Made_Write.j2 k2 t666 x6_2 x47_2 (y689++[(⟨0,0,0,false,([]:List (S139))⟩:S46)]) x7_9 (x7_9.length:Int) x47_2 a0_0 a0_1 a0_2 l0_3 t664 x666001_2 (⟨#[]⟩:ByteArray)) else (none)) else (florinlaw06_Made_Write.j2 k2 t666 x6_2 x47_2 y689 x7_9 (x7_9.length:Int) x47_2 a0_0 a0_1 a0_2 l0_3 t664 x666001_2 (⟨#[]⟩:ByteArray)))=some (r1,r2,r3,r4):=by first|(rw[hy689];with_reducible exact H)|(have H2_:=(Option.bind_some _ _).symm.trans H;rw[hy689];with_reducible exact H2_)|(have H2_:=(Option.bind_some _ _).symm.trans H;with_reducible exact H2_)|with_reducible exact H|(rw[hy689];exact H)|exact H
  have Ny689:=am_ hy689
  clear hy689
  have HC61:=am_ H
  clear H
  have p685:0≤(x47_2:Int):=od_
  have q685:x47_2<(x7_9.length:Int):=od_
  obtain⟨ad685,A685_0,c685_0,e685,hx685_0,hl685_0,hi685_0⟩:=at_L14 (Kd.N_reads' HO_45.out).2.2 x47_2 p685 q685
  cases e685
  obtain⟨ce685,hce685,hMe685,hcc685⟩:=Kd.N_get HO_45.out [] x47_2 p685 (by first|exact q685|exact od_|(have e_:=(Kd.N_reads' HO_45.out).1;omega))
  obtain⟨ua685_0,uc685_0,rfl,ul685_0,ge685_0⟩:=Kd.FK_slice_open hMe685
  have hv685_0:=hcc685 0 _ rfl
  rw[Nat.add_zero,show((Kd.slice 46 k46)).sz=1 from rfl,Nat.mul_one] at hv685_0
  replace hv685_0:=Option.some.inj (hv685_0.symm.trans hx685_0)
  injection hv685_0 with hva_ hvn_ hvc_
  rw[hva_] at ge685_0
  rw[hvc_] at ul685_0
  have HL685_0:=am_ (show Kd.V k46 46 _ w.heap.size _ _ (rd_L14 x7_9 x47_2) from Kd.V_mk ul685_0 ge685_0)
  clear hva_ hvn_ hvc_ ge685_0 ul685_0
  clear hcc685 hce685
  have HR685_0:=am_ hi685_0
  have HC685_0:=am_ hl685_0
  clear hi685_0 hl685_0
  replace p685:=eq_true p685
  replace q685:=eq_true q685
  go_upto_if 57 with (first|((with_reducible refine gate_dst (N:=52) rfl ?_);refine Kd.N_lit k46 _ 46 ?hg (N':=52) ?hd (xs:=([]:List (S46))) (inner:=[]) (ok:=(fun k_=>(P0_3_ k_∨w.heap.size≤k_)∧some k_≠(.slice (some ad685) x7_9.length co56:Value).ownBlock∧some k_≠(u666001:Value).ownBlock∧k_≠gb662∧k_≠gb663∧k_≠gb665)) (okp:=(fun k_=>(P0_3_ k_∨w.heap.size≤k_)∧some k_≠(.slice (some ad685) x7_9.length co56:Value).ownBlock∧some k_≠(u666001:Value).ownBlock∧k_≠gb662∧k_≠gb663∧k_≠gb665)) ?hr ?hp (fun _ hk=>hk) ((show ∀k_,wr.heap.size≤k_→(fun k_=>(P0_3_ k_∨w.heap.size≤k_)∧some k_≠(.slice (some ad685) x7_9.length co56:Value).ownBlock∧some k_≠(u666001:Value).ownBlock∧k_≠gb662∧k_≠gb663∧k_≠gb665) k_ from fun k_ hk=>⟨(.inr (Nat.le_trans (below_size (bl_ HB).out) hk)),Kd.fresh' (Kd.N_lt (krN_ HO_45)) k_ hk,Kd.fresh' (Kd.N_lt (krN_ HO_666001)) k_ hk,Kd.freshB (bk_ BK662).out k_ hk,Kd.freshB (bk_ BK663).out k_ hk,Kd.freshB (bk_ BK665).out k_ hk⟩) _ (Nat.le_refl _)) (Below.refl _ _) (Nat.le_refl _) (by simp) ?_;(case hd=>rfl);(case hg=>rfl);(case hr=>first|(go_simp;done)|(go_simp;rfl));(case hp=>exact(Reps.none _ _));intro v687 w62 ho63 hb hg_ hnew_;clear hg_ hnew_;(first|rw[← Ny686.out] at ho63|(simp only[Int.reduceToNat] at ho63;rw[← Ny686.out] at ho63));have HO688:=am_ (Kd.N_lower ho63 (below_size (bl_ HB).out));replace HO_45:=am_ (Kd.N_elder' (krN_ HO_45) (Kd.N_base ho63) hb);replace HO_663003:=am_ (Kd.V_elder' (krV_ HO_663003) (Kd.N_base ho63) hb);replace HO_666001:=am_ (Kd.N_elder' (krN_ HO_666001) (Kd.N_base ho63) hb);replace HL685_0:=am_ (Kd.V_elder' (krV_ HL685_0) (Kd.N_base ho63) hb);replace BK662:=bb_ BK662 hb;replace BK663:=bb_ BK663 hb;replace BK665:=bb_ BK665 hb;replace HR685_0:=am_ (Kd.C_below (by repeat(first|(with_reducible exact HR685_0.out)|(with_reducible refine Kd.C_alloc ?_ _)|(with_reducible refine Kd.C_drewN ?_ _)|(with_reducible refine Kd.C_drew ?_)|exact HR685_0.out)) hb);replace HB:=am_ (below_step (bl_ HB).out hb);clear hb ho63)|((with_reducible refine gate_builtin (b:= .append) (xs:= #[.tmp 52,.tmp 53]) rfl ?_);at_builtin;refine Kd.N_append_rows k46 (w0:=w) w.heap.size rfl (.tmp 52) (.tmp 53) 47 46 (.agg #[(.int .i64 0),(.int .i64 0),(.int .i64 0),(.bool false),(.slice none 0 0)]) 56 rfl Tryz.underlying47 info46 rfl (by decide) (by omega) v687 y686 (rd_L14 x7_9 x47_2) _ _ _ (fun k_=>(P0_3_ k_∨w.heap.size≤k_)∧some k_≠(.slice (some ad685) x7_9.length co56:Value).ownBlock∧some k_≠(u666001:Value).ownBlock∧k_≠gb662∧k_≠gb663∧k_≠gb665) (fun k_=>((fun k_=>(P0_3_ k_∨w.heap.size≤k_)∧some k_≠(.slice (some ad685) x7_9.length co56:Value).ownBlock∧some k_≠(u666001:Value).ownBlock∧k_≠gb662∧k_≠gb663∧k_≠gb665)) k_∧some k_≠(v687:Value).ownBlock) rfl rfl ?aO ?aR (fun _ hk=>hk) ?aF ?aB ?aS ?aL ?_;(case aR=>exact(by skip;exact Kd.V_F (Kd.V_mono (ok':=(fun k_=>((fun k_=>(P0_3_ k_∨w.heap.size≤k_)∧some k_≠(.slice (some ad685) x7_9.length co56:Value).ownBlock∧some k_≠(u666001:Value).ownBlock∧k_≠gb662∧k_≠gb663∧k_≠gb665)) k_∧some k_≠(v687:Value).ownBlock)) (HL685_0.out) (fun k_ hk=>⟨⟨hk.1.1.1,⟨hk.1.2,⟨hk.1.1.2.1,⟨hk.1.1.2.2.1,⟨hk.1.1.2.2.2.1,hk.1.1.2.2.2.2⟩⟩⟩⟩⟩,hk.2⟩))));(case aB=>exact(bl_ HB).out);(case aF=>exact(fun k_ hk=>⟨(.inr (Nat.le_trans (below_size (bl_ HB).out) hk)),Kd.fresh' (Kd.N_lt (krN_ HO_45)) k_ hk,Kd.fresh' (Kd.N_lt (krN_ HO_666001)) k_ hk,Kd.freshB (bk_ BK662).out k_ hk,Kd.freshB (bk_ BK663).out k_ hk,Kd.freshB (bk_ BK665).out k_ hk⟩));(case aO=>exact(krN_ HO688));(case aS=>exact(below_size (bl_ HB).out));(case aL=>have:=LMc60.out;omega);intro v690 w64 ho hb hg hat;rw[← Ny689.out] at ho;have n0_:=am_ (Kd.N_afterv (ok:=(fun k_=>(P0_3_ k_∨w.heap.size≤k_)∧some k_≠(u666001:Value).ownBlock∧k_≠gb662∧k_≠gb663∧k_≠gb665)) (krN_ HO_45) hg hat);have n1_:=am_ (Kd.V_afterv (ok:=(fun k_=>(P0_3_ k_∨w.heap.size≤k_)∧some k_≠(.slice (some ad685) x7_9.length co56:Value).ownBlock∧some k_≠(u666001:Value).ownBlock∧k_≠gb662∧k_≠gb663∧k_≠gb665)) (krV_ HO_663003) hg hat);have n2_:=am_ (Kd.N_afterv (ok:=(fun k_=>(P0_3_ k_∨w.heap.size≤k_)∧some k_≠(.slice (some ad685) x7_9.length co56:Value).ownBlock∧k_≠gb662∧k_≠gb663∧k_≠gb665)) (krN_ HO_666001) hg hat);have n3_:=am_ (blk_grown (bk_ BK662).out hg (Kd.N_ne HO688.out BK662.out (by decide)));have n4_:=am_ (blk_grown (bk_ BK663).out hg (Kd.N_ne HO688.out BK663.out (by decide)));have n5_:=am_ (blk_grown (bk_ BK665).out hg (Kd.N_ne HO688.out BK665.out (by decide)));have n6_:=am_ (Kd.V_afterv (ok:=(fun k_=>(P0_3_ k_∨w.heap.size≤k_)∧some k_≠(.slice (some ad685) x7_9.length co56:Value).ownBlock∧some k_≠(u666001:Value).ownBlock∧k_≠gb662∧k_≠gb663∧k_≠gb665)) (kdV_ (Kd.V_mono HL685_0.out (fun _ hk=>⟨⟨hk.1.1.1,⟨hk.1.2,⟨hk.1.1.2.1,⟨hk.1.1.2.2.1,⟨hk.1.1.2.2.2.1,hk.1.1.2.2.2.2⟩⟩⟩⟩⟩,hk.2⟩))) hg hat);have n7_:=am_ (hb);have n8_:=am_ (ho);clear HO_45;clear HO_663003;clear HO_666001;clear BK662;clear BK663;clear BK665;clear HL685_0;clear HB;clear HO688;revert n0_ n1_ n2_ n3_ n4_ n5_ n6_ n7_ n8_;intro HO_45 HO_663003 HO_666001 BK662 BK663 BK665 HL685_0 HB HO691;clear ho hb hg hat;obtain⟨Ao65,co65,eo65⟩:=Kd.N_slice HO691.out;subst eo65))
  (try simp only[Act.put,List.setIfInBounds_toArray,List.set_cons_zero,List.set_cons_succ])
  go_cut [10] (fun v10 wc=>∃(kq:Nat) (x10_60:List (S46)),Aside0 (florinlaw06_Made_Write.j2 kq t666 x6_2 x47_2 x10_60 x7_9 (x7_9.length:Int) x47_2 a0_0 a0_1 a0_2 l0_3 t664 x666001_2 (⟨#[]⟩:ByteArray)=some (r1,r2,r3,r4))∧Aside0 (kq≤k2)∧Aside0 (Kd.N k46 46 wc w.heap.size (fun k_=>(P0_3_ k_∨w.heap.size≤k_)∧some k_≠((.slice (some ad685) x7_9.length co56):Value).ownBlock∧some k_≠(u666001:Value).ownBlock∧k_≠gb662∧k_≠gb663∧k_≠gb665) v10 x10_60)∧Aside0 (Kd.N (Kd.slice 46 k46) 47 wc w.heap.size (fun k_=>(P0_3_ k_∨w.heap.size≤k_)∧some k_≠(v10:Value).ownBlock∧some k_≠(u666001:Value).ownBlock∧k_≠gb662∧k_≠gb663∧k_≠gb665) (.slice (some ad685) x7_9.length co56) x7_9)∧Aside0 (Kd.V (Kd.slice 46 k46) 47 wc w.heap.size (fun k_=>(P0_3_ k_∨w.heap.size≤k_)∧some k_≠(v10:Value).ownBlock∧some k_≠((.slice (some ad685) x7_9.length co56):Value).ownBlock∧some k_≠(u666001:Value).ownBlock∧k_≠gb662∧k_≠gb663∧k_≠gb665) (.slice A0_3 l0_3.length c0_3) l0_3)∧Aside0 (Kd.N (Kd.slice 53 k53) 54 wc w.heap.size (fun k_=>(P0_3_ k_∨w.heap.size≤k_)∧some k_≠(v10:Value).ownBlock∧some k_≠((.slice (some ad685) x7_9.length co56):Value).ownBlock∧k_≠gb662∧k_≠gb663∧k_≠gb665) u666001 x666001_2)∧Aside0 (wc.heap[gb662]? = some (.cells #[.int .i64 a0_0,.int .i64 a0_1,.int .i64 a0_2,(.slice A0_3 l0_3.length c0_3)] 50 (0,0)))∧Aside0 (wc.heap[gb663]? = some (.cells #[.int .i64 0,(.slice none 0 0),.string (⟨#[]⟩:ByteArray)] 41 (0,0)))∧Aside0 (wc.heap[gb665]? = some (.cells #[.int .i64 t664,u666001,.string (⟨#[]⟩:ByteArray)] 41 (0,0)))∧Aside0 (Below w.heap.size w wc))
  case first =>
   have H:=HC61.out
   clear HC61
   by_cases c66:(y689.length:Int)=0
   ·rw[if_pos c66] at H
    have c66b0:((y689.length:Int)==0)=true:=beq_iff_eq.mpr c66
    have c66b1:((y689.length:Int) !=0)=false:=bne_eq_false_iff_eq.mpr c66
    clear c66
    (first|rw[c66b0]|(simp only[i64_w,i32_w];rw[c66b0])|skip)
    replace H:=ifn_ H
    obtain⟨c67,H⟩:=H
    have LMc67:=am_ c67
    clear c67
    obtain⟨y692,hy692⟩:∃y_:List (S46),y_=(y689++[(⟨0,0,0,false,([]:List (S139))⟩:S46)]):=⟨_,rfl⟩
    replace H:(florinlaw06_Made_Write.j2 k2 t666 x6_2 x47_2 y692 x7_9 (x7_9.length:Int) x47_2 a0_0 a0_1 a0_2 l0_3 t664 x666001_2 (⟨#[]⟩:ByteArray))=some (r1,r2,r3,r4):=by first|(rw[hy692];with_reducible exact H)|(have H2_:=(Option.bind_some _ _).symm.trans H;rw[hy692];with_reducible exact H2_)|(have H2_:=(Option.bind_some _ _).symm.trans H;with_reducible exact H2_)|with_reducible exact H|(rw[hy692];exact H)|exact H
    have Ny692:=am_ hy692
    clear hy692
    have H':=am_ H
    clear H
    go_wp2_with (first|((with_reducible refine gate_builtin (b:= .append) (xs:= #[.tmp 58,.tmp 60]) rfl ?_);at_builtin;refine Kd.N_append k46 (w0:=w) w.heap.size rfl (.tmp 58) (.tmp 60) 47 46 (.agg #[(.int .i64 0),(.int .i64 0),(.int .i64 0),(.bool false),(.slice none 0 0)]) 56 rfl Tryz.underlying47 info46 rfl (by decide) (by omega) (.slice Ao65 y689.length co65) y689 (⟨0,0,0,false,([]:List (S139))⟩:S46) [.int .i64 0,.int .i64 0,.int .i64 0,.bool false,.slice none 0 0] (fun k_=>(P0_3_ k_∨w.heap.size≤k_)∧some k_≠(.slice (some ad685) x7_9.length co56:Value).ownBlock∧some k_≠(u666001:Value).ownBlock∧k_≠gb662∧k_≠gb663∧k_≠gb665) (fun k_=>((fun k_=>(P0_3_ k_∨w.heap.size≤k_)∧some k_≠(.slice (some ad685) x7_9.length co56:Value).ownBlock∧some k_≠(u666001:Value).ownBlock∧k_≠gb662∧k_≠gb663∧k_≠gb665)) k_∧some k_≠(.slice Ao65 y689.length co65:Value).ownBlock) rfl rfl ?aP (fun _ hk=>hk) ?aF ?aO ?aB ?aS ?aL ?_;(case aP=>exact(k46_mkF _ _ (⟨0,0,0,false,([]:List (S139))⟩:S46) (Nat.le_refl _) (Kd.F_nil _ _ _)));(case aB=>exact(bl_ HB).out);(case aF=>exact(fun k_ hk=>⟨(.inr (Nat.le_trans (below_size (bl_ HB).out) hk)),Kd.fresh' (Kd.N_lt (krN_ HO_45)) k_ hk,Kd.fresh' (Kd.N_lt (krN_ HO_666001)) k_ hk,Kd.freshB (bk_ BK662).out k_ hk,Kd.freshB (bk_ BK663).out k_ hk,Kd.freshB (bk_ BK665).out k_ hk⟩));(case aO=>exact(krN_ HO691));(case aS=>exact(below_size (bl_ HB).out));(case aL=>have:=LMc67.out;omega);intro v693 w68 ho hb hg hat;rw[← Ny692.out] at ho;have n0_:=am_ (Kd.N_afterv (ok:=(fun k_=>(P0_3_ k_∨w.heap.size≤k_)∧some k_≠(u666001:Value).ownBlock∧k_≠gb662∧k_≠gb663∧k_≠gb665)) (krN_ HO_45) hg hat);have n1_:=am_ (Kd.V_afterv (ok:=(fun k_=>(P0_3_ k_∨w.heap.size≤k_)∧some k_≠(.slice (some ad685) x7_9.length co56:Value).ownBlock∧some k_≠(u666001:Value).ownBlock∧k_≠gb662∧k_≠gb663∧k_≠gb665)) (krV_ HO_663003) hg hat);have n2_:=am_ (Kd.N_afterv (ok:=(fun k_=>(P0_3_ k_∨w.heap.size≤k_)∧some k_≠(.slice (some ad685) x7_9.length co56:Value).ownBlock∧k_≠gb662∧k_≠gb663∧k_≠gb665)) (krN_ HO_666001) hg hat);have n3_:=am_ (blk_grown (bk_ BK662).out hg (Kd.N_ne HO691.out BK662.out (by decide)));have n4_:=am_ (blk_grown (bk_ BK663).out hg (Kd.N_ne HO691.out BK663.out (by decide)));have n5_:=am_ (blk_grown (bk_ BK665).out hg (Kd.N_ne HO691.out BK665.out (by decide)));have n6_:=am_ (Kd.V_afterv (ok:=(fun k_=>(P0_3_ k_∨w.heap.size≤k_)∧some k_≠(.slice (some ad685) x7_9.length co56:Value).ownBlock∧some k_≠(u666001:Value).ownBlock∧k_≠gb662∧k_≠gb663∧k_≠gb665)) (krV_ HL685_0) hg hat);have n7_:=am_ (hb);have n8_:=am_ (ho);clear HO_45;clear HO_663003;clear HO_666001;clear BK662;clear BK663;clear BK665;clear HL685_0;clear HB;clear HO691;revert n0_ n1_ n2_ n3_ n4_ n5_ n6_ n7_ n8_;intro HO_45 HO_663003 HO_666001 BK662 BK663 BK665 HL685_0 HB HO694;clear ho hb hg hat))
    go_meet
    case rel=>exact⟨_,(y692),H',⟨by have:=HJ9.out;have:=HK2.out;first|omega|exact Nat.le_refl _⟩,⟨kdN_ HO694.out⟩,⟨kdN_ (Kd.N_mono HO_45.out (fun _ hk=>⟨hk.1.1,⟨hk.2,⟨hk.1.2.1,⟨hk.1.2.2.1,⟨hk.1.2.2.2.1,hk.1.2.2.2.2⟩⟩⟩⟩⟩))⟩,⟨kdV_ (Kd.V_mono HO_663003.out (fun _ hk=>⟨hk.1.1,⟨hk.2,⟨hk.1.2.1,⟨hk.1.2.2.1,⟨hk.1.2.2.2.1,⟨hk.1.2.2.2.2.1,hk.1.2.2.2.2.2⟩⟩⟩⟩⟩⟩))⟩,⟨kdN_ (Kd.N_mono HO_666001.out (fun _ hk=>⟨hk.1.1,⟨hk.2,⟨hk.1.2.1,⟨hk.1.2.2.1,⟨hk.1.2.2.2.1,hk.1.2.2.2.2⟩⟩⟩⟩⟩))⟩,(bk_ BK662),(bk_ BK663),(bk_ BK665),(bl_ HB)⟩
   rw[if_neg c66] at H
   have c66b0:((y689.length:Int)==0)=false:=beq_eq_false_iff_ne.mpr c66
   have c66b1:((y689.length:Int) !=0)=true:=bne_iff_ne.mpr c66
   have c66b2:¬(y689=[]):=fun h_=>c66 (by rw[h_];rfl)
   (first|rw[c66b0]|(simp only[i64_w,i32_w];rw[c66b0])|skip)
   have H':=am_ H
   clear H
   go_wp2
   go_meet
   case rel=>exact⟨_,(y689),H',⟨by have:=HJ9.out;have:=HK2.out;first|omega|exact Nat.le_refl _⟩,⟨kdN_ HO691.out⟩,⟨kdN_ (Kd.N_mono HO_45.out (fun _ hk=>⟨hk.1.1,⟨hk.2,⟨hk.1.2.1,⟨hk.1.2.2.1,⟨hk.1.2.2.2.1,hk.1.2.2.2.2⟩⟩⟩⟩⟩))⟩,⟨kdV_ (Kd.V_mono HO_663003.out (fun _ hk=>⟨hk.1.1,⟨hk.2,⟨hk.1.2.1,⟨hk.1.2.2.1,⟨hk.1.2.2.2.1,⟨hk.1.2.2.2.2.1,hk.1.2.2.2.2.2⟩⟩⟩⟩⟩⟩))⟩,⟨kdN_ (Kd.N_mono HO_666001.out (fun _ hk=>⟨hk.1.1,⟨hk.2,⟨hk.1.2.1,⟨hk.1.2.2.1,⟨hk.1.2.2.2.1,hk.1.2.2.2.2⟩⟩⟩⟩⟩))⟩,(bk_ BK662),(bk_ BK663),(bk_ BK665),(bl_ HB)⟩
  clear HC61
  obtain⟨kq,x10_60,HA,HJ60,HO_10,HO_45,HO_663003,HO_666001,BK662,BK663,BK665,HB⟩:=hcut
  cases kq with
  | zero=>exact absurd HA.out (by simp[florinlaw06_Made_Write.j2])
  | succ kj60=>?_
  have H:=HA.out
  clear HA
  simp only[florinlaw06_Made_Write.j2] at H
  have HC69:=am_ H
  clear H
  go_upto_if 63 with (fail)
  go_cut [6] (fun v6 wc=>∃(kq:Nat) (x6_68:ByteArray),v6= .string x6_68∧Aside0 (florinlaw06_Made_Write.j3 kq t666 x6_68 x10_60 x7_9 (x7_9.length:Int) x47_2 a0_0 a0_1 a0_2 l0_3 t664 x666001_2 (⟨#[]⟩:ByteArray)=some (r1,r2,r3,r4))∧Aside0 (kq≤kj60)∧Aside0 (Kd.N k46 46 wc w.heap.size (fun k_=>(P0_3_ k_∨w.heap.size≤k_)∧some k_≠((.slice (some ad685) x7_9.length co56):Value).ownBlock∧some k_≠(u666001:Value).ownBlock∧k_≠gb662∧k_≠gb663∧k_≠gb665) u10 x10_60)∧Aside0 (Kd.N (Kd.slice 46 k46) 47 wc w.heap.size (fun k_=>(P0_3_ k_∨w.heap.size≤k_)∧some k_≠(u10:Value).ownBlock∧some k_≠(u666001:Value).ownBlock∧k_≠gb662∧k_≠gb663∧k_≠gb665) (.slice (some ad685) x7_9.length co56) x7_9)∧Aside0 (Kd.V (Kd.slice 46 k46) 47 wc w.heap.size (fun k_=>(P0_3_ k_∨w.heap.size≤k_)∧some k_≠(u10:Value).ownBlock∧some k_≠((.slice (some ad685) x7_9.length co56):Value).ownBlock∧some k_≠(u666001:Value).ownBlock∧k_≠gb662∧k_≠gb663∧k_≠gb665) (.slice A0_3 l0_3.length c0_3) l0_3)∧Aside0 (Kd.N (Kd.slice 53 k53) 54 wc w.heap.size (fun k_=>(P0_3_ k_∨w.heap.size≤k_)∧some k_≠(u10:Value).ownBlock∧some k_≠((.slice (some ad685) x7_9.length co56):Value).ownBlock∧k_≠gb662∧k_≠gb663∧k_≠gb665) u666001 x666001_2)∧Aside0 (wc.heap[gb662]? = some (.cells #[.int .i64 a0_0,.int .i64 a0_1,.int .i64 a0_2,(.slice A0_3 l0_3.length c0_3)] 50 (0,0)))∧Aside0 (wc.heap[gb663]? = some (.cells #[.int .i64 0,(.slice none 0 0),.string (⟨#[]⟩:ByteArray)] 41 (0,0)))∧Aside0 (wc.heap[gb665]? = some (.cells #[.int .i64 t664,u666001,.string (⟨#[]⟩:ByteArray)] 41 (0,0)))∧Aside0 (Below w.heap.size w wc))
  case first =>
   have H:=HC69.out
   clear HC69
   by_cases c70:x47_2>0
   ·rw[if_pos c70] at H
    have c70b0:decide (0<x47_2)=true:=decide_eq_true c70
    clear c70
    (first|rw[c70b0]|(simp only[i64_w,i32_w];rw[c70b0])|skip)
    replace H:=ifn_ H
    obtain⟨c71,H⟩:=H
    have c71b0:=eq_true c71
    have c71b1:decide (x6_2.size+3≤9223372036854775807)=true:=decide_eq_true c71
    try have c71b2:=eq_false (Nat.not_lt.2 c71)
    replace H:=ifn_ H
    obtain⟨c72,H⟩:=H
    have c72b0:=eq_true c72
    have c72b1:decide ((x6_2++(⟨#[32,111,114]⟩:ByteArray)).size+t666.size≤9223372036854775807)=true:=decide_eq_true c72
    try (have c72b5:=c72b0;simp only[ByteArray.size_append,Int.natCast_add] at c72b5)
    try have c72b2:=eq_false (Nat.not_lt.2 c72)
    try have c72b3:(9223372036854775807<x6_2.size+3+t666.size)=False:=eq_false (Nat.not_lt.2 (by have h_:=c72;simp only[ByteArray.size_append] at h_;exact h_))
    try have c72b4:(x6_2.size+3+t666.size≤9223372036854775807)=True:=eq_true (by have h_:=c72;simp only[ByteArray.size_append] at h_;exact h_)
    replace H:=ifn_ H
    obtain⟨c73,H⟩:=H
    have c73b0:=eq_true c73
    have c73b1:decide (((x6_2++(⟨#[32,111,114]⟩:ByteArray))++t666).size+1≤9223372036854775807)=true:=decide_eq_true c73
    try (have c73b5:=c73b0;simp only[ByteArray.size_append,Int.natCast_add] at c73b5)
    try have c73b2:=eq_false (Nat.not_lt.2 c73)
    try have c73b3:(9223372036854775807<x6_2.size+3+t666.size+1)=False:=eq_false (Nat.not_lt.2 (by have h_:=c73;simp only[ByteArray.size_append] at h_;exact h_))
    try have c73b4:(x6_2.size+3+t666.size+1≤9223372036854775807)=True:=eq_true (by have h_:=c73;simp only[ByteArray.size_append] at h_;exact h_)
    have H':=am_ H
    clear H
    go_wp2
    go_meet
    case rel=>exact⟨_,(((x6_2++(⟨#[32,111,114]⟩:ByteArray))++t666)++(⟨#[32]⟩:ByteArray)),eq_,H',⟨by have:=HJ9.out;have:=HK2.out;have:=HJ60.out;first|omega|exact Nat.le_refl _⟩,⟨kdN_ HO_10.out⟩,⟨kdN_ HO_45.out⟩,⟨kdV_ HO_663003.out⟩,⟨kdN_ HO_666001.out⟩,(bk_ BK662),(bk_ BK663),(bk_ BK665),(bl_ HB)⟩
   rw[if_neg c70] at H
   have c70b0:decide (0<x47_2)=false:=decide_eq_false c70
   clear c70
   (first|rw[c70b0]|(simp only[i64_w,i32_w];rw[c70b0])|skip)
   have H':=am_ H
   clear H
   go_wp2
   go_meet
   case rel=>exact⟨_,(x6_2),eq_,H',⟨by have:=HJ9.out;have:=HK2.out;have:=HJ60.out;first|omega|exact Nat.le_refl _⟩,⟨kdN_ HO_10.out⟩,⟨kdN_ HO_45.out⟩,⟨kdV_ HO_663003.out⟩,⟨kdN_ HO_666001.out⟩,(bk_ BK662),(bk_ BK663),(bk_ BK665),(bl_ HB)⟩
  clear HC69
  obtain⟨kq,x6_68,rfl,HA,HJ68,HO_10,HO_45,HO_663003,HO_666001,BK662,BK663,BK665,HB⟩:=hcut
  cases kq with
  | zero=>exact absurd HA.out (by simp[florinlaw06_Made_Write.j3])
  | succ kj68=>?_
  have H:=HA.out
  clear HA
  simp only[florinlaw06_Made_Write.j3] at H
  obtain⟨y695,hy695⟩:∃y_:List (S53),y_=(([]:List (S53))):=⟨_,rfl⟩
  replace H:(florinlaw06_Made_Write.l1 kj68 t666 x6_68 y695 x7_9 (x7_9.length:Int) x47_2 x10_60 (x10_60.length:Int) 0 a0_0 a0_1 a0_2 l0_3 t664 x666001_2 (⟨#[]⟩:ByteArray))=some (r1,r2,r3,r4):=by first|(rw[hy695];with_reducible exact H)|(have H2_:=(Option.bind_some _ _).symm.trans H;rw[hy695];with_reducible exact H2_)|(have H2_:=(Option.bind_some _ _).symm.trans H;with_reducible exact H2_)|with_reducible exact H|(rw[hy695];exact H)|exact H
  have Ny695:=am_ hy695
  clear hy695
  have H':=am_ H
  clear H
  go_wp2_with (first|((with_reducible refine gate_dst (N:=69) rfl ?_);refine Kd.N_lit k53 _ 53 ?hg (N':=69) ?hd (xs:=([]:List (S53))) (inner:=[]) (ok:=(fun k_=>(P0_3_ k_∨w.heap.size≤k_)∧some k_≠(u10:Value).ownBlock∧some k_≠(.slice (some ad685) x7_9.length co56:Value).ownBlock∧some k_≠(u666001:Value).ownBlock∧k_≠gb662∧k_≠gb663∧k_≠gb665)) (okp:=(fun k_=>(P0_3_ k_∨w.heap.size≤k_)∧some k_≠(u10:Value).ownBlock∧some k_≠(.slice (some ad685) x7_9.length co56:Value).ownBlock∧some k_≠(u666001:Value).ownBlock∧k_≠gb662∧k_≠gb663∧k_≠gb665)) ?hr ?hp (fun _ hk=>hk) ((show ∀k_,wc.heap.size≤k_→(fun k_=>(P0_3_ k_∨w.heap.size≤k_)∧some k_≠(u10:Value).ownBlock∧some k_≠(.slice (some ad685) x7_9.length co56:Value).ownBlock∧some k_≠(u666001:Value).ownBlock∧k_≠gb662∧k_≠gb663∧k_≠gb665) k_ from fun k_ hk=>⟨(.inr (Nat.le_trans (below_size (bl_ HB).out) hk)),Kd.fresh' (Kd.N_lt (krN_ HO_10)) k_ hk,Kd.fresh' (Kd.N_lt (krN_ HO_45)) k_ hk,Kd.fresh' (Kd.N_lt (krN_ HO_666001)) k_ hk,Kd.freshB (bk_ BK662).out k_ hk,Kd.freshB (bk_ BK663).out k_ hk,Kd.freshB (bk_ BK665).out k_ hk⟩) _ (Nat.le_refl _)) (Below.refl _ _) (Nat.le_refl _) (by simp) ?_;(case hd=>rfl);(case hg=>rfl);(case hr=>first|(go_simp;done)|(go_simp;rfl));(case hp=>exact(Reps.none _ _));intro v696 w74 ho75 hb hg_ hnew_;clear hg_ hnew_;(first|rw[← Ny695.out] at ho75|(simp only[Int.reduceToNat] at ho75;rw[← Ny695.out] at ho75));have HO697:=am_ (Kd.N_lower ho75 (below_size (bl_ HB).out));replace HO_10:=am_ (Kd.N_elder' (krN_ HO_10) (Kd.N_base ho75) hb);replace HO_45:=am_ (Kd.N_elder' (krN_ HO_45) (Kd.N_base ho75) hb);replace HO_663003:=am_ (Kd.V_elder' (krV_ HO_663003) (Kd.N_base ho75) hb);replace HO_666001:=am_ (Kd.N_elder' (krN_ HO_666001) (Kd.N_base ho75) hb);replace BK662:=bb_ BK662 hb;replace BK663:=bb_ BK663 hb;replace BK665:=bb_ BK665 hb;replace HB:=am_ (below_step (bl_ HB).out hb);clear hb ho75;obtain⟨Ao76,co76,eo76⟩:=Kd.N_slice HO_10.out;subst eo76))
  go_loopg [6,11,72] kj68 (fun kq v6 v11 v72 w'=>∃(x6_5:ByteArray) (x11_5:List (S53)) (x72_5:Int),v6= .string x6_5∧v72= .int .i64 x72_5∧Aside0 (florinlaw06_Made_Write.l1 kq t666 x6_5 x11_5 x7_9 (x7_9.length:Int) x47_2 x10_60 (x10_60.length:Int) x72_5 a0_0 a0_1 a0_2 l0_3 t664 x666001_2 (⟨#[]⟩:ByteArray)=some (r1,r2,r3,r4))∧Aside0 (kq≤kj68)∧Aside0 (Kd.N k53 53 w' w.heap.size (fun k_=>(P0_3_ k_∨w.heap.size≤k_)∧some k_≠((.slice (some ad685) x7_9.length co56):Value).ownBlock∧some k_≠((.slice Ao76 x10_60.length co76):Value).ownBlock∧some k_≠(u666001:Value).ownBlock∧k_≠gb662∧k_≠gb663∧k_≠gb665) v11 x11_5)∧Aside0 (Kd.N (Kd.slice 46 k46) 47 w' w.heap.size (fun k_=>(P0_3_ k_∨w.heap.size≤k_)∧some k_≠(v11:Value).ownBlock∧some k_≠((.slice Ao76 x10_60.length co76):Value).ownBlock∧some k_≠(u666001:Value).ownBlock∧k_≠gb662∧k_≠gb663∧k_≠gb665) (.slice (some ad685) x7_9.length co56) x7_9)∧Aside0 (Kd.N k46 46 w' w.heap.size (fun k_=>(P0_3_ k_∨w.heap.size≤k_)∧some k_≠(v11:Value).ownBlock∧some k_≠((.slice (some ad685) x7_9.length co56):Value).ownBlock∧some k_≠(u666001:Value).ownBlock∧k_≠gb662∧k_≠gb663∧k_≠gb665) (.slice Ao76 x10_60.length co76) x10_60)∧Aside0 (Kd.V (Kd.slice 46 k46) 47 w' w.heap.size (fun k_=>(P0_3_ k_∨w.heap.size≤k_)∧some k_≠(v11:Value).ownBlock∧some k_≠((.slice (some ad685) x7_9.length co56):Value).ownBlock∧some k_≠((.slice Ao76 x10_60.length co76):Value).ownBlock∧some k_≠(u666001:Value).ownBlock∧k_≠gb662∧k_≠gb663∧k_≠gb665) (.slice A0_3 l0_3.length c0_3) l0_3)∧Aside0 (Kd.N (Kd.slice 53 k53) 54 w' w.heap.size (fun k_=>(P0_3_ k_∨w.heap.size≤k_)∧some k_≠(v11:Value).ownBlock∧some k_≠((.slice (some ad685) x7_9.length co56):Value).ownBlock∧some k_≠((.slice Ao76 x10_60.length co76):Value).ownBlock∧k_≠gb662∧k_≠gb663∧k_≠gb665) u666001 x666001_2)∧Aside0 (w'.heap[gb662]? = some (.cells #[.int .i64 a0_0,.int .i64 a0_1,.int .i64 a0_2,(.slice A0_3 l0_3.length c0_3)] 50 (0,0)))∧Aside0 (w'.heap[gb663]? = some (.cells #[.int .i64 0,(.slice none 0 0),.string (⟨#[]⟩:ByteArray)] 41 (0,0)))∧Aside0 (w'.heap[gb665]? = some (.cells #[.int .i64 t664,u666001,.string (⟨#[]⟩:ByteArray)] 41 (0,0)))∧Aside0 (Below w.heap.size w w'))
  case atStart=>exact⟨(x6_68),(y695),(0),eq_,eq_,H',⟨Nat.le_refl _⟩,⟨kdN_ (Kd.N_mono HO697.out (fun _ hk=>⟨hk.1,⟨hk.2.2.1,⟨hk.2.1,⟨hk.2.2.2.1,⟨hk.2.2.2.2.1,⟨hk.2.2.2.2.2.1,hk.2.2.2.2.2.2⟩⟩⟩⟩⟩⟩))⟩,⟨kdN_ (Kd.N_mono HO_45.out (fun _ hk=>⟨hk.1.1,⟨hk.2,⟨hk.1.2.1,⟨hk.1.2.2.1,⟨hk.1.2.2.2.1,⟨hk.1.2.2.2.2.1,hk.1.2.2.2.2.2⟩⟩⟩⟩⟩⟩))⟩,⟨kdN_ (Kd.N_mono HO_10.out (fun _ hk=>⟨hk.1.1,⟨hk.2,⟨hk.1.2.1,⟨hk.1.2.2.1,⟨hk.1.2.2.2.1,⟨hk.1.2.2.2.2.1,hk.1.2.2.2.2.2⟩⟩⟩⟩⟩⟩))⟩,⟨kdV_ (Kd.V_mono HO_663003.out (fun _ hk=>⟨hk.1.1,⟨hk.2,⟨hk.1.2.2.1,⟨hk.1.2.1,⟨hk.1.2.2.2.1,⟨hk.1.2.2.2.2.1,⟨hk.1.2.2.2.2.2.1,hk.1.2.2.2.2.2.2⟩⟩⟩⟩⟩⟩⟩))⟩,⟨kdN_ (Kd.N_mono HO_666001.out (fun _ hk=>⟨hk.1.1,⟨hk.2,⟨hk.1.2.2.1,⟨hk.1.2.1,⟨hk.1.2.2.2.1,⟨hk.1.2.2.2.2.1,hk.1.2.2.2.2.2⟩⟩⟩⟩⟩⟩))⟩,(bk_ BK662),(bk_ BK663),(bk_ BK665),(bl_ HB)⟩
  clear H'
  obtain⟨x6_5,x11_5,x72_5,rfl,rfl,HA,HK5,HO_11,HO_45,HO_70,HO_663003,HO_666001,BK662,BK663,BK665,HB⟩:=hrel
  cases gk with
  | zero=>exact absurd HA.out (by simp[florinlaw06_Made_Write.l1])
  | succ k5=>?_
  have H:=HA.out
  clear HA
  simp only[florinlaw06_Made_Write.l1] at H
  by_cases c77:x72_5<(x10_60.length:Int)
  ·rw[if_pos c77] at H
   have c77b0:=decide_eq_true c77
   clear c77
   replace H:=ifn_ H
   obtain⟨c78,H⟩:=H
   have c78b0:decide (0≤x72_5)=true:=decide_eq_true c78
   clear c78
   replace H:=ifn_ H
   obtain⟨c79,H⟩:=H
   have c79b0:decide (x72_5<(x10_60.length:Int))=true:=decide_eq_true c79
   clear c79
   replace H:=Option.bind_eq_some_iff.mp H
   obtain⟨⟨t700,t701,t702,t703,t706⟩,A800,H⟩:=H
   dsimp only at H
   have A80:=am_ A800
   clear A800
   replace H:=ifn_ H
   obtain⟨c81,H⟩:=H
   have LMc81:=am_ c81
   clear c81
   obtain⟨y708,hy708⟩:∃y_:List (S53),y_=(x11_5++[(⟨t700,t701,t702,t703⟩:S53)]):=⟨_,rfl⟩
   replace H:(if x72_5>0 then (if x6_5.size+4≤9223372036854775807 then (if (x6_5++(⟨#[32,97,110,100]⟩:ByteArray)).size+1≤9223372036854775807 then (if ((x6_5++(⟨#[32,97,110,100]⟩:ByteArray))++(⟨#[32]⟩:ByteArray)).size+t706.size≤9223372036854775807 then (florinlaw06_Made_Write.l1 k5 t666 (((x6_5++(⟨#[32,97,110,100]⟩:ByteArray))++(⟨#[32]⟩:ByteArray))++t706) y708 x7_9 (x7_9.length:Int) x47_2 x10_60 (x10_60.length:Int) (wrap64 (x72_5+1)) a0_0 a0_1 a0_2 l0_3 t664 x666001_2 (⟨#[]⟩:ByteArray)) else (none)) else (none)) else (none)) else (if x6_5.size+t706.size≤9223372036854775807 then (florinlaw06_Made_Write.l1 k5 t666 (x6_5++t706) y708 x7_9 (x7_9.length:Int) x47_2 x10_60 (x10_60.length:Int) (wrap64 (x72_5+1)) a0_0 a0_1 a0_2 l0_3 t664 x666001_2 (⟨#[]⟩:ByteArray)) else (none)))=some (r1,r2,r3,r4):=by first|(rw[hy708];with_reducible exact H)|(have H2_:=(Option.bind_some _ _).symm.trans H;rw[hy708];with_reducible exact H2_)|(have H2_:=(Option.bind_some _ _).symm.trans H;with_reducible exact H2_)|with_reducible exact H|(rw[hy708];exact H)|exact H
   have Ny708:=am_ hy708
   clear hy708
   by_cases c82:x72_5>0
   ·rw[if_pos c82] at H
    have c82b0:decide (0<x72_5)=true:=decide_eq_true c82
    clear c82
    replace H:=ifn_ H
    obtain⟨c83,H⟩:=H
    have c83b0:=eq_true c83
    have c83b1:decide (x6_5.size+4≤9223372036854775807)=true:=decide_eq_true c83
    try have c83b2:=eq_false (Nat.not_lt.2 c83)
    replace H:=ifn_ H
    obtain⟨c84,H⟩:=H
    have c84b0:=eq_true c84
    have c84b1:decide ((x6_5++(⟨#[32,97,110,100]⟩:ByteArray)).size+1≤9223372036854775807)=true:=decide_eq_true c84
    try (have c84b5:=c84b0;simp only[ByteArray.size_append,Int.natCast_add] at c84b5)
    try have c84b2:=eq_false (Nat.not_lt.2 c84)
    try have c84b3:(9223372036854775807<x6_5.size+4+1)=False:=eq_false (Nat.not_lt.2 (by have h_:=c84;simp only[ByteArray.size_append] at h_;exact h_))
    try have c84b4:(x6_5.size+4+1≤9223372036854775807)=True:=eq_true (by have h_:=c84;simp only[ByteArray.size_append] at h_;exact h_)
    replace H:=ifn_ H
    obtain⟨c85,H⟩:=H
    have c85b0:=eq_true c85
    have c85b1:decide (((x6_5++(⟨#[32,97,110,100]⟩:ByteArray))++(⟨#[32]⟩:ByteArray)).size+t706.size≤9223372036854775807)=true:=decide_eq_true c85
    try (have c85b5:=c85b0;simp only[ByteArray.size_append,Int.natCast_add] at c85b5)
    try have c85b2:=eq_false (Nat.not_lt.2 c85)
    try have c85b3:(9223372036854775807<x6_5.size+4+1+t706.size)=False:=eq_false (Nat.not_lt.2 (by have h_:=c85;simp only[ByteArray.size_append] at h_;exact h_))
    try have c85b4:(x6_5.size+4+1+t706.size≤9223372036854775807)=True:=eq_true (by have h_:=c85;simp only[ByteArray.size_append] at h_;exact h_)
    have H':=am_ H
    clear H
    have p698:0≤(x72_5:Int):=od_
    have q698:x72_5<(x10_60.length:Int):=od_
    obtain⟨ad698,A698_4,c698_4,e698,hx698_0,hx698_1,hx698_2,hx698_3,hx698_4,hl698_4,hi698_4⟩:=at_T46 (Kd.N_reads' HO_70.out).2.2 x72_5 p698 q698
    cases e698
    obtain⟨ce698,hce698,hMe698,hcc698⟩:=Kd.N_get HO_70.out z46 x72_5 p698 (by first|exact q698|exact od_|(have e_:=(Kd.N_reads' HO_70.out).1;omega))
    obtain⟨ua698_4,uc698_4,rfl,ul698_4,ge698_4⟩:=k46_openF hMe698
    have hv698_4:=hcc698 4 _ rfl
    rw[add_field _ _ 4 (by omega)] at hv698_4
    replace hv698_4:=Option.some.inj (hv698_4.symm.trans hx698_4)
    injection hv698_4 with hva_ hvn_ hvc_
    rw[hva_] at ge698_4
    rw[hvc_] at ul698_4
    have HL698_4:=am_ (show Kd.V k139 139 _ w.heap.size _ _ ((rd_T46 x10_60 x72_5).f4) from Kd.V_mk ul698_4 ge698_4)
    clear hva_ hvn_ hvc_ ge698_4 ul698_4
    clear hcc698 hce698
    have HR698_4:=am_ hi698_4
    have HC698_4:=am_ hl698_4
    clear hi698_4 hl698_4
    replace p698:=eq_true p698
    replace q698:=eq_true q698
    go_wp2_with (first|((with_reducible refine gate_dst (N:=13) rfl ?_);refine be_ 13 #[.int .i64 0,.int .i64 0,.int .i64 0,.bool false,.slice none 0 0] 46 ?_;intro gb699 hg w86 hbox hb;have BK699:=am_ (hbox);have GW699:=sz_ HB hg;have GE699:=sz_ HB hg;have NB662_699:=na_ BK662 hg;have NB699_662:=nb_ BK662 hg;have NB663_699:=na_ BK663 hg;have NB699_663:=nb_ BK663 hg;have NB665_699:=na_ BK665 hg;have NB699_665:=nb_ BK665 hg;replace HO_11:=am_ (Kd.N_below (Kd.N_elderB (krN_ HO_11) gb699 (Nat.le_of_eq hg.symm)) hb);replace HO_45:=am_ (Kd.N_below (Kd.N_elderB (krN_ HO_45) gb699 (Nat.le_of_eq hg.symm)) hb);replace HO_70:=am_ (Kd.N_below (Kd.N_elderB (krN_ HO_70) gb699 (Nat.le_of_eq hg.symm)) hb);replace HO_663003:=am_ (Kd.V_below (Kd.V_elderB (krV_ HO_663003) gb699 (Nat.le_of_eq hg.symm)) hb);replace HO_666001:=am_ (Kd.N_below (Kd.N_elderB (krN_ HO_666001) gb699 (Nat.le_of_eq hg.symm)) hb);replace HL698_4:=am_ (Kd.V_below (Kd.V_elderB (krV_ HL698_4) gb699 (Nat.le_of_eq hg.symm)) hb);replace BK662:=bb_ BK662 hb;replace BK663:=bb_ BK663 hb;replace BK665:=bb_ BK665 hb;replace HR698_4:=am_ (Kd.C_below (by repeat(first|(with_reducible exact HR698_4.out)|(with_reducible refine Kd.C_alloc ?_ _)|(with_reducible refine Kd.C_drewN ?_ _)|(with_reducible refine Kd.C_drew ?_)|exact HR698_4.out)) hb);replace HB:=am_ (below_step (bl_ HB).out hb);clear hb hbox hg;have hnb87:=NB699_662.out;have hnc87:=NB662_699.out;have hnb88:=NB699_663.out;have hnc88:=NB663_699.out;have hnb89:=NB699_665.out;have hnc89:=NB665_699.out;obtain⟨hcz90_0,hcz90_1,hcz90_2,hcz90_3,hcz90_4,hfz90_0,hfz90_1,hfz90_2,hfz90_3,hfz90_4⟩:=bo5_ BK699)|((with_reducible refine gate_callee (f:=50) rfl ?_);refine gl_ (some 79) Tryz.func50 #[.agg #[.int .i64 ((rd_T46 x10_60 x72_5).f0),.int .i64 ((rd_T46 x10_60 x72_5).f1),.int .i64 ((rd_T46 x10_60 x72_5).f2),.bool ((rd_T46 x10_60 x72_5).f3),.slice A698_4 ((rd_T46 x10_60 x72_5).f4).length c698_4]] ?_;(with_reducible refine(florinlaw06_Relation_relation.calls _ _ _ _ _ _ _ _ _ _ _ _ _ _ ?side1 ?side2 A80.out).mono ?_);(case side1=>repeat(first|exact((Kd.V_reads' (kfV_ gb699 HL698_4)).2.2)|(with_reducible refine Kd.C_alloc ?_ _)|(with_reducible refine Kd.C_drewN ?_ _)|(with_reducible refine Kd.C_drew ?_)));(case side2=>exact HC698_4.out);rintro e w91 ⟨v704,rfl,ho0,hb⟩;refine⟨_,rfl,?_⟩;have n0_:=am_ (Kd.N_elder' (kfN_ gb699 HO_11) (Kd.R_base ho0) hb);have n1_:=am_ (Kd.N_elder' (kfN_ gb699 HO_45) (Kd.R_base ho0) hb);have n2_:=am_ (Kd.N_elder' (kfN_ gb699 HO_70) (Kd.R_base ho0) hb);have n3_:=am_ (Kd.V_elder' (kfV_ gb699 HO_663003) (Kd.R_base ho0) hb);have n4_:=am_ (Kd.N_elder' (kfN_ gb699 HO_666001) (Kd.R_base ho0) hb);have n5_:=am_ (Kd.V_elder' (kfV_ gb699 HL698_4) (Kd.R_base ho0) hb);have n6_:=am_ (Kd.R_lower (Kd.R_newM (M:=fun k_=>(w.heap.size≤k_)) ho0 (below_size (bl_ HB).out) (fun k_ h_=>h_)) (below_size (bl_ HB).out));have n7_:=bz_ BK662 hb;have n8_:=bz_ BK663 hb;have n9_:=bz_ BK665 hb;have n10_:=am_ (Kd.C_below ((Kd.V_reads' (kfV_ gb699 HL698_4)).2.2) hb);have n11_:=am_ (blk_below (g:=gb699) (o:= .cells #[.int .i64 ((rd_T46 x10_60 x72_5).f0),.int .i64 ((rd_T46 x10_60 x72_5).f1),.int .i64 ((rd_T46 x10_60 x72_5).f2),.bool ((rd_T46 x10_60 x72_5).f3),.slice A698_4 ((rd_T46 x10_60 x72_5).f4).length c698_4] 46 (0,0)) ((bp_ BK699).out) hb);have n12_:=am_ (below_step (bl_ HB).out hb);clear HO_11;clear HO_45;clear HO_70;clear HO_663003;clear HO_666001;clear HL698_4;clear BK662;clear BK663;clear BK665;clear HR698_4;clear BK699;clear HB;revert n0_ n1_ n2_ n3_ n4_ n5_ n6_ n7_ n8_ n9_ n10_ n11_ n12_;intro HO_11 HO_45 HO_70 HO_663003 HO_666001 HL698_4 HO705 BK662 BK663 BK665 HR698_4 BK699 HB;(try clear hb);(try clear ho0))|((with_reducible refine gate_dst (N:=14) rfl ?_);refine be_ 14 #[.int .u8 0,.int .i64 0,.bool false,.slice none 0 0] 53 ?_;intro gb707 hg w92 hbox hb;have BK707:=am_ (hbox);have GW707:=sz_ HB hg;have GE707:=sz_ HB hg;have NB662_707:=na_ BK662 hg;have NB707_662:=nb_ BK662 hg;have NB663_707:=na_ BK663 hg;have NB707_663:=nb_ BK663 hg;have NB665_707:=na_ BK665 hg;have NB707_665:=nb_ BK665 hg;have NB699_707:=na_ BK699 hg;have NB707_699:=nb_ BK699 hg;replace HO_11:=am_ (Kd.N_below (Kd.N_elderB (krN_ HO_11) gb707 (Nat.le_of_eq hg.symm)) hb);replace HO_45:=am_ (Kd.N_below (Kd.N_elderB (krN_ HO_45) gb707 (Nat.le_of_eq hg.symm)) hb);replace HO_70:=am_ (Kd.N_below (Kd.N_elderB (krN_ HO_70) gb707 (Nat.le_of_eq hg.symm)) hb);replace HO_663003:=am_ (Kd.V_below (Kd.V_elderB (krV_ HO_663003) gb707 (Nat.le_of_eq hg.symm)) hb);replace HO_666001:=am_ (Kd.N_below (Kd.N_elderB (krN_ HO_666001) gb707 (Nat.le_of_eq hg.symm)) hb);replace HL698_4:=am_ (Kd.V_below (Kd.V_elderB (krV_ HL698_4) gb707 (Nat.le_of_eq hg.symm)) hb);replace HO705:=kb_ HO705 hb;replace BK662:=bb_ BK662 hb;replace BK663:=bb_ BK663 hb;replace BK665:=bb_ BK665 hb;replace HR698_4:=am_ (Kd.C_below (by repeat(first|(with_reducible exact HR698_4.out)|(with_reducible refine Kd.C_alloc ?_ _)|(with_reducible refine Kd.C_drewN ?_ _)|(with_reducible refine Kd.C_drew ?_)|exact HR698_4.out)) hb);replace BK699:=bb_ BK699 hb;replace HB:=am_ (below_step (bl_ HB).out hb);clear hb hbox hg;have hnb93:=NB707_662.out;have hnc93:=NB662_707.out;have hnb94:=NB707_663.out;have hnc94:=NB663_707.out;have hnb95:=NB707_665.out;have hnc95:=NB665_707.out;have hnb96:=NB707_699.out;have hnc96:=NB699_707.out;obtain⟨hcz97_0,hcz97_1,hcz97_2,hcz97_3,hfz97_0,hfz97_1,hfz97_2,hfz97_3⟩:=bo4_ BK707;obtain⟨Ao98,co98,eo98⟩:=Kd.R_slice HO705.out;subst eo98)|((with_reducible refine gate_store (t:=53) (p:=14) rfl ?_);refine store_event (t:=53) (p:=14) (v:=?vo_w99) (w1:=((((w92.setCell ⟨gb707,0,none⟩ (.int .u8 t700)).setCell ⟨gb707,1,none⟩ (.int .i64 t701)).setCell ⟨gb707,2,none⟩ (.bool t702)).setCell ⟨gb707,3,none⟩ (.slice Ao98 t703.length co98))) ?hg ?ho ?hn ?hr ?_;(case ho=>rfl);(case hg=>rfl);(case hn=>rfl);(case hr=>first|(go_simp;done)|(go_simp;rfl));intro w99 hw;have n0_:Aside0 (Kd.N k53 53 w99 w.heap.size (fun k_=>(P0_3_ k_∨w.heap.size≤k_)∧some k_≠(.slice (some ad685) x7_9.length co56:Value).ownBlock∧some k_≠(.slice (some ad698) x10_60.length co76:Value).ownBlock∧some k_≠(u666001:Value).ownBlock∧some k_≠(.slice Ao98 t703.length co98:Value).ownBlock∧k_≠gb662∧k_≠gb663∧k_≠gb665∧k_≠gb699∧k_≠gb707) u11 x11_5):=⟨(by rw[hw];exact(kdN_ (Kd.N_mono (Kd.N_far (Kd.N_far (Kd.N_far (Kd.N_far (Kd.N_mono HO_11.out (fun k_ hk=>(⟨hk,hk.2⟩:_∧k_≠gb707))) (fun _ hk=>hk.2) _) (fun _ hk=>hk.2) _) (fun _ hk=>hk.2) _) (fun _ hk=>hk.2) _) (fun _ hk=>⟨hk.1.1.1.1.1,⟨hk.1.1.1.1.2.1,⟨hk.1.1.1.1.2.2.1,⟨hk.1.1.1.1.2.2.2.1,⟨hk.1.1.2,⟨hk.1.1.1.1.2.2.2.2.1,⟨hk.1.1.1.1.2.2.2.2.2.1,⟨hk.1.1.1.1.2.2.2.2.2.2,⟨hk.1.1.1.2,hk.1.2⟩⟩⟩⟩⟩⟩⟩⟩⟩))))⟩;have n1_:Aside0 (Kd.N (Kd.slice 46 k46) 47 w99 w.heap.size (fun k_=>(P0_3_ k_∨w.heap.size≤k_)∧some k_≠(u11:Value).ownBlock∧some k_≠(.slice (some ad698) x10_60.length co76:Value).ownBlock∧some k_≠(u666001:Value).ownBlock∧some k_≠(.slice Ao98 t703.length co98:Value).ownBlock∧k_≠gb662∧k_≠gb663∧k_≠gb665∧k_≠gb699∧k_≠gb707) (.slice (some ad685) x7_9.length co56) x7_9):=⟨(by rw[hw];exact(kdN_ (Kd.N_mono (Kd.N_far (Kd.N_far (Kd.N_far (Kd.N_far (Kd.N_mono HO_45.out (fun k_ hk=>(⟨hk,hk.2⟩:_∧k_≠gb707))) (fun _ hk=>hk.2) _) (fun _ hk=>hk.2) _) (fun _ hk=>hk.2) _) (fun _ hk=>hk.2) _) (fun _ hk=>⟨hk.1.1.1.1.1,⟨hk.1.1.1.1.2.1,⟨hk.1.1.1.1.2.2.1,⟨hk.1.1.1.1.2.2.2.1,⟨hk.1.1.2,⟨hk.1.1.1.1.2.2.2.2.1,⟨hk.1.1.1.1.2.2.2.2.2.1,⟨hk.1.1.1.1.2.2.2.2.2.2,⟨hk.1.1.1.2,hk.1.2⟩⟩⟩⟩⟩⟩⟩⟩⟩))))⟩;have n2_:Aside0 (Kd.N k46 46 w99 w.heap.size (fun k_=>(P0_3_ k_∨w.heap.size≤k_)∧some k_≠(u11:Value).ownBlock∧some k_≠(.slice (some ad685) x7_9.length co56:Value).ownBlock∧some k_≠(u666001:Value).ownBlock∧some k_≠(.slice Ao98 t703.length co98:Value).ownBlock∧k_≠gb662∧k_≠gb663∧k_≠gb665∧k_≠gb699∧k_≠gb707) (.slice (some ad698) x10_60.length co76) x10_60):=⟨(by rw[hw];exact(kdN_ (Kd.N_mono (Kd.N_far (Kd.N_far (Kd.N_far (Kd.N_far (Kd.N_mono HO_70.out (fun k_ hk=>(⟨hk,hk.2⟩:_∧k_≠gb707))) (fun _ hk=>hk.2) _) (fun _ hk=>hk.2) _) (fun _ hk=>hk.2) _) (fun _ hk=>hk.2) _) (fun _ hk=>⟨hk.1.1.1.1.1,⟨hk.1.1.1.1.2.1,⟨hk.1.1.1.1.2.2.1,⟨hk.1.1.1.1.2.2.2.1,⟨hk.1.1.2,⟨hk.1.1.1.1.2.2.2.2.1,⟨hk.1.1.1.1.2.2.2.2.2.1,⟨hk.1.1.1.1.2.2.2.2.2.2,⟨hk.1.1.1.2,hk.1.2⟩⟩⟩⟩⟩⟩⟩⟩⟩))))⟩;have n3_:Aside0 (Kd.V (Kd.slice 46 k46) 47 w99 w.heap.size (fun k_=>(P0_3_ k_∨w.heap.size≤k_)∧some k_≠(u11:Value).ownBlock∧some k_≠(.slice (some ad685) x7_9.length co56:Value).ownBlock∧some k_≠(.slice (some ad698) x10_60.length co76:Value).ownBlock∧some k_≠(u666001:Value).ownBlock∧some k_≠(.slice Ao98 t703.length co98:Value).ownBlock∧k_≠gb662∧k_≠gb663∧k_≠gb665∧k_≠gb699∧k_≠gb707) (.slice A0_3 l0_3.length c0_3) l0_3):=⟨(by rw[hw];exact(kdV_ (Kd.V_mono (Kd.V_far (Kd.V_far (Kd.V_far (Kd.V_far (Kd.V_mono HO_663003.out (fun k_ hk=>(⟨hk,hk.2⟩:_∧k_≠gb707))) (fun _ hk=>hk.2) _) (fun _ hk=>hk.2) _) (fun _ hk=>hk.2) _) (fun _ hk=>hk.2) _) (fun _ hk=>⟨hk.1.1.1.1.1,⟨hk.1.1.1.1.2.1,⟨hk.1.1.1.1.2.2.1,⟨hk.1.1.1.1.2.2.2.1,⟨hk.1.1.1.1.2.2.2.2.1,⟨hk.1.1.2,⟨hk.1.1.1.1.2.2.2.2.2.1,⟨hk.1.1.1.1.2.2.2.2.2.2.1,⟨hk.1.1.1.1.2.2.2.2.2.2.2,⟨hk.1.1.1.2,hk.1.2⟩⟩⟩⟩⟩⟩⟩⟩⟩⟩))))⟩;have n4_:Aside0 (Kd.N (Kd.slice 53 k53) 54 w99 w.heap.size (fun k_=>(P0_3_ k_∨w.heap.size≤k_)∧some k_≠(u11:Value).ownBlock∧some k_≠(.slice (some ad685) x7_9.length co56:Value).ownBlock∧some k_≠(.slice (some ad698) x10_60.length co76:Value).ownBlock∧some k_≠(.slice Ao98 t703.length co98:Value).ownBlock∧k_≠gb662∧k_≠gb663∧k_≠gb665∧k_≠gb699∧k_≠gb707) u666001 x666001_2):=⟨(by rw[hw];exact(kdN_ (Kd.N_mono (Kd.N_far (Kd.N_far (Kd.N_far (Kd.N_far (Kd.N_mono HO_666001.out (fun k_ hk=>(⟨hk,hk.2⟩:_∧k_≠gb707))) (fun _ hk=>hk.2) _) (fun _ hk=>hk.2) _) (fun _ hk=>hk.2) _) (fun _ hk=>hk.2) _) (fun _ hk=>⟨hk.1.1.1.1.1,⟨hk.1.1.1.1.2.1,⟨hk.1.1.1.1.2.2.1,⟨hk.1.1.1.1.2.2.2.1,⟨hk.1.1.2,⟨hk.1.1.1.1.2.2.2.2.1,⟨hk.1.1.1.1.2.2.2.2.2.1,⟨hk.1.1.1.1.2.2.2.2.2.2,⟨hk.1.1.1.2,hk.1.2⟩⟩⟩⟩⟩⟩⟩⟩⟩))))⟩;have n5_:Aside0 (Kd.V k139 139 w99 w.heap.size (fun k_=>(P0_3_ k_∨w.heap.size≤k_)∧some k_≠(u11:Value).ownBlock∧some k_≠(.slice (some ad685) x7_9.length co56:Value).ownBlock∧some k_≠(.slice (some ad698) x10_60.length co76:Value).ownBlock∧some k_≠(u666001:Value).ownBlock∧some k_≠(.slice Ao98 t703.length co98:Value).ownBlock∧k_≠gb662∧k_≠gb663∧k_≠gb665∧k_≠gb699∧k_≠gb707) (.slice A698_4 ((rd_T46 x10_60 x72_5).f4).length c698_4) ((rd_T46 x10_60 x72_5).f4)):=⟨(by rw[hw];exact(kdV_ (Kd.V_mono (Kd.V_far (Kd.V_far (Kd.V_far (Kd.V_far (Kd.V_mono HL698_4.out (fun k_ hk=>(⟨hk,hk.2⟩:_∧k_≠gb707))) (fun _ hk=>hk.2) _) (fun _ hk=>hk.2) _) (fun _ hk=>hk.2) _) (fun _ hk=>hk.2) _) (fun _ hk=>⟨hk.1.1.1.1.1.1,⟨hk.1.1.1.1.1.2.1,⟨hk.1.1.1.1.1.2.2.1,⟨hk.1.1.1.1.2,⟨hk.1.1.1.1.1.2.2.2.1,⟨hk.1.1.2,⟨hk.1.1.1.1.1.2.2.2.2.1,⟨hk.1.1.1.1.1.2.2.2.2.2.1,⟨hk.1.1.1.1.1.2.2.2.2.2.2,⟨hk.1.1.1.2,hk.1.2⟩⟩⟩⟩⟩⟩⟩⟩⟩⟩))))⟩;have n6_:Aside0 (Kd.R k57 57 w99 w.heap.size (fun k_=>(w.heap.size≤k_)) (.slice Ao98 t703.length co98) t703):=⟨(by rw[hw];exact(kdR_ (Kd.R_mono (Kd.R_far (Kd.R_far (Kd.R_far (Kd.R_far (Kd.R_types HO705.out BK707.out (by decide)) (fun _ hk=>hk.2) _) (fun _ hk=>hk.2) _) (fun _ hk=>hk.2) _) (fun _ hk=>hk.2) _) (fun _ hk=>hk.1.1))))⟩;have n7_:Aside0 (w99.heap[gb662]? = some (.cells #[.int .i64 a0_0,.int .i64 a0_1,.int .i64 a0_2,.slice A0_3 l0_3.length c0_3] 50 (0,0))):=⟨(by rw[hw];exact((bf_ BK662).out))⟩;have n8_:Aside0 (w99.heap[gb663]? = some (.cells #[.int .i64 0,.slice none 0 0,.string (⟨#[]⟩:ByteArray)] 41 (0,0))):=⟨(by rw[hw];exact((bf_ BK663).out))⟩;have n9_:Aside0 (w99.heap[gb665]? = some (.cells #[.int .i64 t664,u666001,.string (⟨#[]⟩:ByteArray)] 41 (0,0))):=⟨(by rw[hw];exact((bf_ BK665).out))⟩;have n10_:Aside0 (w99.heap[gb699]? = some (.cells #[.int .i64 ((rd_T46 x10_60 x72_5).f0),.int .i64 ((rd_T46 x10_60 x72_5).f1),.int .i64 ((rd_T46 x10_60 x72_5).f2),.bool ((rd_T46 x10_60 x72_5).f3),.slice A698_4 ((rd_T46 x10_60 x72_5).f4).length c698_4] 46 (0,0))):=⟨(by rw[hw];exact((bf_ BK699).out))⟩;have n11_:Aside0 (w99.heap[gb707]? = some (.cells #[.int .u8 t700,.int .i64 t701,.bool t702,.slice Ao98 t703.length co98] 53 (0,0))):=⟨(by rw[hw];exact((bp_ BK707).out))⟩;have n12_:Aside0 (Below w.heap.size w w99):=⟨(by rw[hw];exact(bl_ HB).out)⟩;clear hw;clear HO_11;clear HO_45;clear HO_70;clear HO_663003;clear HO_666001;clear HL698_4;clear HO705;clear BK662;clear BK663;clear BK665;clear BK699;clear BK707;clear HB;revert n0_ n1_ n2_ n3_ n4_ n5_ n6_ n7_ n8_ n9_ n10_ n11_ n12_;intro HO_11 HO_45 HO_70 HO_663003 HO_666001 HL698_4 HO705 BK662 BK663 BK665 BK699 BK707 HB;obtain⟨hcz100_0,hcz100_1,hcz100_2,hcz100_3,hfz100_0,hfz100_1,hfz100_2,hfz100_3⟩:=bo4_ BK707)|((with_reducible refine gate_builtin (b:= .append) (xs:= #[.tmp 82,.tmp 84]) rfl ?_);at_builtin;refine Kd.N_append k53 (w0:=w) w.heap.size rfl (.tmp 82) (.tmp 84) 54 53 (.agg #[(.int .u8 0),(.int .i64 0),(.bool false),(.slice none 0 0)]) 48 rfl Tryz.underlying54 info53 rfl (by decide) (by omega) u11 x11_5 (⟨t700,t701,t702,t703⟩:S53) [.int .u8 t700,.int .i64 t701,.bool t702,.slice Ao98 t703.length co98] (fun k_=>(P0_3_ k_∨w.heap.size≤k_)∧some k_≠(.slice (some ad685) x7_9.length co56:Value).ownBlock∧some k_≠(.slice (some ad698) x10_60.length co76:Value).ownBlock∧some k_≠(u666001:Value).ownBlock∧k_≠gb662∧k_≠gb663∧k_≠gb665∧k_≠gb699∧k_≠gb707) (fun k_=>((fun k_=>(P0_3_ k_∨w.heap.size≤k_)∧some k_≠(.slice (some ad685) x7_9.length co56:Value).ownBlock∧some k_≠(.slice (some ad698) x10_60.length co76:Value).ownBlock∧some k_≠(u666001:Value).ownBlock∧k_≠gb662∧k_≠gb663∧k_≠gb665∧k_≠gb699∧k_≠gb707)) k_∧some k_≠(u11:Value).ownBlock) rfl rfl ?aP (fun _ hk=>hk) ?aF ?aO ?aB ?aS ?aL ?_;(case aP=>exact(k53_mkF _ _ (⟨t700,t701,t702,t703⟩:S53) (Kd.R_reads' (Kd.R_mono (ok':=(fun k_=>((fun k_=>(P0_3_ k_∨w.heap.size≤k_)∧some k_≠(.slice (some ad685) x7_9.length co56:Value).ownBlock∧some k_≠(.slice (some ad698) x10_60.length co76:Value).ownBlock∧some k_≠(u666001:Value).ownBlock∧k_≠gb662∧k_≠gb663∧k_≠gb665∧k_≠gb699∧k_≠gb707)) k_∧some k_≠(u11:Value).ownBlock)) (Kd.R_types (Kd.R_types (Kd.R_types (Kd.R_types (Kd.R_types (Kd.R_apart' (Kd.R_apart' (Kd.R_apart' (Kd.R_apart' (HO705.out) (Kd.N_typed HO_45.out) (by decide)) (Kd.N_typed HO_70.out) (by decide)) (Kd.N_typed HO_666001.out) (by decide)) (Kd.N_typed HO_11.out) (by decide)) BK662.out (by decide)) BK663.out (by decide)) BK665.out (by decide)) BK699.out (by decide)) BK707.out (by decide)) (fun k_ hk=>⟨⟨(.inr (hk.1.1.1.1.1.1.1.1.1)),⟨hk.1.1.1.1.1.1.1.1.2,⟨hk.1.1.1.1.1.1.1.2,⟨hk.1.1.1.1.1.1.2,⟨hk.1.1.1.1.2,⟨hk.1.1.1.2,⟨hk.1.1.2,⟨hk.1.2,hk.2⟩⟩⟩⟩⟩⟩⟩⟩,hk.1.1.1.1.1.2⟩))).2.1 (Kd.R_F (Kd.R_mono (ok':=(fun k_=>((fun k_=>(P0_3_ k_∨w.heap.size≤k_)∧some k_≠(.slice (some ad685) x7_9.length co56:Value).ownBlock∧some k_≠(.slice (some ad698) x10_60.length co76:Value).ownBlock∧some k_≠(u666001:Value).ownBlock∧k_≠gb662∧k_≠gb663∧k_≠gb665∧k_≠gb699∧k_≠gb707)) k_∧some k_≠(u11:Value).ownBlock)) (Kd.R_types (Kd.R_types (Kd.R_types (Kd.R_types (Kd.R_types (Kd.R_apart' (Kd.R_apart' (Kd.R_apart' (Kd.R_apart' (HO705.out) (Kd.N_typed HO_45.out) (by decide)) (Kd.N_typed HO_70.out) (by decide)) (Kd.N_typed HO_666001.out) (by decide)) (Kd.N_typed HO_11.out) (by decide)) BK662.out (by decide)) BK663.out (by decide)) BK665.out (by decide)) BK699.out (by decide)) BK707.out (by decide)) (fun k_ hk=>⟨⟨(.inr (hk.1.1.1.1.1.1.1.1.1)),⟨hk.1.1.1.1.1.1.1.1.2,⟨hk.1.1.1.1.1.1.1.2,⟨hk.1.1.1.1.1.1.2,⟨hk.1.1.1.1.2,⟨hk.1.1.1.2,⟨hk.1.1.2,⟨hk.1.2,hk.2⟩⟩⟩⟩⟩⟩⟩⟩,hk.1.1.1.1.1.2⟩)))));(case aB=>exact(bl_ HB).out);(case aF=>exact(fun k_ hk=>⟨(.inr (Nat.le_trans (below_size (bl_ HB).out) hk)),Kd.fresh' (Kd.N_lt (krN_ HO_45)) k_ hk,Kd.fresh' (Kd.N_lt (krN_ HO_70)) k_ hk,Kd.fresh' (Kd.N_lt (krN_ HO_666001)) k_ hk,Kd.freshB (bk_ BK662).out k_ hk,Kd.freshB (bk_ BK663).out k_ hk,Kd.freshB (bk_ BK665).out k_ hk,Kd.freshB (bk_ BK699).out k_ hk,Kd.freshB (bk_ BK707).out k_ hk⟩));(case aO=>exact(kdN_ (Kd.N_mono HO_11.out (fun _ hk=>⟨hk.1,⟨hk.2.1,⟨hk.2.2.1,⟨hk.2.2.2.1,⟨hk.2.2.2.2.2.1,⟨hk.2.2.2.2.2.2.1,⟨hk.2.2.2.2.2.2.2.1,⟨hk.2.2.2.2.2.2.2.2.1,hk.2.2.2.2.2.2.2.2.2⟩⟩⟩⟩⟩⟩⟩⟩))));(case aS=>exact(below_size (bl_ HB).out));(case aL=>have:=LMc81.out;omega);intro v709 w101 ho hb hg hat;rw[← Ny708.out] at ho;have n0_:=am_ (Kd.N_afterv (ok:=(fun k_=>(P0_3_ k_∨w.heap.size≤k_)∧some k_≠(.slice (some ad698) x10_60.length co76:Value).ownBlock∧some k_≠(u666001:Value).ownBlock∧some k_≠(.slice Ao98 t703.length co98:Value).ownBlock∧k_≠gb662∧k_≠gb663∧k_≠gb665∧k_≠gb699∧k_≠gb707)) (kdN_ (Kd.N_mono HO_45.out (fun _ hk=>⟨⟨hk.1,⟨hk.2.2.1,⟨hk.2.2.2.1,⟨hk.2.2.2.2.1,⟨hk.2.2.2.2.2.1,⟨hk.2.2.2.2.2.2.1,⟨hk.2.2.2.2.2.2.2.1,⟨hk.2.2.2.2.2.2.2.2.1,hk.2.2.2.2.2.2.2.2.2⟩⟩⟩⟩⟩⟩⟩⟩,hk.2.1⟩))) hg hat);have n1_:=am_ (Kd.N_afterv (ok:=(fun k_=>(P0_3_ k_∨w.heap.size≤k_)∧some k_≠(.slice (some ad685) x7_9.length co56:Value).ownBlock∧some k_≠(u666001:Value).ownBlock∧some k_≠(.slice Ao98 t703.length co98:Value).ownBlock∧k_≠gb662∧k_≠gb663∧k_≠gb665∧k_≠gb699∧k_≠gb707)) (kdN_ (Kd.N_mono HO_70.out (fun _ hk=>⟨⟨hk.1,⟨hk.2.2.1,⟨hk.2.2.2.1,⟨hk.2.2.2.2.1,⟨hk.2.2.2.2.2.1,⟨hk.2.2.2.2.2.2.1,⟨hk.2.2.2.2.2.2.2.1,⟨hk.2.2.2.2.2.2.2.2.1,hk.2.2.2.2.2.2.2.2.2⟩⟩⟩⟩⟩⟩⟩⟩,hk.2.1⟩))) hg hat);have n2_:=am_ (Kd.V_afterv (ok:=(fun k_=>(P0_3_ k_∨w.heap.size≤k_)∧some k_≠(.slice (some ad685) x7_9.length co56:Value).ownBlock∧some k_≠(.slice (some ad698) x10_60.length co76:Value).ownBlock∧some k_≠(u666001:Value).ownBlock∧some k_≠(.slice Ao98 t703.length co98:Value).ownBlock∧k_≠gb662∧k_≠gb663∧k_≠gb665∧k_≠gb699∧k_≠gb707)) (kdV_ (Kd.V_mono HO_663003.out (fun _ hk=>⟨⟨hk.1,⟨hk.2.2.1,⟨hk.2.2.2.1,⟨hk.2.2.2.2.1,⟨hk.2.2.2.2.2.1,⟨hk.2.2.2.2.2.2.1,⟨hk.2.2.2.2.2.2.2.1,⟨hk.2.2.2.2.2.2.2.2.1,⟨hk.2.2.2.2.2.2.2.2.2.1,hk.2.2.2.2.2.2.2.2.2.2⟩⟩⟩⟩⟩⟩⟩⟩⟩,hk.2.1⟩))) hg hat);have n3_:=am_ (Kd.N_afterv (ok:=(fun k_=>(P0_3_ k_∨w.heap.size≤k_)∧some k_≠(.slice (some ad685) x7_9.length co56:Value).ownBlock∧some k_≠(.slice (some ad698) x10_60.length co76:Value).ownBlock∧some k_≠(.slice Ao98 t703.length co98:Value).ownBlock∧k_≠gb662∧k_≠gb663∧k_≠gb665∧k_≠gb699∧k_≠gb707)) (kdN_ (Kd.N_mono HO_666001.out (fun _ hk=>⟨⟨hk.1,⟨hk.2.2.1,⟨hk.2.2.2.1,⟨hk.2.2.2.2.1,⟨hk.2.2.2.2.2.1,⟨hk.2.2.2.2.2.2.1,⟨hk.2.2.2.2.2.2.2.1,⟨hk.2.2.2.2.2.2.2.2.1,hk.2.2.2.2.2.2.2.2.2⟩⟩⟩⟩⟩⟩⟩⟩,hk.2.1⟩))) hg hat);have n4_:=am_ (blk_grown (bk_ BK662).out hg (Kd.N_ne HO_11.out BK662.out (by decide)));have n5_:=am_ (blk_grown (bk_ BK663).out hg (Kd.N_ne HO_11.out BK663.out (by decide)));have n6_:=am_ (blk_grown (bk_ BK665).out hg (Kd.N_ne HO_11.out BK665.out (by decide)));have n7_:=am_ (Kd.V_afterv (ok:=(fun k_=>(P0_3_ k_∨w.heap.size≤k_)∧some k_≠(.slice (some ad685) x7_9.length co56:Value).ownBlock∧some k_≠(.slice (some ad698) x10_60.length co76:Value).ownBlock∧some k_≠(u666001:Value).ownBlock∧some k_≠(.slice Ao98 t703.length co98:Value).ownBlock∧k_≠gb662∧k_≠gb663∧k_≠gb665∧k_≠gb699∧k_≠gb707)) (kdV_ (Kd.V_mono HL698_4.out (fun _ hk=>⟨⟨hk.1,⟨hk.2.2.1,⟨hk.2.2.2.1,⟨hk.2.2.2.2.1,⟨hk.2.2.2.2.2.1,⟨hk.2.2.2.2.2.2.1,⟨hk.2.2.2.2.2.2.2.1,⟨hk.2.2.2.2.2.2.2.2.1,⟨hk.2.2.2.2.2.2.2.2.2.1,hk.2.2.2.2.2.2.2.2.2.2⟩⟩⟩⟩⟩⟩⟩⟩⟩,hk.2.1⟩))) hg hat);have n8_:=am_ (blk_grown (bk_ BK699).out hg (Kd.N_ne HO_11.out BK699.out (by decide)));have n9_:=am_ (blk_grown (bk_ BK707).out hg (Kd.N_away HO_11.out (fun _ hk=>hk.2.2.2.2.2.2.2.2.2)));have n10_:=am_ (hb);have n11_:=am_ (ho);clear HO_45;clear HO_70;clear HO_663003;clear HO_666001;clear BK662;clear BK663;clear BK665;clear HL698_4;clear BK699;clear BK707;clear HB;clear HO_11;clear HO705;revert n0_ n1_ n2_ n3_ n4_ n5_ n6_ n7_ n8_ n9_ n10_ n11_;intro HO_45 HO_70 HO_663003 HO_666001 BK662 BK663 BK665 HL698_4 BK699 BK707 HB HO710;clear ho hb hg hat))
    go_roundg k5
    case measure=>have:=HJ9.out;have:=HK2.out;have:=HJ60.out;have:=HJ68.out;have:=HK5.out;omega
    case rel=>exact⟨(((x6_5++(⟨#[32,97,110,100]⟩:ByteArray))++(⟨#[32]⟩:ByteArray))++t706),(y708),(wrap64 (x72_5+1)),eq_,eq_,H',⟨by have:=HJ9.out;have:=HK2.out;have:=HJ60.out;have:=HJ68.out;have:=HK5.out;omega⟩,⟨kdN_ (Kd.N_mono HO710.out (fun _ hk=>⟨hk.1,⟨hk.2.1,⟨hk.2.2.1,⟨hk.2.2.2.1,⟨hk.2.2.2.2.1,⟨hk.2.2.2.2.2.1,hk.2.2.2.2.2.2.1⟩⟩⟩⟩⟩⟩))⟩,⟨kdN_ (Kd.N_mono HO_45.out (fun _ hk=>⟨hk.1.1,⟨hk.2,⟨hk.1.2.1,⟨hk.1.2.2.1,⟨hk.1.2.2.2.2.1,⟨hk.1.2.2.2.2.2.1,hk.1.2.2.2.2.2.2.1⟩⟩⟩⟩⟩⟩))⟩,⟨kdN_ (Kd.N_mono HO_70.out (fun _ hk=>⟨hk.1.1,⟨hk.2,⟨hk.1.2.1,⟨hk.1.2.2.1,⟨hk.1.2.2.2.2.1,⟨hk.1.2.2.2.2.2.1,hk.1.2.2.2.2.2.2.1⟩⟩⟩⟩⟩⟩))⟩,⟨kdV_ (Kd.V_mono HO_663003.out (fun _ hk=>⟨hk.1.1,⟨hk.2,⟨hk.1.2.1,⟨hk.1.2.2.1,⟨hk.1.2.2.2.1,⟨hk.1.2.2.2.2.2.1,⟨hk.1.2.2.2.2.2.2.1,hk.1.2.2.2.2.2.2.2.1⟩⟩⟩⟩⟩⟩⟩))⟩,⟨kdN_ (Kd.N_mono HO_666001.out (fun _ hk=>⟨hk.1.1,⟨hk.2,⟨hk.1.2.1,⟨hk.1.2.2.1,⟨hk.1.2.2.2.2.1,⟨hk.1.2.2.2.2.2.1,hk.1.2.2.2.2.2.2.1⟩⟩⟩⟩⟩⟩))⟩,(bk_ BK662),(bk_ BK663),(bk_ BK665),(bl_ HB)⟩
   rw[if_neg c82] at H
   have c82b0:decide (0<x72_5)=false:=decide_eq_false c82
   clear c82
   replace H:=ifn_ H
   obtain⟨c102,H⟩:=H
   have c102b0:=eq_true c102
   have c102b1:decide (x6_5.size+t706.size≤9223372036854775807)=true:=decide_eq_true c102
   try have c102b2:=eq_false (Nat.not_lt.2 c102)
   have H':=am_ H
   clear H
   have p698:0≤(x72_5:Int):=od_
   have q698:x72_5<(x10_60.length:Int):=od_
   obtain⟨ad698,A698_4,c698_4,e698,hx698_0,hx698_1,hx698_2,hx698_3,hx698_4,hl698_4,hi698_4⟩:=at_T46 (Kd.N_reads' HO_70.out).2.2 x72_5 p698 q698
   cases e698
   obtain⟨ce698,hce698,hMe698,hcc698⟩:=Kd.N_get HO_70.out z46 x72_5 p698 (by first|exact q698|exact od_|(have e_:=(Kd.N_reads' HO_70.out).1;omega))
   obtain⟨ua698_4,uc698_4,rfl,ul698_4,ge698_4⟩:=k46_openF hMe698
   have hv698_4:=hcc698 4 _ rfl
   rw[add_field _ _ 4 (by omega)] at hv698_4
   replace hv698_4:=Option.some.inj (hv698_4.symm.trans hx698_4)
   injection hv698_4 with hva_ hvn_ hvc_
   rw[hva_] at ge698_4
   rw[hvc_] at ul698_4
   have HL698_4:=am_ (show Kd.V k139 139 _ w.heap.size _ _ ((rd_T46 x10_60 x72_5).f4) from Kd.V_mk ul698_4 ge698_4)
   clear hva_ hvn_ hvc_ ge698_4 ul698_4
   clear hcc698 hce698
   have HR698_4:=am_ hi698_4
   have HC698_4:=am_ hl698_4
   clear hi698_4 hl698_4
   replace p698:=eq_true p698
   replace q698:=eq_true q698
   go_wp2_with (first|((with_reducible refine gate_dst (N:=13) rfl ?_);refine be_ 13 #[.int .i64 0,.int .i64 0,.int .i64 0,.bool false,.slice none 0 0] 46 ?_;intro gb699 hg w103 hbox hb;have BK699:=am_ (hbox);have GW699:=sz_ HB hg;have GE699:=sz_ HB hg;have NB662_699:=na_ BK662 hg;have NB699_662:=nb_ BK662 hg;have NB663_699:=na_ BK663 hg;have NB699_663:=nb_ BK663 hg;have NB665_699:=na_ BK665 hg;have NB699_665:=nb_ BK665 hg;replace HO_11:=am_ (Kd.N_below (Kd.N_elderB (krN_ HO_11) gb699 (Nat.le_of_eq hg.symm)) hb);replace HO_45:=am_ (Kd.N_below (Kd.N_elderB (krN_ HO_45) gb699 (Nat.le_of_eq hg.symm)) hb);replace HO_70:=am_ (Kd.N_below (Kd.N_elderB (krN_ HO_70) gb699 (Nat.le_of_eq hg.symm)) hb);replace HO_663003:=am_ (Kd.V_below (Kd.V_elderB (krV_ HO_663003) gb699 (Nat.le_of_eq hg.symm)) hb);replace HO_666001:=am_ (Kd.N_below (Kd.N_elderB (krN_ HO_666001) gb699 (Nat.le_of_eq hg.symm)) hb);replace HL698_4:=am_ (Kd.V_below (Kd.V_elderB (krV_ HL698_4) gb699 (Nat.le_of_eq hg.symm)) hb);replace BK662:=bb_ BK662 hb;replace BK663:=bb_ BK663 hb;replace BK665:=bb_ BK665 hb;replace HR698_4:=am_ (Kd.C_below (by repeat(first|(with_reducible exact HR698_4.out)|(with_reducible refine Kd.C_alloc ?_ _)|(with_reducible refine Kd.C_drewN ?_ _)|(with_reducible refine Kd.C_drew ?_)|exact HR698_4.out)) hb);replace HB:=am_ (below_step (bl_ HB).out hb);clear hb hbox hg;have hnb104:=NB699_662.out;have hnc104:=NB662_699.out;have hnb105:=NB699_663.out;have hnc105:=NB663_699.out;have hnb106:=NB699_665.out;have hnc106:=NB665_699.out;obtain⟨hcz107_0,hcz107_1,hcz107_2,hcz107_3,hcz107_4,hfz107_0,hfz107_1,hfz107_2,hfz107_3,hfz107_4⟩:=bo5_ BK699)|((with_reducible refine gate_callee (f:=50) rfl ?_);refine gl_ (some 79) Tryz.func50 #[.agg #[.int .i64 ((rd_T46 x10_60 x72_5).f0),.int .i64 ((rd_T46 x10_60 x72_5).f1),.int .i64 ((rd_T46 x10_60 x72_5).f2),.bool ((rd_T46 x10_60 x72_5).f3),.slice A698_4 ((rd_T46 x10_60 x72_5).f4).length c698_4]] ?_;(with_reducible refine(florinlaw06_Relation_relation.calls _ _ _ _ _ _ _ _ _ _ _ _ _ _ ?side1 ?side2 A80.out).mono ?_);(case side1=>repeat(first|exact((Kd.V_reads' (kfV_ gb699 HL698_4)).2.2)|(with_reducible refine Kd.C_alloc ?_ _)|(with_reducible refine Kd.C_drewN ?_ _)|(with_reducible refine Kd.C_drew ?_)));(case side2=>exact HC698_4.out);rintro e w108 ⟨v704,rfl,ho0,hb⟩;refine⟨_,rfl,?_⟩;have n0_:=am_ (Kd.N_elder' (kfN_ gb699 HO_11) (Kd.R_base ho0) hb);have n1_:=am_ (Kd.N_elder' (kfN_ gb699 HO_45) (Kd.R_base ho0) hb);have n2_:=am_ (Kd.N_elder' (kfN_ gb699 HO_70) (Kd.R_base ho0) hb);have n3_:=am_ (Kd.V_elder' (kfV_ gb699 HO_663003) (Kd.R_base ho0) hb);have n4_:=am_ (Kd.N_elder' (kfN_ gb699 HO_666001) (Kd.R_base ho0) hb);have n5_:=am_ (Kd.V_elder' (kfV_ gb699 HL698_4) (Kd.R_base ho0) hb);have n6_:=am_ (Kd.R_lower (Kd.R_newM (M:=fun k_=>(w.heap.size≤k_)) ho0 (below_size (bl_ HB).out) (fun k_ h_=>h_)) (below_size (bl_ HB).out));have n7_:=bz_ BK662 hb;have n8_:=bz_ BK663 hb;have n9_:=bz_ BK665 hb;have n10_:=am_ (Kd.C_below ((Kd.V_reads' (kfV_ gb699 HL698_4)).2.2) hb);have n11_:=am_ (blk_below (g:=gb699) (o:= .cells #[.int .i64 ((rd_T46 x10_60 x72_5).f0),.int .i64 ((rd_T46 x10_60 x72_5).f1),.int .i64 ((rd_T46 x10_60 x72_5).f2),.bool ((rd_T46 x10_60 x72_5).f3),.slice A698_4 ((rd_T46 x10_60 x72_5).f4).length c698_4] 46 (0,0)) ((bp_ BK699).out) hb);have n12_:=am_ (below_step (bl_ HB).out hb);clear HO_11;clear HO_45;clear HO_70;clear HO_663003;clear HO_666001;clear HL698_4;clear BK662;clear BK663;clear BK665;clear HR698_4;clear BK699;clear HB;revert n0_ n1_ n2_ n3_ n4_ n5_ n6_ n7_ n8_ n9_ n10_ n11_ n12_;intro HO_11 HO_45 HO_70 HO_663003 HO_666001 HL698_4 HO705 BK662 BK663 BK665 HR698_4 BK699 HB;(try clear hb);(try clear ho0))|((with_reducible refine gate_dst (N:=14) rfl ?_);refine be_ 14 #[.int .u8 0,.int .i64 0,.bool false,.slice none 0 0] 53 ?_;intro gb707 hg w109 hbox hb;have BK707:=am_ (hbox);have GW707:=sz_ HB hg;have GE707:=sz_ HB hg;have NB662_707:=na_ BK662 hg;have NB707_662:=nb_ BK662 hg;have NB663_707:=na_ BK663 hg;have NB707_663:=nb_ BK663 hg;have NB665_707:=na_ BK665 hg;have NB707_665:=nb_ BK665 hg;have NB699_707:=na_ BK699 hg;have NB707_699:=nb_ BK699 hg;replace HO_11:=am_ (Kd.N_below (Kd.N_elderB (krN_ HO_11) gb707 (Nat.le_of_eq hg.symm)) hb);replace HO_45:=am_ (Kd.N_below (Kd.N_elderB (krN_ HO_45) gb707 (Nat.le_of_eq hg.symm)) hb);replace HO_70:=am_ (Kd.N_below (Kd.N_elderB (krN_ HO_70) gb707 (Nat.le_of_eq hg.symm)) hb);replace HO_663003:=am_ (Kd.V_below (Kd.V_elderB (krV_ HO_663003) gb707 (Nat.le_of_eq hg.symm)) hb);replace HO_666001:=am_ (Kd.N_below (Kd.N_elderB (krN_ HO_666001) gb707 (Nat.le_of_eq hg.symm)) hb);replace HL698_4:=am_ (Kd.V_below (Kd.V_elderB (krV_ HL698_4) gb707 (Nat.le_of_eq hg.symm)) hb);replace HO705:=kb_ HO705 hb;replace BK662:=bb_ BK662 hb;replace BK663:=bb_ BK663 hb;replace BK665:=bb_ BK665 hb;replace HR698_4:=am_ (Kd.C_below (by repeat(first|(with_reducible exact HR698_4.out)|(with_reducible refine Kd.C_alloc ?_ _)|(with_reducible refine Kd.C_drewN ?_ _)|(with_reducible refine Kd.C_drew ?_)|exact HR698_4.out)) hb);replace BK699:=bb_ BK699 hb;replace HB:=am_ (below_step (bl_ HB).out hb);clear hb hbox hg;have hnb110:=NB707_662.out;have hnc110:=NB662_707.out;have hnb111:=NB707_663.out;have hnc111:=NB663_707.out;have hnb112:=NB707_665.out;have hnc112:=NB665_707.out;have hnb113:=NB707_699.out;have hnc113:=NB699_707.out;obtain⟨hcz114_0,hcz114_1,hcz114_2,hcz114_3,hfz114_0,hfz114_1,hfz114_2,hfz114_3⟩:=bo4_ BK707;obtain⟨Ao115,co115,eo115⟩:=Kd.R_slice HO705.out;subst eo115)|((with_reducible refine gate_store (t:=53) (p:=14) rfl ?_);refine store_event (t:=53) (p:=14) (v:=?vo_w116) (w1:=((((w109.setCell ⟨gb707,0,none⟩ (.int .u8 t700)).setCell ⟨gb707,1,none⟩ (.int .i64 t701)).setCell ⟨gb707,2,none⟩ (.bool t702)).setCell ⟨gb707,3,none⟩ (.slice Ao115 t703.length co115))) ?hg ?ho ?hn ?hr ?_;(case ho=>rfl);(case hg=>rfl);(case hn=>rfl);(case hr=>first|(go_simp;done)|(go_simp;rfl));intro w116 hw;have n0_:Aside0 (Kd.N k53 53 w116 w.heap.size (fun k_=>(P0_3_ k_∨w.heap.size≤k_)∧some k_≠(.slice (some ad685) x7_9.length co56:Value).ownBlock∧some k_≠(.slice (some ad698) x10_60.length co76:Value).ownBlock∧some k_≠(u666001:Value).ownBlock∧some k_≠(.slice Ao115 t703.length co115:Value).ownBlock∧k_≠gb662∧k_≠gb663∧k_≠gb665∧k_≠gb699∧k_≠gb707) u11 x11_5):=⟨(by rw[hw];exact(kdN_ (Kd.N_mono (Kd.N_far (Kd.N_far (Kd.N_far (Kd.N_far (Kd.N_mono HO_11.out (fun k_ hk=>(⟨hk,hk.2⟩:_∧k_≠gb707))) (fun _ hk=>hk.2) _) (fun _ hk=>hk.2) _) (fun _ hk=>hk.2) _) (fun _ hk=>hk.2) _) (fun _ hk=>⟨hk.1.1.1.1.1,⟨hk.1.1.1.1.2.1,⟨hk.1.1.1.1.2.2.1,⟨hk.1.1.1.1.2.2.2.1,⟨hk.1.1.2,⟨hk.1.1.1.1.2.2.2.2.1,⟨hk.1.1.1.1.2.2.2.2.2.1,⟨hk.1.1.1.1.2.2.2.2.2.2,⟨hk.1.1.1.2,hk.1.2⟩⟩⟩⟩⟩⟩⟩⟩⟩))))⟩;have n1_:Aside0 (Kd.N (Kd.slice 46 k46) 47 w116 w.heap.size (fun k_=>(P0_3_ k_∨w.heap.size≤k_)∧some k_≠(u11:Value).ownBlock∧some k_≠(.slice (some ad698) x10_60.length co76:Value).ownBlock∧some k_≠(u666001:Value).ownBlock∧some k_≠(.slice Ao115 t703.length co115:Value).ownBlock∧k_≠gb662∧k_≠gb663∧k_≠gb665∧k_≠gb699∧k_≠gb707) (.slice (some ad685) x7_9.length co56) x7_9):=⟨(by rw[hw];exact(kdN_ (Kd.N_mono (Kd.N_far (Kd.N_far (Kd.N_far (Kd.N_far (Kd.N_mono HO_45.out (fun k_ hk=>(⟨hk,hk.2⟩:_∧k_≠gb707))) (fun _ hk=>hk.2) _) (fun _ hk=>hk.2) _) (fun _ hk=>hk.2) _) (fun _ hk=>hk.2) _) (fun _ hk=>⟨hk.1.1.1.1.1,⟨hk.1.1.1.1.2.1,⟨hk.1.1.1.1.2.2.1,⟨hk.1.1.1.1.2.2.2.1,⟨hk.1.1.2,⟨hk.1.1.1.1.2.2.2.2.1,⟨hk.1.1.1.1.2.2.2.2.2.1,⟨hk.1.1.1.1.2.2.2.2.2.2,⟨hk.1.1.1.2,hk.1.2⟩⟩⟩⟩⟩⟩⟩⟩⟩))))⟩;have n2_:Aside0 (Kd.N k46 46 w116 w.heap.size (fun k_=>(P0_3_ k_∨w.heap.size≤k_)∧some k_≠(u11:Value).ownBlock∧some k_≠(.slice (some ad685) x7_9.length co56:Value).ownBlock∧some k_≠(u666001:Value).ownBlock∧some k_≠(.slice Ao115 t703.length co115:Value).ownBlock∧k_≠gb662∧k_≠gb663∧k_≠gb665∧k_≠gb699∧k_≠gb707) (.slice (some ad698) x10_60.length co76) x10_60):=⟨(by rw[hw];exact(kdN_ (Kd.N_mono (Kd.N_far (Kd.N_far (Kd.N_far (Kd.N_far (Kd.N_mono HO_70.out (fun k_ hk=>(⟨hk,hk.2⟩:_∧k_≠gb707))) (fun _ hk=>hk.2) _) (fun _ hk=>hk.2) _) (fun _ hk=>hk.2) _) (fun _ hk=>hk.2) _) (fun _ hk=>⟨hk.1.1.1.1.1,⟨hk.1.1.1.1.2.1,⟨hk.1.1.1.1.2.2.1,⟨hk.1.1.1.1.2.2.2.1,⟨hk.1.1.2,⟨hk.1.1.1.1.2.2.2.2.1,⟨hk.1.1.1.1.2.2.2.2.2.1,⟨hk.1.1.1.1.2.2.2.2.2.2,⟨hk.1.1.1.2,hk.1.2⟩⟩⟩⟩⟩⟩⟩⟩⟩))))⟩;have n3_:Aside0 (Kd.V (Kd.slice 46 k46) 47 w116 w.heap.size (fun k_=>(P0_3_ k_∨w.heap.size≤k_)∧some k_≠(u11:Value).ownBlock∧some k_≠(.slice (some ad685) x7_9.length co56:Value).ownBlock∧some k_≠(.slice (some ad698) x10_60.length co76:Value).ownBlock∧some k_≠(u666001:Value).ownBlock∧some k_≠(.slice Ao115 t703.length co115:Value).ownBlock∧k_≠gb662∧k_≠gb663∧k_≠gb665∧k_≠gb699∧k_≠gb707) (.slice A0_3 l0_3.length c0_3) l0_3):=⟨(by rw[hw];exact(kdV_ (Kd.V_mono (Kd.V_far (Kd.V_far (Kd.V_far (Kd.V_far (Kd.V_mono HO_663003.out (fun k_ hk=>(⟨hk,hk.2⟩:_∧k_≠gb707))) (fun _ hk=>hk.2) _) (fun _ hk=>hk.2) _) (fun _ hk=>hk.2) _) (fun _ hk=>hk.2) _) (fun _ hk=>⟨hk.1.1.1.1.1,⟨hk.1.1.1.1.2.1,⟨hk.1.1.1.1.2.2.1,⟨hk.1.1.1.1.2.2.2.1,⟨hk.1.1.1.1.2.2.2.2.1,⟨hk.1.1.2,⟨hk.1.1.1.1.2.2.2.2.2.1,⟨hk.1.1.1.1.2.2.2.2.2.2.1,⟨hk.1.1.1.1.2.2.2.2.2.2.2,⟨hk.1.1.1.2,hk.1.2⟩⟩⟩⟩⟩⟩⟩⟩⟩⟩))))⟩;have n4_:Aside0 (Kd.N (Kd.slice 53 k53) 54 w116 w.heap.size (fun k_=>(P0_3_ k_∨w.heap.size≤k_)∧some k_≠(u11:Value).ownBlock∧some k_≠(.slice (some ad685) x7_9.length co56:Value).ownBlock∧some k_≠(.slice (some ad698) x10_60.length co76:Value).ownBlock∧some k_≠(.slice Ao115 t703.length co115:Value).ownBlock∧k_≠gb662∧k_≠gb663∧k_≠gb665∧k_≠gb699∧k_≠gb707) u666001 x666001_2):=⟨(by rw[hw];exact(kdN_ (Kd.N_mono (Kd.N_far (Kd.N_far (Kd.N_far (Kd.N_far (Kd.N_mono HO_666001.out (fun k_ hk=>(⟨hk,hk.2⟩:_∧k_≠gb707))) (fun _ hk=>hk.2) _) (fun _ hk=>hk.2) _) (fun _ hk=>hk.2) _) (fun _ hk=>hk.2) _) (fun _ hk=>⟨hk.1.1.1.1.1,⟨hk.1.1.1.1.2.1,⟨hk.1.1.1.1.2.2.1,⟨hk.1.1.1.1.2.2.2.1,⟨hk.1.1.2,⟨hk.1.1.1.1.2.2.2.2.1,⟨hk.1.1.1.1.2.2.2.2.2.1,⟨hk.1.1.1.1.2.2.2.2.2.2,⟨hk.1.1.1.2,hk.1.2⟩⟩⟩⟩⟩⟩⟩⟩⟩))))⟩;have n5_:Aside0 (Kd.V k139 139 w116 w.heap.size (fun k_=>(P0_3_ k_∨w.heap.size≤k_)∧some k_≠(u11:Value).ownBlock∧some k_≠(.slice (some ad685) x7_9.length co56:Value).ownBlock∧some k_≠(.slice (some ad698) x10_60.length co76:Value).ownBlock∧some k_≠(u666001:Value).ownBlock∧some k_≠(.slice Ao115 t703.length co115:Value).ownBlock∧k_≠gb662∧k_≠gb663∧k_≠gb665∧k_≠gb699∧k_≠gb707) (.slice A698_4 ((rd_T46 x10_60 x72_5).f4).length c698_4) ((rd_T46 x10_60 x72_5).f4)):=⟨(by rw[hw];exact(kdV_ (Kd.V_mono (Kd.V_far (Kd.V_far (Kd.V_far (Kd.V_far (Kd.V_mono HL698_4.out (fun k_ hk=>(⟨hk,hk.2⟩:_∧k_≠gb707))) (fun _ hk=>hk.2) _) (fun _ hk=>hk.2) _) (fun _ hk=>hk.2) _) (fun _ hk=>hk.2) _) (fun _ hk=>⟨hk.1.1.1.1.1.1,⟨hk.1.1.1.1.1.2.1,⟨hk.1.1.1.1.1.2.2.1,⟨hk.1.1.1.1.2,⟨hk.1.1.1.1.1.2.2.2.1,⟨hk.1.1.2,⟨hk.1.1.1.1.1.2.2.2.2.1,⟨hk.1.1.1.1.1.2.2.2.2.2.1,⟨hk.1.1.1.1.1.2.2.2.2.2.2,⟨hk.1.1.1.2,hk.1.2⟩⟩⟩⟩⟩⟩⟩⟩⟩⟩))))⟩;have n6_:Aside0 (Kd.R k57 57 w116 w.heap.size (fun k_=>(w.heap.size≤k_)) (.slice Ao115 t703.length co115) t703):=⟨(by rw[hw];exact(kdR_ (Kd.R_mono (Kd.R_far (Kd.R_far (Kd.R_far (Kd.R_far (Kd.R_types HO705.out BK707.out (by decide)) (fun _ hk=>hk.2) _) (fun _ hk=>hk.2) _) (fun _ hk=>hk.2) _) (fun _ hk=>hk.2) _) (fun _ hk=>hk.1.1))))⟩;have n7_:Aside0 (w116.heap[gb662]? = some (.cells #[.int .i64 a0_0,.int .i64 a0_1,.int .i64 a0_2,.slice A0_3 l0_3.length c0_3] 50 (0,0))):=⟨(by rw[hw];exact((bf_ BK662).out))⟩;have n8_:Aside0 (w116.heap[gb663]? = some (.cells #[.int .i64 0,.slice none 0 0,.string (⟨#[]⟩:ByteArray)] 41 (0,0))):=⟨(by rw[hw];exact((bf_ BK663).out))⟩;have n9_:Aside0 (w116.heap[gb665]? = some (.cells #[.int .i64 t664,u666001,.string (⟨#[]⟩:ByteArray)] 41 (0,0))):=⟨(by rw[hw];exact((bf_ BK665).out))⟩;have n10_:Aside0 (w116.heap[gb699]? = some (.cells #[.int .i64 ((rd_T46 x10_60 x72_5).f0),.int .i64 ((rd_T46 x10_60 x72_5).f1),.int .i64 ((rd_T46 x10_60 x72_5).f2),.bool ((rd_T46 x10_60 x72_5).f3),.slice A698_4 ((rd_T46 x10_60 x72_5).f4).length c698_4] 46 (0,0))):=⟨(by rw[hw];exact((bf_ BK699).out))⟩;have n11_:Aside0 (w116.heap[gb707]? = some (.cells #[.int .u8 t700,.int .i64 t701,.bool t702,.slice Ao115 t703.length co115] 53 (0,0))):=⟨(by rw[hw];exact((bp_ BK707).out))⟩;have n12_:Aside0 (Below w.heap.size w w116):=⟨(by rw[hw];exact(bl_ HB).out)⟩;clear hw;clear HO_11;clear HO_45;clear HO_70;clear HO_663003;clear HO_666001;clear HL698_4;clear HO705;clear BK662;clear BK663;clear BK665;clear BK699;clear BK707;clear HB;revert n0_ n1_ n2_ n3_ n4_ n5_ n6_ n7_ n8_ n9_ n10_ n11_ n12_;intro HO_11 HO_45 HO_70 HO_663003 HO_666001 HL698_4 HO705 BK662 BK663 BK665 BK699 BK707 HB;obtain⟨hcz117_0,hcz117_1,hcz117_2,hcz117_3,hfz117_0,hfz117_1,hfz117_2,hfz117_3⟩:=bo4_ BK707)|((with_reducible refine gate_builtin (b:= .append) (xs:= #[.tmp 82,.tmp 84]) rfl ?_);at_builtin;refine Kd.N_append k53 (w0:=w) w.heap.size rfl (.tmp 82) (.tmp 84) 54 53 (.agg #[(.int .u8 0),(.int .i64 0),(.bool false),(.slice none 0 0)]) 48 rfl Tryz.underlying54 info53 rfl (by decide) (by omega) u11 x11_5 (⟨t700,t701,t702,t703⟩:S53) [.int .u8 t700,.int .i64 t701,.bool t702,.slice Ao115 t703.length co115] (fun k_=>(P0_3_ k_∨w.heap.size≤k_)∧some k_≠(.slice (some ad685) x7_9.length co56:Value).ownBlock∧some k_≠(.slice (some ad698) x10_60.length co76:Value).ownBlock∧some k_≠(u666001:Value).ownBlock∧k_≠gb662∧k_≠gb663∧k_≠gb665∧k_≠gb699∧k_≠gb707) (fun k_=>((fun k_=>(P0_3_ k_∨w.heap.size≤k_)∧some k_≠(.slice (some ad685) x7_9.length co56:Value).ownBlock∧some k_≠(.slice (some ad698) x10_60.length co76:Value).ownBlock∧some k_≠(u666001:Value).ownBlock∧k_≠gb662∧k_≠gb663∧k_≠gb665∧k_≠gb699∧k_≠gb707)) k_∧some k_≠(u11:Value).ownBlock) rfl rfl ?aP (fun _ hk=>hk) ?aF ?aO ?aB ?aS ?aL ?_;(case aP=>exact(k53_mkF _ _ (⟨t700,t701,t702,t703⟩:S53) (Kd.R_reads' (Kd.R_mono (ok':=(fun k_=>((fun k_=>(P0_3_ k_∨w.heap.size≤k_)∧some k_≠(.slice (some ad685) x7_9.length co56:Value).ownBlock∧some k_≠(.slice (some ad698) x10_60.length co76:Value).ownBlock∧some k_≠(u666001:Value).ownBlock∧k_≠gb662∧k_≠gb663∧k_≠gb665∧k_≠gb699∧k_≠gb707)) k_∧some k_≠(u11:Value).ownBlock)) (Kd.R_types (Kd.R_types (Kd.R_types (Kd.R_types (Kd.R_types (Kd.R_apart' (Kd.R_apart' (Kd.R_apart' (Kd.R_apart' (HO705.out) (Kd.N_typed HO_45.out) (by decide)) (Kd.N_typed HO_70.out) (by decide)) (Kd.N_typed HO_666001.out) (by decide)) (Kd.N_typed HO_11.out) (by decide)) BK662.out (by decide)) BK663.out (by decide)) BK665.out (by decide)) BK699.out (by decide)) BK707.out (by decide)) (fun k_ hk=>⟨⟨(.inr (hk.1.1.1.1.1.1.1.1.1)),⟨hk.1.1.1.1.1.1.1.1.2,⟨hk.1.1.1.1.1.1.1.2,⟨hk.1.1.1.1.1.1.2,⟨hk.1.1.1.1.2,⟨hk.1.1.1.2,⟨hk.1.1.2,⟨hk.1.2,hk.2⟩⟩⟩⟩⟩⟩⟩⟩,hk.1.1.1.1.1.2⟩))).2.1 (Kd.R_F (Kd.R_mono (ok':=(fun k_=>((fun k_=>(P0_3_ k_∨w.heap.size≤k_)∧some k_≠(.slice (some ad685) x7_9.length co56:Value).ownBlock∧some k_≠(.slice (some ad698) x10_60.length co76:Value).ownBlock∧some k_≠(u666001:Value).ownBlock∧k_≠gb662∧k_≠gb663∧k_≠gb665∧k_≠gb699∧k_≠gb707)) k_∧some k_≠(u11:Value).ownBlock)) (Kd.R_types (Kd.R_types (Kd.R_types (Kd.R_types (Kd.R_types (Kd.R_apart' (Kd.R_apart' (Kd.R_apart' (Kd.R_apart' (HO705.out) (Kd.N_typed HO_45.out) (by decide)) (Kd.N_typed HO_70.out) (by decide)) (Kd.N_typed HO_666001.out) (by decide)) (Kd.N_typed HO_11.out) (by decide)) BK662.out (by decide)) BK663.out (by decide)) BK665.out (by decide)) BK699.out (by decide)) BK707.out (by decide)) (fun k_ hk=>⟨⟨(.inr (hk.1.1.1.1.1.1.1.1.1)),⟨hk.1.1.1.1.1.1.1.1.2,⟨hk.1.1.1.1.1.1.1.2,⟨hk.1.1.1.1.1.1.2,⟨hk.1.1.1.1.2,⟨hk.1.1.1.2,⟨hk.1.1.2,⟨hk.1.2,hk.2⟩⟩⟩⟩⟩⟩⟩⟩,hk.1.1.1.1.1.2⟩)))));(case aB=>exact(bl_ HB).out);(case aF=>exact(fun k_ hk=>⟨(.inr (Nat.le_trans (below_size (bl_ HB).out) hk)),Kd.fresh' (Kd.N_lt (krN_ HO_45)) k_ hk,Kd.fresh' (Kd.N_lt (krN_ HO_70)) k_ hk,Kd.fresh' (Kd.N_lt (krN_ HO_666001)) k_ hk,Kd.freshB (bk_ BK662).out k_ hk,Kd.freshB (bk_ BK663).out k_ hk,Kd.freshB (bk_ BK665).out k_ hk,Kd.freshB (bk_ BK699).out k_ hk,Kd.freshB (bk_ BK707).out k_ hk⟩));(case aO=>exact(kdN_ (Kd.N_mono HO_11.out (fun _ hk=>⟨hk.1,⟨hk.2.1,⟨hk.2.2.1,⟨hk.2.2.2.1,⟨hk.2.2.2.2.2.1,⟨hk.2.2.2.2.2.2.1,⟨hk.2.2.2.2.2.2.2.1,⟨hk.2.2.2.2.2.2.2.2.1,hk.2.2.2.2.2.2.2.2.2⟩⟩⟩⟩⟩⟩⟩⟩))));(case aS=>exact(below_size (bl_ HB).out));(case aL=>have:=LMc81.out;omega);intro v709 w118 ho hb hg hat;rw[← Ny708.out] at ho;have n0_:=am_ (Kd.N_afterv (ok:=(fun k_=>(P0_3_ k_∨w.heap.size≤k_)∧some k_≠(.slice (some ad698) x10_60.length co76:Value).ownBlock∧some k_≠(u666001:Value).ownBlock∧some k_≠(.slice Ao115 t703.length co115:Value).ownBlock∧k_≠gb662∧k_≠gb663∧k_≠gb665∧k_≠gb699∧k_≠gb707)) (kdN_ (Kd.N_mono HO_45.out (fun _ hk=>⟨⟨hk.1,⟨hk.2.2.1,⟨hk.2.2.2.1,⟨hk.2.2.2.2.1,⟨hk.2.2.2.2.2.1,⟨hk.2.2.2.2.2.2.1,⟨hk.2.2.2.2.2.2.2.1,⟨hk.2.2.2.2.2.2.2.2.1,hk.2.2.2.2.2.2.2.2.2⟩⟩⟩⟩⟩⟩⟩⟩,hk.2.1⟩))) hg hat);have n1_:=am_ (Kd.N_afterv (ok:=(fun k_=>(P0_3_ k_∨w.heap.size≤k_)∧some k_≠(.slice (some ad685) x7_9.length co56:Value).ownBlock∧some k_≠(u666001:Value).ownBlock∧some k_≠(.slice Ao115 t703.length co115:Value).ownBlock∧k_≠gb662∧k_≠gb663∧k_≠gb665∧k_≠gb699∧k_≠gb707)) (kdN_ (Kd.N_mono HO_70.out (fun _ hk=>⟨⟨hk.1,⟨hk.2.2.1,⟨hk.2.2.2.1,⟨hk.2.2.2.2.1,⟨hk.2.2.2.2.2.1,⟨hk.2.2.2.2.2.2.1,⟨hk.2.2.2.2.2.2.2.1,⟨hk.2.2.2.2.2.2.2.2.1,hk.2.2.2.2.2.2.2.2.2⟩⟩⟩⟩⟩⟩⟩⟩,hk.2.1⟩))) hg hat);have n2_:=am_ (Kd.V_afterv (ok:=(fun k_=>(P0_3_ k_∨w.heap.size≤k_)∧some k_≠(.slice (some ad685) x7_9.length co56:Value).ownBlock∧some k_≠(.slice (some ad698) x10_60.length co76:Value).ownBlock∧some k_≠(u666001:Value).ownBlock∧some k_≠(.slice Ao115 t703.length co115:Value).ownBlock∧k_≠gb662∧k_≠gb663∧k_≠gb665∧k_≠gb699∧k_≠gb707)) (kdV_ (Kd.V_mono HO_663003.out (fun _ hk=>⟨⟨hk.1,⟨hk.2.2.1,⟨hk.2.2.2.1,⟨hk.2.2.2.2.1,⟨hk.2.2.2.2.2.1,⟨hk.2.2.2.2.2.2.1,⟨hk.2.2.2.2.2.2.2.1,⟨hk.2.2.2.2.2.2.2.2.1,⟨hk.2.2.2.2.2.2.2.2.2.1,hk.2.2.2.2.2.2.2.2.2.2⟩⟩⟩⟩⟩⟩⟩⟩⟩,hk.2.1⟩))) hg hat);have n3_:=am_ (Kd.N_afterv (ok:=(fun k_=>(P0_3_ k_∨w.heap.size≤k_)∧some k_≠(.slice (some ad685) x7_9.length co56:Value).ownBlock∧some k_≠(.slice (some ad698) x10_60.length co76:Value).ownBlock∧some k_≠(.slice Ao115 t703.length co115:Value).ownBlock∧k_≠gb662∧k_≠gb663∧k_≠gb665∧k_≠gb699∧k_≠gb707)) (kdN_ (Kd.N_mono HO_666001.out (fun _ hk=>⟨⟨hk.1,⟨hk.2.2.1,⟨hk.2.2.2.1,⟨hk.2.2.2.2.1,⟨hk.2.2.2.2.2.1,⟨hk.2.2.2.2.2.2.1,⟨hk.2.2.2.2.2.2.2.1,⟨hk.2.2.2.2.2.2.2.2.1,hk.2.2.2.2.2.2.2.2.2⟩⟩⟩⟩⟩⟩⟩⟩,hk.2.1⟩))) hg hat);have n4_:=am_ (blk_grown (bk_ BK662).out hg (Kd.N_ne HO_11.out BK662.out (by decide)));have n5_:=am_ (blk_grown (bk_ BK663).out hg (Kd.N_ne HO_11.out BK663.out (by decide)));have n6_:=am_ (blk_grown (bk_ BK665).out hg (Kd.N_ne HO_11.out BK665.out (by decide)));have n7_:=am_ (Kd.V_afterv (ok:=(fun k_=>(P0_3_ k_∨w.heap.size≤k_)∧some k_≠(.slice (some ad685) x7_9.length co56:Value).ownBlock∧some k_≠(.slice (some ad698) x10_60.length co76:Value).ownBlock∧some k_≠(u666001:Value).ownBlock∧some k_≠(.slice Ao115 t703.length co115:Value).ownBlock∧k_≠gb662∧k_≠gb663∧k_≠gb665∧k_≠gb699∧k_≠gb707)) (kdV_ (Kd.V_mono HL698_4.out (fun _ hk=>⟨⟨hk.1,⟨hk.2.2.1,⟨hk.2.2.2.1,⟨hk.2.2.2.2.1,⟨hk.2.2.2.2.2.1,⟨hk.2.2.2.2.2.2.1,⟨hk.2.2.2.2.2.2.2.1,⟨hk.2.2.2.2.2.2.2.2.1,⟨hk.2.2.2.2.2.2.2.2.2.1,hk.2.2.2.2.2.2.2.2.2.2⟩⟩⟩⟩⟩⟩⟩⟩⟩,hk.2.1⟩))) hg hat);have n8_:=am_ (blk_grown (bk_ BK699).out hg (Kd.N_ne HO_11.out BK699.out (by decide)));have n9_:=am_ (blk_grown (bk_ BK707).out hg (Kd.N_away HO_11.out (fun _ hk=>hk.2.2.2.2.2.2.2.2.2)));have n10_:=am_ (hb);have n11_:=am_ (ho);clear HO_45;clear HO_70;clear HO_663003;clear HO_666001;clear BK662;clear BK663;clear BK665;clear HL698_4;clear BK699;clear BK707;clear HB;clear HO_11;clear HO705;revert n0_ n1_ n2_ n3_ n4_ n5_ n6_ n7_ n8_ n9_ n10_ n11_;intro HO_45 HO_70 HO_663003 HO_666001 BK662 BK663 BK665 HL698_4 BK699 BK707 HB HO710;clear ho hb hg hat))
   go_roundg k5
   case measure=>have:=HJ9.out;have:=HK2.out;have:=HJ60.out;have:=HJ68.out;have:=HK5.out;omega
   case rel=>exact⟨(x6_5++t706),(y708),(wrap64 (x72_5+1)),eq_,eq_,H',⟨by have:=HJ9.out;have:=HK2.out;have:=HJ60.out;have:=HJ68.out;have:=HK5.out;omega⟩,⟨kdN_ (Kd.N_mono HO710.out (fun _ hk=>⟨hk.1,⟨hk.2.1,⟨hk.2.2.1,⟨hk.2.2.2.1,⟨hk.2.2.2.2.1,⟨hk.2.2.2.2.2.1,hk.2.2.2.2.2.2.1⟩⟩⟩⟩⟩⟩))⟩,⟨kdN_ (Kd.N_mono HO_45.out (fun _ hk=>⟨hk.1.1,⟨hk.2,⟨hk.1.2.1,⟨hk.1.2.2.1,⟨hk.1.2.2.2.2.1,⟨hk.1.2.2.2.2.2.1,hk.1.2.2.2.2.2.2.1⟩⟩⟩⟩⟩⟩))⟩,⟨kdN_ (Kd.N_mono HO_70.out (fun _ hk=>⟨hk.1.1,⟨hk.2,⟨hk.1.2.1,⟨hk.1.2.2.1,⟨hk.1.2.2.2.2.1,⟨hk.1.2.2.2.2.2.1,hk.1.2.2.2.2.2.2.1⟩⟩⟩⟩⟩⟩))⟩,⟨kdV_ (Kd.V_mono HO_663003.out (fun _ hk=>⟨hk.1.1,⟨hk.2,⟨hk.1.2.1,⟨hk.1.2.2.1,⟨hk.1.2.2.2.1,⟨hk.1.2.2.2.2.2.1,⟨hk.1.2.2.2.2.2.2.1,hk.1.2.2.2.2.2.2.2.1⟩⟩⟩⟩⟩⟩⟩))⟩,⟨kdN_ (Kd.N_mono HO_666001.out (fun _ hk=>⟨hk.1.1,⟨hk.2,⟨hk.1.2.1,⟨hk.1.2.2.1,⟨hk.1.2.2.2.2.1,⟨hk.1.2.2.2.2.2.1,hk.1.2.2.2.2.2.2.1⟩⟩⟩⟩⟩⟩))⟩,(bk_ BK662),(bk_ BK663),(bk_ BK665),(bl_ HB)⟩
  rw[if_neg c77] at H
  have c77b0:=decide_eq_false c77
  clear c77
  replace H:=ifn_ H
  obtain⟨c119,H⟩:=H
  have LMc119:=am_ c119
  clear c119
  obtain⟨y711,hy711⟩:∃y_:List (List (S53)),y_=(x666001_2++[x11_5]):=⟨_,rfl⟩
  replace H:(florinlaw06_Made_Write.l0 k5 t666 x6_5 x7_9 (x7_9.length:Int) (wrap64 (x47_2+1)) a0_0 a0_1 a0_2 l0_3 t664 y711 (⟨#[]⟩:ByteArray))=some (r1,r2,r3,r4):=by first|(rw[hy711];with_reducible exact H)|(have H2_:=(Option.bind_some _ _).symm.trans H;rw[hy711];with_reducible exact H2_)|(have H2_:=(Option.bind_some _ _).symm.trans H;with_reducible exact H2_)|with_reducible exact H|(rw[hy711];exact H)|exact H
  have Ny711:=am_ hy711
  clear hy711
  have H':=am_ H
  clear H
  have hnb120:=NB665_662.out
  have hnc120:=NB662_665.out
  have hnb121:=NB665_663.out
  have hnc121:=NB663_665.out
  obtain⟨hcz122_0,hcz122_1,hcz122_2,hfz122_0,hfz122_1,hfz122_2⟩:=bo3_ BK665
  obtain⟨Ao124,co124,eo124⟩:=Kd.N_slice HO_11.out
  subst eo124
  go_wp2_with (first|((with_reducible refine gate_builtin (b:= .append) (xs:= #[.tmp 96,.tmp 98]) rfl ?_);at_builtin;refine Kd.N_append (Kd.slice 53 k53) (w0:=w) w.heap.size rfl (.tmp 96) (.tmp 98) 39 54 (.slice none 0 0) 24 rfl Tryz.underlying39 info54 rfl (by decide) (by omega) u666001 x666001_2 x11_5 [.slice Ao124 x11_5.length co124] (fun k_=>(P0_3_ k_∨w.heap.size≤k_)∧some k_≠(.slice (some ad685) x7_9.length co56:Value).ownBlock∧some k_≠(.slice Ao76 x10_60.length co76:Value).ownBlock∧k_≠gb662∧k_≠gb663∧k_≠gb665) (fun k_=>((fun k_=>(P0_3_ k_∨w.heap.size≤k_)∧some k_≠(.slice (some ad685) x7_9.length co56:Value).ownBlock∧some k_≠(.slice Ao76 x10_60.length co76:Value).ownBlock∧k_≠gb662∧k_≠gb663∧k_≠gb665)) k_∧some k_≠(u666001:Value).ownBlock) rfl rfl ?aP (fun _ hk=>hk) ?aF ?aO ?aB ?aS ?aL ?_;(case aP=>exact(Kd.FK_slice_mk (Kd.N_reads' (Kd.N_mono (ok':=(fun k_=>((fun k_=>(P0_3_ k_∨w.heap.size≤k_)∧some k_≠(.slice (some ad685) x7_9.length co56:Value).ownBlock∧some k_≠(.slice Ao76 x10_60.length co76:Value).ownBlock∧k_≠gb662∧k_≠gb663∧k_≠gb665)) k_∧some k_≠(u666001:Value).ownBlock)) (HO_11.out) (fun k_ hk=>⟨⟨hk.1,⟨hk.2.1,⟨hk.2.2.1,⟨hk.2.2.2.2.1,⟨hk.2.2.2.2.2.1,hk.2.2.2.2.2.2⟩⟩⟩⟩⟩,hk.2.2.2.1⟩))).2.1 (Kd.N_F (Kd.N_mono (ok':=(fun k_=>((fun k_=>(P0_3_ k_∨w.heap.size≤k_)∧some k_≠(.slice (some ad685) x7_9.length co56:Value).ownBlock∧some k_≠(.slice Ao76 x10_60.length co76:Value).ownBlock∧k_≠gb662∧k_≠gb663∧k_≠gb665)) k_∧some k_≠(u666001:Value).ownBlock)) (HO_11.out) (fun k_ hk=>⟨⟨hk.1,⟨hk.2.1,⟨hk.2.2.1,⟨hk.2.2.2.2.1,⟨hk.2.2.2.2.2.1,hk.2.2.2.2.2.2⟩⟩⟩⟩⟩,hk.2.2.2.1⟩)))));(case aB=>exact(bl_ HB).out);(case aF=>exact(fun k_ hk=>⟨(.inr (Nat.le_trans (below_size (bl_ HB).out) hk)),Kd.fresh' (Kd.N_lt (krN_ HO_45)) k_ hk,Kd.fresh' (Kd.N_lt (krN_ HO_70)) k_ hk,Kd.freshB (bk_ BK662).out k_ hk,Kd.freshB (bk_ BK663).out k_ hk,Kd.freshB (bk_ BK665).out k_ hk⟩));(case aO=>exact(kdN_ (Kd.N_mono HO_666001.out (fun _ hk=>⟨hk.1,⟨hk.2.2.1,⟨hk.2.2.2.1,⟨hk.2.2.2.2.1,⟨hk.2.2.2.2.2.1,hk.2.2.2.2.2.2⟩⟩⟩⟩⟩))));(case aS=>exact(below_size (bl_ HB).out));(case aL=>have:=LMc119.out;omega);intro v712 w123 ho hb hg hat;rw[← Ny711.out] at ho;have n0_:=am_ (Kd.N_afterv (ok:=(fun k_=>(P0_3_ k_∨w.heap.size≤k_)∧some k_≠(.slice Ao124 x11_5.length co124:Value).ownBlock∧some k_≠(.slice Ao76 x10_60.length co76:Value).ownBlock∧k_≠gb662∧k_≠gb663∧k_≠gb665)) (kdN_ (Kd.N_mono HO_45.out (fun _ hk=>⟨⟨hk.1,⟨hk.2.1,⟨hk.2.2.1,⟨hk.2.2.2.2.1,⟨hk.2.2.2.2.2.1,hk.2.2.2.2.2.2⟩⟩⟩⟩⟩,hk.2.2.2.1⟩))) hg hat);have n1_:=am_ (Kd.N_afterv (ok:=(fun k_=>(P0_3_ k_∨w.heap.size≤k_)∧some k_≠(.slice Ao124 x11_5.length co124:Value).ownBlock∧some k_≠(.slice (some ad685) x7_9.length co56:Value).ownBlock∧k_≠gb662∧k_≠gb663∧k_≠gb665)) (kdN_ (Kd.N_mono HO_70.out (fun _ hk=>⟨⟨hk.1,⟨hk.2.1,⟨hk.2.2.1,⟨hk.2.2.2.2.1,⟨hk.2.2.2.2.2.1,hk.2.2.2.2.2.2⟩⟩⟩⟩⟩,hk.2.2.2.1⟩))) hg hat);have n2_:=am_ (Kd.V_afterv (ok:=(fun k_=>(P0_3_ k_∨w.heap.size≤k_)∧some k_≠(.slice Ao124 x11_5.length co124:Value).ownBlock∧some k_≠(.slice (some ad685) x7_9.length co56:Value).ownBlock∧some k_≠(.slice Ao76 x10_60.length co76:Value).ownBlock∧k_≠gb662∧k_≠gb663∧k_≠gb665)) (kdV_ (Kd.V_mono HO_663003.out (fun _ hk=>⟨⟨hk.1,⟨hk.2.1,⟨hk.2.2.1,⟨hk.2.2.2.1,⟨hk.2.2.2.2.2.1,⟨hk.2.2.2.2.2.2.1,hk.2.2.2.2.2.2.2⟩⟩⟩⟩⟩⟩,hk.2.2.2.2.1⟩))) hg hat);have n3_:=am_ (blk_grown (bk_ BK662).out hg (Kd.N_ne HO_666001.out BK662.out (by decide)));have n4_:=am_ (blk_grown (bk_ BK663).out hg (Kd.N_ne HO_666001.out BK663.out (by decide)));have n5_:=am_ (blk_grown (bk_ BK665).out hg (Kd.N_ne HO_666001.out BK665.out (by decide)));have n6_:=am_ (hb);have n7_:=am_ (ho);clear HO_45;clear HO_70;clear HO_663003;clear BK662;clear BK663;clear BK665;clear HB;clear HO_666001;clear HO_11;revert n0_ n1_ n2_ n3_ n4_ n5_ n6_ n7_;intro HO_45 HO_70 HO_663003 BK662 BK663 BK665 HB HO713;clear ho hb hg hat;obtain⟨Ao125,co125,eo125⟩:=Kd.N_slice HO713.out;subst eo125;obtain⟨hcz126_0,hcz126_1,hcz126_2,hfz126_0,hfz126_1,hfz126_2⟩:=bo3_ BK665))
  go_roundg k5
  case measure=>have:=HJ9.out;have:=HK2.out;have:=HJ60.out;have:=HJ68.out;have:=HK5.out;omega
  case rel=>exact⟨(x6_5),(wrap64 (x47_2+1)),(y711),(.slice Ao125 y711.length co125),eq_,eq_,H',⟨by have:=HJ9.out;have:=HK2.out;have:=HJ60.out;have:=HJ68.out;have:=HK5.out;omega⟩,⟨kdN_ (Kd.N_mono (Kd.N_far (Kd.N_mono HO_45.out (fun k_ hk=>(⟨hk,hk.1.2.2.2.2.2⟩:_∧k_≠gb665))) (fun _ hk=>hk.2) _) (fun _ hk=>⟨hk.1.1.1,⟨hk.1.2,⟨hk.1.1.2.2.2.1,⟨hk.1.1.2.2.2.2.1,hk.1.1.2.2.2.2.2⟩⟩⟩⟩))⟩,⟨kdV_ (Kd.V_mono (Kd.V_far (Kd.V_mono HO_663003.out (fun k_ hk=>(⟨hk,hk.1.2.2.2.2.2.2⟩:_∧k_≠gb665))) (fun _ hk=>hk.2) _) (fun _ hk=>⟨hk.1.1.1,⟨hk.1.1.2.2.1,⟨hk.1.2,⟨hk.1.1.2.2.2.2.1,⟨hk.1.1.2.2.2.2.2.1,hk.1.1.2.2.2.2.2.2⟩⟩⟩⟩⟩))⟩,⟨kdN_ (Kd.N_mono (Kd.N_far (Kd.N_mono HO713.out (fun k_ hk=>(⟨hk,hk.2.2.2.2.2⟩:_∧k_≠gb665))) (fun _ hk=>hk.2) _) (fun _ hk=>⟨hk.1.1,⟨hk.1.2.1,⟨hk.1.2.2.2.1,⟨hk.1.2.2.2.2.1,hk.1.2.2.2.2.2⟩⟩⟩⟩))⟩,⟨(bf_ BK662).out⟩,⟨(bf_ BK663).out⟩,⟨(bp_ BK665).out⟩,(bl_ HB)⟩
 rw[if_neg c57] at H
 have c57b0:=decide_eq_false c57
 clear c57
 obtain⟨y681,hy681⟩:∃y_:List ByteArray,y_=(([(⟨#[]⟩:ByteArray),(⟨#[64,105,110,116,101,103,101,114,32,49,44,32,50,49,126,50,52,44,32,226,128,166]⟩:ByteArray),(⟨#[64,100,101,99,105,109,97,108,32,48,46,48]⟩:ByteArray),(⟨#[64,32,119,104,97,116,32,101,118,101,114,32,64]⟩:ByteArray),(⟨#[]⟩:ByteArray)]:List ByteArray)):=⟨_,rfl⟩
 replace H:(if 0≤(wrap64 (Int.tmod (IntKind.u64.wrap (a0_2)) 5)) then (if (wrap64 (Int.tmod (IntKind.u64.wrap (a0_2)) 5))<(y681.length:Int) then (if x6_2.size+1≤9223372036854775807 then (if (x6_2++(⟨#[32]⟩:ByteArray)).size+(rdOf ByteArray.empty y681 (wrap64 (Int.tmod (IntKind.u64.wrap (a0_2)) 5))).size≤9223372036854775807 then (if ((x6_2++(⟨#[32]⟩:ByteArray))++(rdOf ByteArray.empty y681 (wrap64 (Int.tmod (IntKind.u64.wrap (a0_2)) 5)))).size+t666.size≤9223372036854775807 then (some (t664,x666001_2,rdOf ByteArray.empty y681 (wrap64 (Int.tmod (IntKind.u64.wrap (a0_2)) 5)),((x6_2++(⟨#[32]⟩:ByteArray))++(rdOf ByteArray.empty y681 (wrap64 (Int.tmod (IntKind.u64.wrap (a0_2)) 5))))++t666)) else (none)) else (none)) else (none)) else (none)) else (none))=some (r1,r2,r3,r4):=by first|(rw[hy681];with_reducible exact H)|(have H2_:=(Option.bind_some _ _).symm.trans H;rw[hy681];with_reducible exact H2_)|(have H2_:=(Option.bind_some _ _).symm.trans H;with_reducible exact H2_)|with_reducible exact H|(rw[hy681];exact H)|exact H
 have Ny681:=am_ hy681
 clear hy681
 obtain⟨ji127,hji127⟩:∃j_:Int,(wrap64 (Int.tmod (IntKind.u64.wrap (a0_2)) 5))=j_:=⟨_,rfl⟩
 replace H:(if 0≤(ji127) then (if (ji127)<(y681.length:Int) then (if x6_2.size+1≤9223372036854775807 then (if (x6_2++(⟨#[32]⟩:ByteArray)).size+(rdOf ByteArray.empty y681 (ji127)).size≤9223372036854775807 then (if ((x6_2++(⟨#[32]⟩:ByteArray))++(rdOf ByteArray.empty y681 (ji127))).size+t666.size≤9223372036854775807 then (some (t664,x666001_2,rdOf ByteArray.empty y681 (ji127),((x6_2++(⟨#[32]⟩:ByteArray))++(rdOf ByteArray.empty y681 (ji127)))++t666)) else (none)) else (none)) else (none)) else (none)) else (none))=some (r1,r2,r3,r4):=by first|(rw[hji127] at H;exact H)|(simp only[hji127] at H ⊢;exact H)
 have hji127w:(IntKind.i64.wrap (Int.tmod (IntKind.u64.wrap (a0_2)) 5))=ji127:=(i64_w _).trans hji127
 replace H:=ifn_ H
 obtain⟨c128,H⟩:=H
 have c128b0:decide (0≤(ji127))=true:=decide_eq_true c128
 clear c128
 replace H:=ifn_ H
 obtain⟨c129,H⟩:=H
 have c129b0:decide ((ji127)<(y681.length:Int))=true:=decide_eq_true c129
 clear c129
 replace H:=ifn_ H
 obtain⟨c130,H⟩:=H
 have c130b0:=eq_true c130
 have c130b1:decide (x6_2.size+1≤9223372036854775807)=true:=decide_eq_true c130
 try have c130b2:=eq_false (Nat.not_lt.2 c130)
 replace H:=ifn_ H
 obtain⟨c131,H⟩:=H
 have c131b0:=eq_true c131
 have c131b1:decide ((x6_2++(⟨#[32]⟩:ByteArray)).size+(rdOf ByteArray.empty y681 (ji127)).size≤9223372036854775807)=true:=decide_eq_true c131
 try (have c131b5:=c131b0;simp only[ByteArray.size_append,Int.natCast_add] at c131b5)
 try have c131b2:=eq_false (Nat.not_lt.2 c131)
 try have c131b3:(9223372036854775807<x6_2.size+1+(rdOf ByteArray.empty y681 (ji127)).size)=False:=eq_false (Nat.not_lt.2 (by have h_:=c131;simp only[ByteArray.size_append] at h_;exact h_))
 try have c131b4:(x6_2.size+1+(rdOf ByteArray.empty y681 (ji127)).size≤9223372036854775807)=True:=eq_true (by have h_:=c131;simp only[ByteArray.size_append] at h_;exact h_)
 replace H:=ifn_ H
 obtain⟨c132,H⟩:=H
 have c132b0:=eq_true c132
 have c132b1:decide (((x6_2++(⟨#[32]⟩:ByteArray))++(rdOf ByteArray.empty y681 (ji127))).size+t666.size≤9223372036854775807)=true:=decide_eq_true c132
 try (have c132b5:=c132b0;simp only[ByteArray.size_append,Int.natCast_add] at c132b5)
 try have c132b2:=eq_false (Nat.not_lt.2 c132)
 try have c132b3:(9223372036854775807<x6_2.size+1+(rdOf ByteArray.empty y681 (ji127)).size+t666.size)=False:=eq_false (Nat.not_lt.2 (by have h_:=c132;simp only[ByteArray.size_append] at h_;exact h_))
 try have c132b4:(x6_2.size+1+(rdOf ByteArray.empty y681 (ji127)).size+t666.size≤9223372036854775807)=True:=eq_true (by have h_:=c132;simp only[ByteArray.size_append] at h_;exact h_)
 simp only[Option.some.injEq,Prod.mk.injEq] at H
 obtain⟨rfl,rfl,rfl,rfl⟩:=H
 try go_wp2_with (first|((with_reducible refine gate_dst (N:=102) rfl ?_);refine Kd.R_lit Kd.string _ 9 ?hg (N:=102) ?hd (xs:=([(⟨#[]⟩:ByteArray),(⟨#[64,105,110,116,101,103,101,114,32,49,44,32,50,49,126,50,52,44,32,226,128,166]⟩:ByteArray),(⟨#[64,100,101,99,105,109,97,108,32,48,46,48]⟩:ByteArray),(⟨#[64,32,119,104,97,116,32,101,118,101,114,32,64]⟩:ByteArray),(⟨#[]⟩:ByteArray)]:List ByteArray)) (inner:=[.string (⟨#[]⟩:ByteArray),.string (⟨#[64,105,110,116,101,103,101,114,32,49,44,32,50,49,126,50,52,44,32,226,128,166]⟩:ByteArray),.string (⟨#[64,100,101,99,105,109,97,108,32,48,46,48]⟩:ByteArray),.string (⟨#[64,32,119,104,97,116,32,101,118,101,114,32,64]⟩:ByteArray),.string (⟨#[]⟩:ByteArray)]) (ok:=fun _=>True) (okp:=fun _=>True) ?hr ?hp (fun _ hk=>hk) trivial (Below.refl _ _) (Nat.le_refl _) (by simp) ?_;(case hd=>rfl);(case hg=>rfl);(case hr=>first|(go_simp;done)|(go_simp;rfl));(case hp=>exact(Reps.one (show Kd.M Kd.string _ _ _ (⟨#[]⟩:ByteArray) [.string (⟨#[]⟩:ByteArray)] from rfl) (Reps.one (show Kd.M Kd.string _ _ _ (⟨#[64,105,110,116,101,103,101,114,32,49,44,32,50,49,126,50,52,44,32,226,128,166]⟩:ByteArray) [.string (⟨#[64,105,110,116,101,103,101,114,32,49,44,32,50,49,126,50,52,44,32,226,128,166]⟩:ByteArray)] from rfl) (Reps.one (show Kd.M Kd.string _ _ _ (⟨#[64,100,101,99,105,109,97,108,32,48,46,48]⟩:ByteArray) [.string (⟨#[64,100,101,99,105,109,97,108,32,48,46,48]⟩:ByteArray)] from rfl) (Reps.one (show Kd.M Kd.string _ _ _ (⟨#[64,32,119,104,97,116,32,101,118,101,114,32,64]⟩:ByteArray) [.string (⟨#[64,32,119,104,97,116,32,101,118,101,114,32,64]⟩:ByteArray)] from rfl) (Reps.one (show Kd.M Kd.string _ _ _ (⟨#[]⟩:ByteArray) [.string (⟨#[]⟩:ByteArray)] from rfl) (Reps.none _ _)))))));intro v682 w133 ho134 hb hg_ hnew_;clear hg_ hnew_;(first|rw[← Ny681.out] at ho134|(simp only[Int.reduceToNat] at ho134;rw[← Ny681.out] at ho134));have HO683:=am_ (Kd.R_lower (Kd.R_newM (M:=fun k_=>(w.heap.size≤k_)) ho134 (below_size (bl_ HB).out) (fun k_ h_=>h_)) (below_size (bl_ HB).out));replace HO_45:=am_ (Kd.N_elder' (krN_ HO_45) (Kd.R_base ho134) hb);replace HO_663003:=am_ (Kd.V_elder' (krV_ HO_663003) (Kd.R_base ho134) hb);replace HO_666001:=am_ (Kd.N_elder' (krN_ HO_666001) (Kd.R_base ho134) hb);replace BK662:=bb_ BK662 hb;replace BK663:=bb_ BK663 hb;replace BK665:=bb_ BK665 hb;replace HB:=am_ (below_step (bl_ HB).out hb);clear hb ho134;have hnb135:=NB662_663.out;have hnc135:=NB663_662.out;have hnb136:=NB662_665.out;have hnc136:=NB665_662.out;obtain⟨hcz137_0,hcz137_1,hcz137_2,hcz137_3,hfz137_0,hfz137_1,hfz137_2,hfz137_3⟩:=bo4_ BK662;obtain⟨Ao138,co138,eo138⟩:=Kd.R_slice HO683.out;subst eo138;have p684:0≤((ji127):Int):=od_;have q684:(ji127)<(y681.length:Int):=od_;obtain⟨ad684,e684,hx684_0⟩:=Kd.at_string (Kd.R_reads' HO683.out).2.2 (ji127) p684 q684;cases e684;replace p684:=eq_true p684;replace q684:=eq_true q684;have hnb139:=NB665_663.out;have hnc139:=NB663_665.out;obtain⟨hcz140_0,hcz140_1,hcz140_2,hfz140_0,hfz140_1,hfz140_2⟩:=bo3_ BK665))
 obtain⟨w141,hWz2⟩:∃W_,W_=(w133.setCell ⟨gb665,2,none⟩ (.string (rdOf ByteArray.empty y681 (ji127)))):=⟨_,rfl⟩
 have n0_:Aside0 (Kd.N (Kd.slice 46 k46) 47 w141 w.heap.size (fun k_=>(P0_3_ k_∨w.heap.size≤k_)∧some k_≠(u666001:Value).ownBlock∧some k_≠(.slice (some ad684) y681.length co138:Value).ownBlock∧k_≠gb662∧k_≠gb663∧k_≠gb665) (.slice Ao56 x7_9.length co56) x7_9):=by rw[hWz2];exact⟨kdN_ (Kd.N_mono (Kd.N_far (Kd.N_mono HO_45.out (fun k_ hk=>(⟨hk,hk.1.2.2.2.2⟩:_∧k_≠gb665))) (fun _ hk=>hk.2) _) (fun _ hk=>⟨hk.1.1.1,⟨hk.1.1.2.1,⟨hk.1.2,⟨hk.1.1.2.2.1,⟨hk.1.1.2.2.2.1,hk.1.1.2.2.2.2⟩⟩⟩⟩⟩))⟩
 have n1_:Aside0 (Kd.V (Kd.slice 46 k46) 47 w141 w.heap.size (fun k_=>(P0_3_ k_∨w.heap.size≤k_)∧some k_≠(.slice Ao56 x7_9.length co56:Value).ownBlock∧some k_≠(u666001:Value).ownBlock∧some k_≠(.slice (some ad684) y681.length co138:Value).ownBlock∧k_≠gb662∧k_≠gb663∧k_≠gb665) (.slice A0_3 l0_3.length c0_3) l0_3):=by rw[hWz2];exact⟨kdV_ (Kd.V_mono (Kd.V_far (Kd.V_mono HO_663003.out (fun k_ hk=>(⟨hk,hk.1.2.2.2.2.2⟩:_∧k_≠gb665))) (fun _ hk=>hk.2) _) (fun _ hk=>⟨hk.1.1.1,⟨hk.1.1.2.1,⟨hk.1.1.2.2.1,⟨hk.1.2,⟨hk.1.1.2.2.2.1,⟨hk.1.1.2.2.2.2.1,hk.1.1.2.2.2.2.2⟩⟩⟩⟩⟩⟩))⟩
 have n2_:Aside0 (Kd.N (Kd.slice 53 k53) 54 w141 w.heap.size (fun k_=>(P0_3_ k_∨w.heap.size≤k_)∧some k_≠(.slice Ao56 x7_9.length co56:Value).ownBlock∧some k_≠(.slice (some ad684) y681.length co138:Value).ownBlock∧k_≠gb662∧k_≠gb663∧k_≠gb665) u666001 x666001_2):=by rw[hWz2];exact⟨kdN_ (Kd.N_mono (Kd.N_far (Kd.N_mono HO_666001.out (fun k_ hk=>(⟨hk,hk.1.2.2.2.2⟩:_∧k_≠gb665))) (fun _ hk=>hk.2) _) (fun _ hk=>⟨hk.1.1.1,⟨hk.1.1.2.1,⟨hk.1.2,⟨hk.1.1.2.2.1,⟨hk.1.1.2.2.2.1,hk.1.1.2.2.2.2⟩⟩⟩⟩⟩))⟩
 have n3_:Aside0 (Kd.R Kd.string 9 w141 w.heap.size (fun k_=>(w.heap.size≤k_)) (.slice (some ad684) y681.length co138) y681):=by rw[hWz2];exact⟨kdR_ (Kd.R_mono (Kd.R_far (Kd.R_types HO683.out BK665.out (by decide)) (fun _ hk=>hk.2) _) (fun _ hk=>hk.1.1))⟩
 have n4_:=wh_ hWz2 (bf_ BK662)
 have n5_:=wh_ hWz2 (bf_ BK663)
 have n6_:Aside0 (w141.heap[gb665]? = some (.cells #[.int .i64 t664,u666001,.string (rdOf ByteArray.empty y681 (ji127))] 41 (0,0))):=by rw[hWz2];exact⟨(bp_ BK665).out⟩
 have n7_:=wb_ hWz2 (bl_ HB)
 (try clear HO_45)
 (try clear HO_663003)
 (try clear HO_666001)
 (try clear HO683)
 (try clear BK662)
 (try clear BK663)
 (try clear BK665)
 (try clear HB)
 rw[← hWz2]
 clear hWz2
 revert n0_ n1_ n2_ n3_ n4_ n5_ n6_ n7_
 intro HO_45 HO_663003 HO_666001 HO683 BK662 BK663 BK665 HB
 replace HO_45:=am_ (Kd.N_drew HO_45.out)
 replace HO_663003:=am_ (Kd.V_drew HO_663003.out)
 replace HO_666001:=am_ (Kd.N_drew HO_666001.out)
 replace HO683:=am_ (Kd.R_drew HO683.out)
 replace BK662:=am_ (blk_drew BK662.out)
 replace BK663:=am_ (blk_drew BK663.out)
 replace BK665:=am_ (blk_drew BK665.out)
 replace HB:=am_ (below_drew1 HB.out)
 obtain⟨Ao144,co144,eo144⟩:=Kd.N_slice HO_666001.out
 (first|subst eo144|(injection eo144 with f1_ f2_ f3_;have f4_:=f1_.symm;have f5_:=f3_.symm;clear f1_ f2_ f3_;subst f4_;subst f5_))
 refine start_ (n:=10) (S:=fun w'=>w'.cell? ⟨gb665,0,none⟩=some (.int .i64 t664)∧w'.cell? ⟨gb665,1,none⟩=some (.slice Ao144 x666001_2.length co144)∧w'.cell? ⟨gb665,2,none⟩=some (.string (rdOf ByteArray.empty y681 (ji127)))) (ds:=[]) #[false,false,false,false,false,false,false,false,false,false] (by kernel_rfl) rfl rfl ⟨bc_ BK665 0,bc_ BK665 1,bc_ BK665 2⟩ (fun hHeld=>?_);refine with_tabW florinlaw06_Made_Write.tab29 florinlaw06_Made_Write.bits29 (fun HT_ HW_=>?_)
 generalize w141.drew=w142 at HO_45 HO_663003 HO_666001 HO683 BK662 BK663 BK665 HB hHeld ⊢
 refine pu_ 1 112 (bm_ 10 2) HT_ ?_
 refine pu_ 2 113 (bm_ 10 6) HT_ ?_
 refine pu_ 3 114 (bm_ 10 14) HT_ ?_
 refine pu_ 6 117 (bm_ 10 78) HT_ ?_
 refine tk_ 0 111 (bm_ 10 79) HT_ HW_ hHeld rfl (by rintro w' ⟨s0,s1,s2⟩;go_simp;with_reducible rfl) ?_
 refine tk_ 4 115 (bm_ 10 95) HT_ HW_ hHeld rfl (by rintro w' ⟨s0,s1,s2⟩;go_simp;with_reducible rfl) ?_
 refine pu_ 5 116 (bm_ 10 127) HT_ ?_
 refine pu_ 7 118 (bm_ 10 255) HT_ ?_
 refine one_ (i:=8) (N:=none) (bm_ 10 511) rfl rfl (one_of HT_.out (by kernel_rfl)) (by decide) (fun K hK=>?_)
 have hs143:w142.cell? ⟨gb663,0,none⟩=some (.int .i64 0):=bc_ BK663 0
 have hfs143:=blk_frozen BK663.out 0
 have hns143_0:=NB662_663.out
 have hns143_2:=NB665_663.out
 have hms143_0:=NB663_662.out
 have hms143_2:=NB663_665.out
 have hs145:w142.cell? ⟨gb663,1,none⟩=some (.slice none 0 0):=bc_ BK663 1
 have hfs145:=blk_frozen BK663.out 1
 have hns145_0:=NB662_663.out
 have hns145_2:=NB665_663.out
 have hms145_0:=NB663_662.out
 have hms145_2:=NB663_665.out
 have hs146:w142.cell? ⟨gb663,2,none⟩=some (.string (⟨#[]⟩:ByteArray)):=bc_ BK663 2
 have hfs146:=blk_frozen BK663.out 2
 have hns146_0:=NB662_663.out
 have hns146_2:=NB665_663.out
 have hms146_0:=NB663_662.out
 have hms146_2:=NB663_665.out
 refine skip_ (w1:=?_) (by rfl) rfl ?_ ?_
 rotate_left
 ·go_simp
  rfl
 refine hK.out _ _ ⟨((cell_far (p:=⟨gb663,_,none⟩) NB665_663.out _).trans (((cell_far (p:=⟨gb663,_,none⟩) NB665_663.out _).trans (((cell_far (p:=⟨gb663,_,none⟩) NB665_663.out _).trans (hHeld.1)))))),((cell_far (p:=⟨gb663,_,none⟩) NB665_663.out _).trans (((cell_far (p:=⟨gb663,_,none⟩) NB665_663.out _).trans (((cell_far (p:=⟨gb663,_,none⟩) NB665_663.out _).trans (hHeld.2.1)))))),((cell_far (p:=⟨gb663,_,none⟩) NB665_663.out _).trans (((cell_far (p:=⟨gb663,_,none⟩) NB665_663.out _).trans (((cell_far (p:=⟨gb663,_,none⟩) NB665_663.out _).trans (hHeld.2.2))))))⟩ (fun hHeld=>?_)
 clear hK K
 refine pu_ 9 3 (bm_ 10 1023) HT_ ?_
 refine done_ (done_of HT_.out (by kernel_rfl)) ?_
 try go_wp2
 refine bodyPost_ret (results_ct rfl _ _ gb663 41 #[.int .i64 t664,.slice Ao144 x666001_2.length co144,.string (rdOf ByteArray.empty y681 (ji127))] (0,0) _ rfl ((bp_ BK663).out) Tryz.underlying41 rfl (by kernel_rfl)) rfl ?_
 exact⟨_,by first|rfl|(simp[errW_none,errW_some] <;> rfl)|(simp only[← hji127];first|rfl|(simp[errW_none,errW_some] <;> rfl))|(simp[*,errW_none,errW_some] <;> first|rfl|exact given_isEmpty _|exact(given_isEmpty _).symm),kdN_ (Kd.N_mono (Kd.N_far (Kd.N_far (Kd.N_far (Kd.N_mono HO_666001.out (fun k_ hk=>(⟨hk,hk.2.2.2.2.1⟩:_∧k_≠gb663))) (fun _ hk=>hk.2) _) (fun _ hk=>hk.2) _) (fun _ hk=>hk.2) _) (fun _ hk=>hk.1.1)),by repeat(first|(with_reducible first|exact HB.out|apply below_alloc|apply pw_below_drewN|apply below_drew1|refine below_set ?_ GE662.out|refine below_set ?_ GE663.out|refine below_set ?_ GE665.out)|exact HB.out)⟩

end Go.Proofs.YtadagjgkanlmdaaGreatDoor.P
