import Derived.Test.YtadagjgkanlmdaaGreatDoorPx0
import Derived.Test.YtadagjgkanlmdaaGreatDoorPx1
import Derived.Test.YtadagjgkanlmdaaGreatDoorPx13
import Derived.Test.YtadagjgkanlmdaaGreatDoorPx14
import Derived.Test.YtadagjgkanlmdaaGreatDoorPx15
namespace Go.Proofs.YtadagjgkanlmdaaGreatDoor.P
open Go.RowKit Go.Proofs.YtadagjgkanlmdaaGreatDoorW.PrintWords Go.Proofs.YtadagjgkanlmdaaGreatDoorW.PrintLast Go.Proofs.YtadagjgkanlmdaaGreatDoorW.PrintMore
attribute [local go_sem] max2_int min2_int max_two min_two max_three min_three max_four min_four
set_option maxHeartbeats 64000000
set_option maxRecDepth 100000
set_option linter.unusedVariables false
set_option linter.unusedSimpArgs false

def florinlaw07_Holds.l0:Nat→ByteArray→Bool→List (S57)→Int→Int→Int→Int→Bool→List (S57)→Bool→ByteArray→Int→Option (Bool)
 | 0,_,_,_,_,_,_,_,_,_,_,_,_=>none
 | k+1,x7,x8,x26,x27,x28,x883000,x883001,x883002,x883003,x891000,x891001,x891002=>if x28<x27 then (if 0≤x28 then (if x28<(x26.length:Int) then ((num_Of.f k ((rd_T57 x26 x28).f0)).bind fun t895=>((dec_Made.f k false t895 0).bind fun bt896=>((num_Of.f k ((rd_T57 x26 x28).f1)).bind fun t900=>((dec_Made.f k false t900 0).bind fun bt901=>(if x8=true then (florinlaw07_Holds.l0 k x7 true x26 x27 (wrap64 (x28+1)) x883000 x883001 x883002 x883003 x891000 x891001 x891002) else (if x7.toList=([]:List UInt8) then ((dec_Cmp.f k bt896.1 bt896.2.1 bt896.2.2 x891000 x891001 x891002).bind fun t905=>(if t905≤0 then ((dec_Cmp.f k x891000 x891001 x891002 bt901.1 bt901.2.1 bt901.2.2).bind fun t906=>(florinlaw07_Holds.l0 k x7 (decide (t906≤0)) x26 x27 (wrap64 (x28+1)) x883000 x883001 x883002 x883003 x891000 x891001 x891002)) else (florinlaw07_Holds.l0 k x7 false x26 x27 (wrap64 (x28+1)) x883000 x883001 x883002 x883003 x891000 x891001 x891002))) else (florinlaw07_Holds.l0 k x7 false x26 x27 (wrap64 (x28+1)) x883000 x883001 x883002 x883003 x891000 x891001 x891002))))))) else (none)) else (none)) else (some (x8 !=x883002))
def florinlaw07_Holds.f (k:Nat) (a0_0:Int) (a0_1:Int) (a0_2:Bool) (l0_3:List (S57)) (a1_0:ByteArray) (a1_1:ByteArray) (a1_2:Int):Option (Bool):=(florinlaw07_value.f k a0_0 a1_0 a1_1 a1_2).bind fun bt884=>((florinlaw07_left.f k bt884.1 bt884.2.1 bt884.2.2 a0_1).bind fun bt887=>((dec_Dec_Parts.f k bt887.1 bt887.2.1 bt887.2.2).bind fun bt891=>(florinlaw07_Holds.l0 k bt891.2 false l0_3 (l0_3.length:Int) 0 a0_0 a0_1 a0_2 l0_3 bt887.1 bt887.2.1 bt887.2.2)))
def florinlaw07_Holds.T1:Bool × List (List Nat × List Nat):=(true,[([],[]),([0],[0]),([],[]),([1,2],[1,2]),([],[]),([4],[4]),([3,5,3],[3,5]),([],[]),([7,6,6,0,1,2,3,4,5,6,7],[6,7])])
def florinlaw07_Holds.B1:List Nat:=[0,1,0,7,0,16,63,0,255]
theorem florinlaw07_Holds.tab1:rtab .any (opsOf Tryz.f20 1)=florinlaw07_Holds.T1:=by kernel_rfl
theorem florinlaw07_Holds.bits1:waitsOk florinlaw07_Holds.T1.2 florinlaw07_Holds.B1=true:=by kernel_rfl
theorem florinlaw07_Holds.calls (k:Nat) (a0_0:Int) (a0_1:Int) (a0_2:Bool) (A0_3:Option Addr) (c0_3:Nat) (l0_3:List (S57)) (a1_0:ByteArray) (a1_1:ByteArray) (a1_2:Int) (r:Bool) (w:World) (hr0_3:Kd.C k57 w A0_3 l0_3.length l0_3) (hc0_3:l0_3.length≤c0_3) (h:florinlaw07_Holds.f k a0_0 a0_1 a0_2 l0_3 a1_0 a1_1 a1_2=some r) :
  Calls Tryz.prog 20 #[.agg #[.int .u8 a0_0,.int .i64 a0_1,.bool a0_2,.slice A0_3 l0_3.length c0_3],.agg #[.string a1_0,.string a1_1,.int .i64 a1_2]] w fun e w'=>e= .returned (.bool r)∧Below w.heap.size w w':=by
 have hu53:=Tryz.underlying53
 have hu27:=Tryz.underlying27
 have hu97:=Tryz.underlying97
 have hu57:=Tryz.underlying57
 have HR0_3:=am_ hr0_3
 have HC0_3:=am_ hc0_3
 clear hr0_3 hc0_3
 have HB:=am_ (Below.refl w.heap.size w)
 have H:=h
 clear h
 unfold florinlaw07_Holds.f at H
 replace H:=Option.bind_eq_some_iff.mp H
 obtain⟨⟨t884,t885,t886⟩,A30,H⟩:=H
 dsimp only at H
 have A3:=am_ A30
 clear A30
 replace H:=Option.bind_eq_some_iff.mp H
 obtain⟨⟨t887,t888,t889⟩,A40,H⟩:=H
 dsimp only at H
 have A4:=am_ A40
 clear A40
 replace H:=Option.bind_eq_some_iff.mp H
 obtain⟨⟨t891,t892⟩,A50,H⟩:=H
 dsimp only at H
 have A5:=am_ A50
 clear A50
 have H':=am_ H
 clear H
 go_enter Tryz.func20,Tryz.ntmps20
 try go_wp2_with (first|((with_reducible refine gate_dst (N:=2) rfl ?_);refine be_ 2 #[.int .u8 a0_0,.int .i64 a0_1,.bool a0_2,.slice A0_3 l0_3.length c0_3] 53 ?_;intro gb882 hg w6 hbox hb;have BK882:=am_ (hbox);have GW882:=sz_ HB hg;have GE882:=sz_ HB hg;replace HB:=am_ (below_step (bl_ HB).out hb);clear hb hbox hg)|((with_reducible refine gate_dst (N:=3) rfl ?_);refine be_ 3 #[.string a1_0,.string a1_1,.int .i64 a1_2] 27 ?_;intro gb883 hg w7 hbox hb;have BK883:=am_ (hbox);have GW883:=sz_ HB hg;have GE883:=sz_ HB hg;have NB882_883:=na_ BK882 hg;have NB883_882:=nb_ BK882 hg;replace BK882:=bb_ BK882 hb;replace HB:=am_ (below_step (bl_ HB).out hb);clear hb hbox hg))
 replace BK882:=am_ (blk_drew BK882.out)
 replace BK883:=am_ (blk_drew BK883.out)
 replace HB:=am_ (below_drew1 HB.out)
 refine start_ (n:=9) (S:=fun w'=>w'.cell? ⟨gb882,0,none⟩=some (.int .u8 a0_0)∧w'.cell? ⟨gb882,1,none⟩=some (.int .i64 a0_1)∧w'.cell? ⟨gb882,2,none⟩=some (.bool a0_2)∧w'.cell? ⟨gb882,3,none⟩=some (.slice A0_3 l0_3.length c0_3)∧w'.cell? ⟨gb883,0,none⟩=some (.string a1_0)∧w'.cell? ⟨gb883,1,none⟩=some (.string a1_1)∧w'.cell? ⟨gb883,2,none⟩=some (.int .i64 a1_2)) (ds:=[]) #[false,false,false,false,false,false,false,false,false] (by kernel_rfl) rfl rfl ⟨bc_ BK882 0,bc_ BK882 1,bc_ BK882 2,bc_ BK882 3,bc_ BK883 0,bc_ BK883 1,bc_ BK883 2⟩ (fun hHeld=>?_);refine with_tabW florinlaw07_Holds.tab1 florinlaw07_Holds.bits1 (fun HT_ HW_=>?_)
 generalize w7.drew=w8 at BK882 BK883 HB hHeld ⊢
 refine pu_ 0 13 #[true,false,false,false,false,false,false,false,false] HT_ ?_
 refine pu_ 4 17 #[true,false,false,false,true,false,false,false,false] HT_ ?_
 refine tk_ 1 14 #[true,true,false,false,true,false,false,false,false] HT_ HW_ hHeld rfl (by rintro w' ⟨s0,s1,s2,s3,s4,s5,s6⟩;go_simp;with_reducible rfl) ?_
 refine tk_ 2 15 #[true,true,true,false,true,false,false,false,false] HT_ HW_ hHeld rfl (by rintro w' ⟨s0,s1,s2,s3,s4,s5,s6⟩;go_simp;with_reducible rfl) ?_
 refine tk_ 5 18 #[true,true,true,false,true,true,false,false,false] HT_ HW_ hHeld rfl (by rintro w' ⟨s0,s1,s2,s3,s4,s5,s6⟩;go_simp;with_reducible rfl) ?_
 refine join_ (σ:=Nat) 1 #[true,true,true,true,true,true,true,true,false] (fun s_=>[(16,.agg #[.bool t884,.string t885,.int .i64 t886]),(19,.agg #[.bool t887,.string t888,.int .i64 t889]),(5,.pointer (some ⟨s_,0,none⟩))]) (fun s_ w'=>(w'.cell? ⟨gb882,0,none⟩=some (.int .u8 a0_0)∧w'.cell? ⟨gb882,1,none⟩=some (.int .i64 a0_1)∧w'.cell? ⟨gb882,2,none⟩=some (.bool a0_2)∧w'.cell? ⟨gb882,3,none⟩=some (.slice A0_3 l0_3.length c0_3)∧w'.cell? ⟨gb883,0,none⟩=some (.string a1_0)∧w'.cell? ⟨gb883,1,none⟩=some (.string a1_1)∧w'.cell? ⟨gb883,2,none⟩=some (.int .i64 a1_2))∧(w'.heap[gb882]? = some (.cells #[.int .u8 a0_0,.int .i64 a0_1,.bool a0_2,.slice A0_3 l0_3.length c0_3] 53 (0,0)))∧(w'.heap[gb883]? = some (.cells #[.string a1_0,.string a1_1,.int .i64 a1_2] 27 (0,0)))∧(w'.heap[s_]? = some (.cells #[.bool false,.string (⟨#[]⟩:ByteArray),.int .i64 0] 97 (0,0)))∧(w.heap.size≤s_)∧(w.heap.size≤s_)∧(gb882≠s_)∧(s_≠gb882)∧(gb883≠s_)∧(s_≠gb883)∧(Below w.heap.size w w')) ?_ ?_
 rotate_left
 ·intro hCont
  refine two_ (i:=3) (j:=7) (Ni:=some 16) (Nj:=some 5) #[true,true,true,true,true,true,false,false,false] #[true,true,true,false,true,true,false,true,false] rfl rfl rfl rfl (two_of HT_.out (by kernel_rfl)) (by decide) (by decide) (fun K hK=>?_) (fun K hK=>?_)
  ·skip
   refine gs_ Tryz.func42 #[.int .u8 a0_0,.agg #[.string a1_0,.string a1_1,.int .i64 a1_2]] ?_
   with_reducible refine(florinlaw07_value.calls _ _ _ _ _ _ _ _ _ A3.out).mono ?_
   rintro e w9 ⟨rfl,hb⟩
   refine⟨_,rfl,?_⟩
   replace BK882:=bb_ BK882 hb
   replace BK883:=bb_ BK883 hb
   (try replace HR0_3:=am_ (Kd.C_below (by repeat(first|(with_reducible exact HR0_3.out)|(with_reducible refine Kd.C_alloc ?_ _)|(with_reducible refine Kd.C_drewN ?_ _)|(with_reducible refine Kd.C_drew ?_)|exact HR0_3.out)) hb))
   replace HB:=am_ (below_step (bl_ HB).out hb)
   (try clear hb)
   (try clear hb2)
   (try clear hk)
   (try clear hi)
   refine hK.out _ _ ⟨bc_ BK882 0,bc_ BK882 1,bc_ BK882 2,bc_ BK882 3,bc_ BK883 0,bc_ BK883 1,bc_ BK883 2⟩ (fun hHeld=>?_)
   clear hK K
   refine nm_ 16 ?_
   refine two_ (i:=6) (j:=7) (Ni:=some 19) (Nj:=some 5) #[true,true,true,true,true,true,true,false,false] #[true,true,true,true,true,true,false,true,false] rfl rfl rfl rfl (two_of HT_.out (by kernel_rfl)) (by decide) (by decide) (fun K hK=>?_) (fun K hK=>?_)
   ·skip
    refine gs_ Tryz.func41 #[.agg #[.bool t884,.string t885,.int .i64 t886],.int .i64 a0_1] ?_
    with_reducible refine(florinlaw07_left.calls _ _ _ _ _ _ _ _ _ A4.out).mono ?_
    rintro e w10 ⟨rfl,hb⟩
    refine⟨_,rfl,?_⟩
    replace BK882:=bb_ BK882 hb
    replace BK883:=bb_ BK883 hb
    (try replace HR0_3:=am_ (Kd.C_below (by repeat(first|(with_reducible exact HR0_3.out)|(with_reducible refine Kd.C_alloc ?_ _)|(with_reducible refine Kd.C_drewN ?_ _)|(with_reducible refine Kd.C_drew ?_)|exact HR0_3.out)) hb))
    replace HB:=am_ (below_step (bl_ HB).out hb)
    (try clear hb)
    (try clear hb2)
    (try clear hk)
    (try clear hi)
    refine hK.out _ _ ⟨bc_ BK882 0,bc_ BK882 1,bc_ BK882 2,bc_ BK882 3,bc_ BK883 0,bc_ BK883 1,bc_ BK883 2⟩ (fun hHeld=>?_)
    clear hK K
    refine nm_ 19 ?_
    refine one_ (i:=7) (N:=some 5) #[true,true,true,true,true,true,true,true,false] rfl rfl (one_of HT_.out (by kernel_rfl)) (by decide) (fun K hK=>?_)
    refine box_step ?hg (N:=5) ?hd (cs:= #[.bool false,.string (⟨#[]⟩:ByteArray),.int .i64 0]) (t:=97) ?hr ?_;(case hd=>rfl);(case hg=>rfl);(case hr=>first|(go_simp;done)|(go_simp;rfl))
    intro gb890 hg w11 hbox hb
    have n0_:=bb_ BK882 hb
    have n1_:=bb_ BK883 hb
    have n2_:=am_ (below_step (bl_ HB).out hb)
    have n3_:=am_ (hbox)
    have n4_:=sz_ HB hg
    have n5_:=sz_ HB hg
    have n6_:=na_ BK882 hg
    have n7_:=nb_ BK882 hg
    have n8_:=na_ BK883 hg
    have n9_:=nb_ BK883 hg
    clear BK882
    clear BK883
    clear HB
    revert n0_ n1_ n2_ n3_ n4_ n5_ n6_ n7_ n8_ n9_
    intro BK882 BK883 HB BK890 GW890 GE890 NB882_890 NB890_882 NB883_890 NB890_883
    clear hb hbox hg
    refine hK.out _ _ ⟨bc_ BK882 0,bc_ BK882 1,bc_ BK882 2,bc_ BK882 3,bc_ BK883 0,bc_ BK883 1,bc_ BK883 2⟩ (fun hHeld=>?_)
    clear hK K
    refine nm_ 5 ?_
    exact norm_ (by simp only[putAll,Act.put,List.setIfInBounds_toArray,List.set_cons_zero,List.set_cons_succ]) (hCont (gb890) _ ⟨hHeld,(bk_ BK882).out,(bk_ BK883).out,(bk_ BK890).out,GW890.out,GE890.out,NB882_890.out,NB890_882.out,NB883_890.out,NB890_883.out,(bl_ HB).out⟩)
   skip
   refine box_step ?hg (N:=5) ?hd (cs:= #[.bool false,.string (⟨#[]⟩:ByteArray),.int .i64 0]) (t:=97) ?hr ?_;(case hd=>rfl);(case hg=>rfl);(case hr=>first|(go_simp;done)|(go_simp;rfl))
   intro gb890 hg w10 hbox hb
   have n0_:=bb_ BK882 hb
   have n1_:=bb_ BK883 hb
   have n2_:=am_ (below_step (bl_ HB).out hb)
   have n3_:=am_ (hbox)
   have n4_:=sz_ HB hg
   have n5_:=sz_ HB hg
   have n6_:=na_ BK882 hg
   have n7_:=nb_ BK882 hg
   have n8_:=na_ BK883 hg
   have n9_:=nb_ BK883 hg
   clear BK882
   clear BK883
   clear HB
   revert n0_ n1_ n2_ n3_ n4_ n5_ n6_ n7_ n8_ n9_
   intro BK882 BK883 HB BK890 GW890 GE890 NB882_890 NB890_882 NB883_890 NB890_883
   clear hb hbox hg
   refine hK.out _ _ ⟨bc_ BK882 0,bc_ BK882 1,bc_ BK882 2,bc_ BK882 3,bc_ BK883 0,bc_ BK883 1,bc_ BK883 2⟩ (fun hHeld=>?_)
   clear hK K
   refine nm_ 5 ?_
   refine one_ (i:=6) (N:=some 19) #[true,true,true,true,true,true,true,true,false] rfl rfl (one_of HT_.out (by kernel_rfl)) (by decide) (fun K hK=>?_)
   refine gs_ Tryz.func41 #[.agg #[.bool t884,.string t885,.int .i64 t886],.int .i64 a0_1] ?_
   with_reducible refine(florinlaw07_left.calls _ _ _ _ _ _ _ _ _ A4.out).mono ?_
   rintro e w11 ⟨rfl,hb⟩
   refine⟨_,rfl,?_⟩
   replace BK882:=bb_ BK882 hb
   replace BK883:=bb_ BK883 hb
   replace BK890:=bb_ BK890 hb
   (try replace HR0_3:=am_ (Kd.C_below (by repeat(first|(with_reducible exact HR0_3.out)|(with_reducible refine Kd.C_alloc ?_ _)|(with_reducible refine Kd.C_drewN ?_ _)|(with_reducible refine Kd.C_drew ?_)|exact HR0_3.out)) hb))
   replace HB:=am_ (below_step (bl_ HB).out hb)
   (try clear hb)
   (try clear hb2)
   (try clear hk)
   (try clear hi)
   refine hK.out _ _ ⟨bc_ BK882 0,bc_ BK882 1,bc_ BK882 2,bc_ BK882 3,bc_ BK883 0,bc_ BK883 1,bc_ BK883 2⟩ (fun hHeld=>?_)
   clear hK K
   refine nm_ 19 ?_
   exact norm_ (by simp only[putAll,Act.put,List.setIfInBounds_toArray,List.set_cons_zero,List.set_cons_succ]) (hCont (gb890) _ ⟨hHeld,(bk_ BK882).out,(bk_ BK883).out,(bk_ BK890).out,GW890.out,GE890.out,NB882_890.out,NB890_882.out,NB883_890.out,NB890_883.out,(bl_ HB).out⟩)
  skip
  refine box_step ?hg (N:=5) ?hd (cs:= #[.bool false,.string (⟨#[]⟩:ByteArray),.int .i64 0]) (t:=97) ?hr ?_;(case hd=>rfl);(case hg=>rfl);(case hr=>first|(go_simp;done)|(go_simp;rfl))
  intro gb890 hg w9 hbox hb
  have n0_:=bb_ BK882 hb
  have n1_:=bb_ BK883 hb
  have n2_:=am_ (below_step (bl_ HB).out hb)
  have n3_:=am_ (hbox)
  have n4_:=sz_ HB hg
  have n5_:=sz_ HB hg
  have n6_:=na_ BK882 hg
  have n7_:=nb_ BK882 hg
  have n8_:=na_ BK883 hg
  have n9_:=nb_ BK883 hg
  clear BK882
  clear BK883
  clear HB
  revert n0_ n1_ n2_ n3_ n4_ n5_ n6_ n7_ n8_ n9_
  intro BK882 BK883 HB BK890 GW890 GE890 NB882_890 NB890_882 NB883_890 NB890_883
  clear hb hbox hg
  refine hK.out _ _ ⟨bc_ BK882 0,bc_ BK882 1,bc_ BK882 2,bc_ BK882 3,bc_ BK883 0,bc_ BK883 1,bc_ BK883 2⟩ (fun hHeld=>?_)
  clear hK K
  refine nm_ 5 ?_
  refine one_ (i:=3) (N:=some 16) #[true,true,true,true,true,true,false,true,false] rfl rfl (one_of HT_.out (by kernel_rfl)) (by decide) (fun K hK=>?_)
  refine gs_ Tryz.func42 #[.int .u8 a0_0,.agg #[.string a1_0,.string a1_1,.int .i64 a1_2]] ?_
  with_reducible refine(florinlaw07_value.calls _ _ _ _ _ _ _ _ _ A3.out).mono ?_
  rintro e w10 ⟨rfl,hb⟩
  refine⟨_,rfl,?_⟩
  replace BK882:=bb_ BK882 hb
  replace BK883:=bb_ BK883 hb
  replace BK890:=bb_ BK890 hb
  (try replace HR0_3:=am_ (Kd.C_below (by repeat(first|(with_reducible exact HR0_3.out)|(with_reducible refine Kd.C_alloc ?_ _)|(with_reducible refine Kd.C_drewN ?_ _)|(with_reducible refine Kd.C_drew ?_)|exact HR0_3.out)) hb))
  replace HB:=am_ (below_step (bl_ HB).out hb)
  (try clear hb)
  (try clear hb2)
  (try clear hk)
  (try clear hi)
  refine hK.out _ _ ⟨bc_ BK882 0,bc_ BK882 1,bc_ BK882 2,bc_ BK882 3,bc_ BK883 0,bc_ BK883 1,bc_ BK883 2⟩ (fun hHeld=>?_)
  clear hK K
  refine nm_ 16 ?_
  refine one_ (i:=6) (N:=some 19) #[true,true,true,true,true,true,true,true,false] rfl rfl (one_of HT_.out (by kernel_rfl)) (by decide) (fun K hK=>?_)
  refine gs_ Tryz.func41 #[.agg #[.bool t884,.string t885,.int .i64 t886],.int .i64 a0_1] ?_
  with_reducible refine(florinlaw07_left.calls _ _ _ _ _ _ _ _ _ A4.out).mono ?_
  rintro e w11 ⟨rfl,hb⟩
  refine⟨_,rfl,?_⟩
  replace BK882:=bb_ BK882 hb
  replace BK883:=bb_ BK883 hb
  replace BK890:=bb_ BK890 hb
  (try replace HR0_3:=am_ (Kd.C_below (by repeat(first|(with_reducible exact HR0_3.out)|(with_reducible refine Kd.C_alloc ?_ _)|(with_reducible refine Kd.C_drewN ?_ _)|(with_reducible refine Kd.C_drew ?_)|exact HR0_3.out)) hb))
  replace HB:=am_ (below_step (bl_ HB).out hb)
  (try clear hb)
  (try clear hb2)
  (try clear hk)
  (try clear hi)
  refine hK.out _ _ ⟨bc_ BK882 0,bc_ BK882 1,bc_ BK882 2,bc_ BK882 3,bc_ BK883 0,bc_ BK883 1,bc_ BK883 2⟩ (fun hHeld=>?_)
  clear hK K
  refine nm_ 19 ?_
  exact norm_ (by simp only[putAll,Act.put,List.setIfInBounds_toArray,List.set_cons_zero,List.set_cons_succ]) (hCont (gb890) _ ⟨hHeld,(bk_ BK882).out,(bk_ BK883).out,(bk_ BK890).out,GW890.out,GE890.out,NB882_890.out,NB890_882.out,NB883_890.out,NB890_883.out,(bl_ HB).out⟩)
 rintro gb890 w12 ⟨hS_,h0_,h1_,h2_,h3_,h4_,h5_,h6_,h7_,h8_,h9_⟩
 have n0_:Aside0 (w12.heap[gb882]? = some (.cells #[.int .u8 a0_0,.int .i64 a0_1,.bool a0_2,.slice A0_3 l0_3.length c0_3] 53 (0,0))):=⟨h0_⟩
 have n1_:Aside0 (w12.heap[gb883]? = some (.cells #[.string a1_0,.string a1_1,.int .i64 a1_2] 27 (0,0))):=⟨h1_⟩
 have n2_:Aside0 (w12.heap[gb890]? = some (.cells #[.bool false,.string (⟨#[]⟩:ByteArray),.int .i64 0] 97 (0,0))):=⟨h2_⟩
 have n3_:Aside0 (w.heap.size≤gb890):=⟨h3_⟩
 have n4_:Aside0 (w.heap.size≤gb890):=⟨h4_⟩
 have n5_:Aside0 (gb882≠gb890):=⟨h5_⟩
 have n6_:Aside0 (gb890≠gb882):=⟨h6_⟩
 have n7_:Aside0 (gb883≠gb890):=⟨h7_⟩
 have n8_:Aside0 (gb890≠gb883):=⟨h8_⟩
 have n9_:Aside0 (Below w.heap.size w w12):=⟨h9_⟩
 clear BK882
 clear BK883
 clear HB
 clear h0_ h1_ h2_ h3_ h4_ h5_ h6_ h7_ h8_ h9_
 revert n0_ n1_ n2_ n3_ n4_ n5_ n6_ n7_ n8_ n9_
 intro BK882 BK883 BK890 GW890 GE890 NB882_890 NB890_882 NB883_890 NB890_883 HB
 have hHeld:w12.cell? ⟨gb882,0,none⟩=some (.int .u8 a0_0)∧w12.cell? ⟨gb882,1,none⟩=some (.int .i64 a0_1)∧w12.cell? ⟨gb882,2,none⟩=some (.bool a0_2)∧w12.cell? ⟨gb882,3,none⟩=some (.slice A0_3 l0_3.length c0_3)∧w12.cell? ⟨gb883,0,none⟩=some (.string a1_0)∧w12.cell? ⟨gb883,1,none⟩=some (.string a1_1)∧w12.cell? ⟨gb883,2,none⟩=some (.int .i64 a1_2):=hS_
 refine norm_ (a':=?_) ?_ ?_
 rotate_left
 ·simp only[putAll,Act.put,List.setIfInBounds_toArray,List.set_cons_zero,List.set_cons_succ]
  rfl
 refine one_ (i:=8) (N:=none) #[true,true,true,true,true,true,true,true,true] rfl rfl (one_of HT_.out (by kernel_rfl)) (by decide) (fun K hK=>?_)
 have hs13:w12.cell? ⟨gb890,0,none⟩=some (.bool false):=bc_ BK890 0
 have hfs13:=blk_frozen BK890.out 0
 have hns13_0:=NB882_890.out
 have hns13_1:=NB883_890.out
 have hms13_0:=NB890_882.out
 have hms13_1:=NB890_883.out
 have hs14:w12.cell? ⟨gb890,1,none⟩=some (.string (⟨#[]⟩:ByteArray)):=bc_ BK890 1
 have hfs14:=blk_frozen BK890.out 1
 have hns14_0:=NB882_890.out
 have hns14_1:=NB883_890.out
 have hms14_0:=NB890_882.out
 have hms14_1:=NB890_883.out
 have hs15:w12.cell? ⟨gb890,2,none⟩=some (.int .i64 0):=bc_ BK890 2
 have hfs15:=blk_frozen BK890.out 2
 have hns15_0:=NB882_890.out
 have hns15_1:=NB883_890.out
 have hms15_0:=NB890_882.out
 have hms15_1:=NB890_883.out
 refine skip_ (w1:=?_) (by rfl) rfl ?_ ?_
 rotate_left
 ·go_simp
  rfl
 refine hK.out _ _ ⟨((cell_far (p:=⟨gb890,_,none⟩) NB882_890.out _).trans (((cell_far (p:=⟨gb890,_,none⟩) NB882_890.out _).trans (((cell_far (p:=⟨gb890,_,none⟩) NB882_890.out _).trans (hHeld.1)))))),((cell_far (p:=⟨gb890,_,none⟩) NB882_890.out _).trans (((cell_far (p:=⟨gb890,_,none⟩) NB882_890.out _).trans (((cell_far (p:=⟨gb890,_,none⟩) NB882_890.out _).trans (hHeld.2.1)))))),((cell_far (p:=⟨gb890,_,none⟩) NB882_890.out _).trans (((cell_far (p:=⟨gb890,_,none⟩) NB882_890.out _).trans (((cell_far (p:=⟨gb890,_,none⟩) NB882_890.out _).trans (hHeld.2.2.1)))))),((cell_far (p:=⟨gb890,_,none⟩) NB882_890.out _).trans (((cell_far (p:=⟨gb890,_,none⟩) NB882_890.out _).trans (((cell_far (p:=⟨gb890,_,none⟩) NB882_890.out _).trans (hHeld.2.2.2.1)))))),((cell_far (p:=⟨gb890,_,none⟩) NB883_890.out _).trans (((cell_far (p:=⟨gb890,_,none⟩) NB883_890.out _).trans (((cell_far (p:=⟨gb890,_,none⟩) NB883_890.out _).trans (hHeld.2.2.2.2.1)))))),((cell_far (p:=⟨gb890,_,none⟩) NB883_890.out _).trans (((cell_far (p:=⟨gb890,_,none⟩) NB883_890.out _).trans (((cell_far (p:=⟨gb890,_,none⟩) NB883_890.out _).trans (hHeld.2.2.2.2.2.1)))))),((cell_far (p:=⟨gb890,_,none⟩) NB883_890.out _).trans (((cell_far (p:=⟨gb890,_,none⟩) NB883_890.out _).trans (((cell_far (p:=⟨gb890,_,none⟩) NB883_890.out _).trans (hHeld.2.2.2.2.2.2))))))⟩ (fun hHeld=>?_)
 clear hK K
 refine done_ (done_of HT_.out (by kernel_rfl)) ?_
 have hnb16:=NB890_882.out
 have hnc16:=NB882_890.out
 have hnb17:=NB890_883.out
 have hnc17:=NB883_890.out
 obtain⟨hcz18_0,hcz18_1,hcz18_2,hfz18_0,hfz18_1,hfz18_2⟩:=bo3_ BK890
 try go_wp2_with (first|((with_reducible refine gate_callee (f:=43) rfl ?_);refine gl_ (some 22) Tryz.func43 #[.agg #[.bool t887,.string t888,.int .i64 t889]] ?_;(with_reducible refine(dec_Dec_Parts.calls _ _ _ _ _ _ _ A5.out).mono ?_);rintro e w19 ⟨rfl,hb⟩;refine⟨_,rfl,?_⟩;have n0_:=bz_ BK882 hb;have n1_:=bz_ BK883 hb;have n2_:=am_ (blk_below (g:=gb890) (o:= .cells #[.bool t887,.string t888,.int .i64 t889] 97 (0,0)) ((bp_ BK890).out) hb);have n3_:=am_ (below_step (bl_ HB).out hb);clear BK882;clear BK883;clear BK890;clear HB;revert n0_ n1_ n2_ n3_;intro BK882 BK883 BK890 HB;(try clear hb);have hnb20:=NB882_883.out;have hnc20:=NB883_882.out;obtain⟨hcz21_0,hcz21_1,hcz21_2,hcz21_3,hfz21_0,hfz21_1,hfz21_2,hfz21_3⟩:=bo4_ BK882))
 go_loopg [8,28] k (fun kq v8 v28 w'=>∃(x8_1:Bool) (x28_1:Int),v8= .bool x8_1∧v28= .int .i64 x28_1∧Aside0 (florinlaw07_Holds.l0 kq t892 x8_1 l0_3 (l0_3.length:Int) x28_1 a0_0 a0_1 a0_2 l0_3 t887 t888 t889=some r)∧Aside0 (kq≤k)∧Aside0 (w'.heap[gb882]? = some (.cells #[.int .u8 a0_0,.int .i64 a0_1,.bool a0_2,(.slice A0_3 l0_3.length c0_3)] 53 (0,0)))∧Aside0 (w'.heap[gb883]? = some (.cells #[.string a1_0,.string a1_1,.int .i64 a1_2] 27 (0,0)))∧Aside0 (w'.heap[gb890]? = some (.cells #[.bool t887,.string t888,.int .i64 t889] 97 (0,0)))∧Aside0 (Below w.heap.size w w'))
 case atStart=>exact⟨(false),(0),eq_,eq_,H',⟨Nat.le_refl _⟩,(bk_ BK882),(bk_ BK883),(bk_ BK890),(bl_ HB)⟩
 clear H'
 obtain⟨x8_1,x28_1,rfl,rfl,HA,HK1,BK882,BK883,BK890,HB⟩:=hrel
 cases gk with
 | zero=>exact absurd HA.out (by simp[florinlaw07_Holds.l0])
 | succ k1=>?_
 have H:=HA.out
 clear HA
 simp only[florinlaw07_Holds.l0] at H
 by_cases c22:x28_1<(l0_3.length:Int)
 ·rw[if_pos c22] at H
  have c22b0:=decide_eq_true c22
  clear c22
  replace H:=ifn_ H
  obtain⟨c23,H⟩:=H
  have c23b0:decide (0≤x28_1)=true:=decide_eq_true c23
  clear c23
  replace H:=ifn_ H
  obtain⟨c24,H⟩:=H
  have c24b0:decide (x28_1<(l0_3.length:Int))=true:=decide_eq_true c24
  clear c24
  replace H:=Option.bind_eq_some_iff.mp H
  obtain⟨t895,A250,H⟩:=H
  have A25:=am_ A250
  clear A250
  replace H:=Option.bind_eq_some_iff.mp H
  obtain⟨⟨t896,t897,t898⟩,A260,H⟩:=H
  dsimp only at H
  have A26:=am_ A260
  clear A260
  replace H:=Option.bind_eq_some_iff.mp H
  obtain⟨t900,A270,H⟩:=H
  have A27:=am_ A270
  clear A270
  replace H:=Option.bind_eq_some_iff.mp H
  obtain⟨⟨t901,t902,t903⟩,A280,H⟩:=H
  dsimp only at H
  have A28:=am_ A280
  clear A280
  by_cases c29:x8_1=true
  ·subst c29
   rw[if_pos rfl] at H
   have H':=am_ H
   clear H
   have p893:0≤(x28_1:Int):=od_
   have q893:x28_1<(l0_3.length:Int):=od_
   obtain⟨ad893,e893,hx893_0,hx893_1⟩:=at_T57 HR0_3.out x28_1 p893 q893
   cases e893
   replace hx893_0:=hbc_ HB hx893_0
   replace hx893_1:=hbc_ HB hx893_1
   replace p893:=eq_true p893
   replace q893:=eq_true q893
   go_wp2_with (first|((with_reducible refine gate_dst (N:=10) rfl ?_);refine be_ 10 #[.int .i64 0,.int .i64 0] 57 ?_;intro gb894 hg w30 hbox hb;have BK894:=am_ (hbox);have GW894:=sz_ HB hg;have GE894:=sz_ HB hg;have NB882_894:=na_ BK882 hg;have NB894_882:=nb_ BK882 hg;have NB883_894:=na_ BK883 hg;have NB894_883:=nb_ BK883 hg;have NB890_894:=na_ BK890 hg;have NB894_890:=nb_ BK890 hg;replace BK882:=bb_ BK882 hb;replace BK883:=bb_ BK883 hb;replace BK890:=bb_ BK890 hb;replace HB:=am_ (below_step (bl_ HB).out hb);clear hb hbox hg;have hnb31:=NB894_882.out;have hnc31:=NB882_894.out;have hnb32:=NB894_883.out;have hnc32:=NB883_894.out;have hnb33:=NB894_890.out;have hnc33:=NB890_894.out;obtain⟨hcz34_0,hcz34_1,hfz34_0,hfz34_1⟩:=bo2_ BK894)|((with_reducible refine gate_callee (f:=19) rfl ?_);refine gl_ (some 34) Tryz.func19 #[.int .i64 ((rd_T57 l0_3 x28_1).f0)] ?_;(with_reducible refine(num_Of.calls _ _ _ _ A25.out).mono ?_);rintro e w35 ⟨rfl,hb⟩;refine⟨_,rfl,?_⟩;have n0_:=bz_ BK882 hb;have n1_:=bz_ BK883 hb;have n2_:=bz_ BK890 hb;have n3_:=am_ (blk_below (g:=gb894) (o:= .cells #[.int .i64 ((rd_T57 l0_3 x28_1).f0),.int .i64 ((rd_T57 l0_3 x28_1).f1)] 57 (0,0)) ((bp_ BK894).out) hb);have n4_:=am_ (below_step (bl_ HB).out hb);clear BK882;clear BK883;clear BK890;clear BK894;clear HB;revert n0_ n1_ n2_ n3_ n4_;intro BK882 BK883 BK890 BK894 HB;(try clear hb);(try clear hi))|((with_reducible refine gate_callee (f:=44) rfl ?_);refine gl_ (some 35) Tryz.func44 #[.bool false,.string t895,.int .i64 0] ?_;(with_reducible refine(dec_Made.calls _ _ _ _ _ _ _ _ A26.out).mono ?_);rintro e w36 ⟨rfl,hb⟩;refine⟨_,rfl,?_⟩;replace BK882:=bb_ BK882 hb;replace BK883:=bb_ BK883 hb;replace BK890:=bb_ BK890 hb;replace BK894:=bb_ BK894 hb;replace HB:=am_ (below_step (bl_ HB).out hb);(try clear hb);(try clear hi))|((with_reducible refine gate_dst (N:=11) rfl ?_);refine be_ 11 #[.bool false,.string (⟨#[]⟩:ByteArray),.int .i64 0] 97 ?_;intro gb899 hg w37 hbox hb;have BK899:=am_ (hbox);have GW899:=sz_ HB hg;have GE899:=sz_ HB hg;have NB882_899:=na_ BK882 hg;have NB899_882:=nb_ BK882 hg;have NB883_899:=na_ BK883 hg;have NB899_883:=nb_ BK883 hg;have NB890_899:=na_ BK890 hg;have NB899_890:=nb_ BK890 hg;have NB894_899:=na_ BK894 hg;have NB899_894:=nb_ BK894 hg;replace BK882:=bb_ BK882 hb;replace BK883:=bb_ BK883 hb;replace BK890:=bb_ BK890 hb;replace BK894:=bb_ BK894 hb;replace HB:=am_ (below_step (bl_ HB).out hb);clear hb hbox hg;have hnb38:=NB899_882.out;have hnc38:=NB882_899.out;have hnb39:=NB899_883.out;have hnc39:=NB883_899.out;have hnb40:=NB899_890.out;have hnc40:=NB890_899.out;have hnb41:=NB899_894.out;have hnc41:=NB894_899.out;obtain⟨hcz42_0,hcz42_1,hcz42_2,hfz42_0,hfz42_1,hfz42_2⟩:=bo3_ BK899;obtain⟨hcz43_0,hcz43_1,hfz43_0,hfz43_1⟩:=bo2_ BK894)|((with_reducible refine gate_callee (f:=19) rfl ?_);refine gl_ (some 38) Tryz.func19 #[.int .i64 ((rd_T57 l0_3 x28_1).f1)] ?_;(with_reducible refine(num_Of.calls _ _ _ _ A27.out).mono ?_);rintro e w44 ⟨rfl,hb⟩;refine⟨_,rfl,?_⟩;have n0_:=bz_ BK882 hb;have n1_:=bz_ BK883 hb;have n2_:=bz_ BK890 hb;have n3_:=bz_ BK894 hb;have n4_:=am_ (blk_below (g:=gb899) (o:= .cells #[.bool t896,.string t897,.int .i64 t898] 97 (0,0)) ((bp_ BK899).out) hb);have n5_:=am_ (below_step (bl_ HB).out hb);clear BK882;clear BK883;clear BK890;clear BK894;clear BK899;clear HB;revert n0_ n1_ n2_ n3_ n4_ n5_;intro BK882 BK883 BK890 BK894 BK899 HB;(try clear hb);(try clear hi))|((with_reducible refine gate_callee (f:=44) rfl ?_);refine gl_ (some 39) Tryz.func44 #[.bool false,.string t900,.int .i64 0] ?_;(with_reducible refine(dec_Made.calls _ _ _ _ _ _ _ _ A28.out).mono ?_);rintro e w45 ⟨rfl,hb⟩;refine⟨_,rfl,?_⟩;replace BK882:=bb_ BK882 hb;replace BK883:=bb_ BK883 hb;replace BK890:=bb_ BK890 hb;replace BK894:=bb_ BK894 hb;replace BK899:=bb_ BK899 hb;replace HB:=am_ (below_step (bl_ HB).out hb);(try clear hb);(try clear hi))|((with_reducible refine gate_dst (N:=12) rfl ?_);refine be_ 12 #[.bool false,.string (⟨#[]⟩:ByteArray),.int .i64 0] 97 ?_;intro gb904 hg w46 hbox hb;have BK904:=am_ (hbox);have GW904:=sz_ HB hg;have GE904:=sz_ HB hg;have NB882_904:=na_ BK882 hg;have NB904_882:=nb_ BK882 hg;have NB883_904:=na_ BK883 hg;have NB904_883:=nb_ BK883 hg;have NB890_904:=na_ BK890 hg;have NB904_890:=nb_ BK890 hg;have NB894_904:=na_ BK894 hg;have NB904_894:=nb_ BK894 hg;have NB899_904:=na_ BK899 hg;have NB904_899:=nb_ BK899 hg;replace BK882:=bb_ BK882 hb;replace BK883:=bb_ BK883 hb;replace BK890:=bb_ BK890 hb;replace BK894:=bb_ BK894 hb;replace BK899:=bb_ BK899 hb;replace HB:=am_ (below_step (bl_ HB).out hb);clear hb hbox hg;have hnb47:=NB904_882.out;have hnc47:=NB882_904.out;have hnb48:=NB904_883.out;have hnc48:=NB883_904.out;have hnb49:=NB904_890.out;have hnc49:=NB890_904.out;have hnb50:=NB904_894.out;have hnc50:=NB894_904.out;have hnb51:=NB904_899.out;have hnc51:=NB899_904.out;obtain⟨hcz52_0,hcz52_1,hcz52_2,hfz52_0,hfz52_1,hfz52_2⟩:=bo3_ BK904))
   go_roundg k1
   case measure=>have:=HK1.out;omega
   case rel=>exact⟨(true),(wrap64 (x28_1+1)),eq_,eq_,H',⟨by have:=HK1.out;omega⟩,⟨(bf_ BK882).out⟩,⟨(bf_ BK883).out⟩,⟨(bf_ BK890).out⟩,(bl_ HB)⟩
  replace c29:=Bool.eq_false_iff.mpr c29
  subst c29
  rw[if_neg (show ¬(false=true) by decide)] at H
  by_cases c53:t892.toList=([]:List UInt8)
  ·rw[if_pos c53] at H
   have c53b0:(t892.toList==([]:List UInt8))=true:=beq_iff_eq.mpr c53
   have c53b1:(t892.toList !=([]:List UInt8))=false:=bne_eq_false_iff_eq.mpr c53
   have c53b2:(t892.toList.isEmpty)=true:=by rw[c53];rfl
   clear c53
   replace H:=Option.bind_eq_some_iff.mp H
   obtain⟨t905,A540,H⟩:=H
   have A54:=am_ A540
   clear A540
   by_cases c55:t905≤0
   ·rw[if_pos c55] at H
    have c55b0:=decide_eq_true c55
    clear c55
    replace H:=Option.bind_eq_some_iff.mp H
    obtain⟨t906,A560,H⟩:=H
    have A56:=am_ A560
    clear A560
    have H':=am_ H
    clear H
    have p893:0≤(x28_1:Int):=od_
    have q893:x28_1<(l0_3.length:Int):=od_
    obtain⟨ad893,e893,hx893_0,hx893_1⟩:=at_T57 HR0_3.out x28_1 p893 q893
    cases e893
    replace hx893_0:=hbc_ HB hx893_0
    replace hx893_1:=hbc_ HB hx893_1
    replace p893:=eq_true p893
    replace q893:=eq_true q893
    go_wp2_with (first|((with_reducible refine gate_dst (N:=10) rfl ?_);refine be_ 10 #[.int .i64 0,.int .i64 0] 57 ?_;intro gb894 hg w57 hbox hb;have BK894:=am_ (hbox);have GW894:=sz_ HB hg;have GE894:=sz_ HB hg;have NB882_894:=na_ BK882 hg;have NB894_882:=nb_ BK882 hg;have NB883_894:=na_ BK883 hg;have NB894_883:=nb_ BK883 hg;have NB890_894:=na_ BK890 hg;have NB894_890:=nb_ BK890 hg;replace BK882:=bb_ BK882 hb;replace BK883:=bb_ BK883 hb;replace BK890:=bb_ BK890 hb;replace HB:=am_ (below_step (bl_ HB).out hb);clear hb hbox hg;have hnb58:=NB894_882.out;have hnc58:=NB882_894.out;have hnb59:=NB894_883.out;have hnc59:=NB883_894.out;have hnb60:=NB894_890.out;have hnc60:=NB890_894.out;obtain⟨hcz61_0,hcz61_1,hfz61_0,hfz61_1⟩:=bo2_ BK894)|((with_reducible refine gate_callee (f:=19) rfl ?_);refine gl_ (some 34) Tryz.func19 #[.int .i64 ((rd_T57 l0_3 x28_1).f0)] ?_;(with_reducible refine(num_Of.calls _ _ _ _ A25.out).mono ?_);rintro e w62 ⟨rfl,hb⟩;refine⟨_,rfl,?_⟩;have n0_:=bz_ BK882 hb;have n1_:=bz_ BK883 hb;have n2_:=bz_ BK890 hb;have n3_:=am_ (blk_below (g:=gb894) (o:= .cells #[.int .i64 ((rd_T57 l0_3 x28_1).f0),.int .i64 ((rd_T57 l0_3 x28_1).f1)] 57 (0,0)) ((bp_ BK894).out) hb);have n4_:=am_ (below_step (bl_ HB).out hb);clear BK882;clear BK883;clear BK890;clear BK894;clear HB;revert n0_ n1_ n2_ n3_ n4_;intro BK882 BK883 BK890 BK894 HB;(try clear hb);(try clear hi))|((with_reducible refine gate_callee (f:=44) rfl ?_);refine gl_ (some 35) Tryz.func44 #[.bool false,.string t895,.int .i64 0] ?_;(with_reducible refine(dec_Made.calls _ _ _ _ _ _ _ _ A26.out).mono ?_);rintro e w63 ⟨rfl,hb⟩;refine⟨_,rfl,?_⟩;replace BK882:=bb_ BK882 hb;replace BK883:=bb_ BK883 hb;replace BK890:=bb_ BK890 hb;replace BK894:=bb_ BK894 hb;replace HB:=am_ (below_step (bl_ HB).out hb);(try clear hb);(try clear hi))|((with_reducible refine gate_dst (N:=11) rfl ?_);refine be_ 11 #[.bool false,.string (⟨#[]⟩:ByteArray),.int .i64 0] 97 ?_;intro gb899 hg w64 hbox hb;have BK899:=am_ (hbox);have GW899:=sz_ HB hg;have GE899:=sz_ HB hg;have NB882_899:=na_ BK882 hg;have NB899_882:=nb_ BK882 hg;have NB883_899:=na_ BK883 hg;have NB899_883:=nb_ BK883 hg;have NB890_899:=na_ BK890 hg;have NB899_890:=nb_ BK890 hg;have NB894_899:=na_ BK894 hg;have NB899_894:=nb_ BK894 hg;replace BK882:=bb_ BK882 hb;replace BK883:=bb_ BK883 hb;replace BK890:=bb_ BK890 hb;replace BK894:=bb_ BK894 hb;replace HB:=am_ (below_step (bl_ HB).out hb);clear hb hbox hg;have hnb65:=NB899_882.out;have hnc65:=NB882_899.out;have hnb66:=NB899_883.out;have hnc66:=NB883_899.out;have hnb67:=NB899_890.out;have hnc67:=NB890_899.out;have hnb68:=NB899_894.out;have hnc68:=NB894_899.out;obtain⟨hcz69_0,hcz69_1,hcz69_2,hfz69_0,hfz69_1,hfz69_2⟩:=bo3_ BK899;obtain⟨hcz70_0,hcz70_1,hfz70_0,hfz70_1⟩:=bo2_ BK894)|((with_reducible refine gate_callee (f:=19) rfl ?_);refine gl_ (some 38) Tryz.func19 #[.int .i64 ((rd_T57 l0_3 x28_1).f1)] ?_;(with_reducible refine(num_Of.calls _ _ _ _ A27.out).mono ?_);rintro e w71 ⟨rfl,hb⟩;refine⟨_,rfl,?_⟩;have n0_:=bz_ BK882 hb;have n1_:=bz_ BK883 hb;have n2_:=bz_ BK890 hb;have n3_:=bz_ BK894 hb;have n4_:=am_ (blk_below (g:=gb899) (o:= .cells #[.bool t896,.string t897,.int .i64 t898] 97 (0,0)) ((bp_ BK899).out) hb);have n5_:=am_ (below_step (bl_ HB).out hb);clear BK882;clear BK883;clear BK890;clear BK894;clear BK899;clear HB;revert n0_ n1_ n2_ n3_ n4_ n5_;intro BK882 BK883 BK890 BK894 BK899 HB;(try clear hb);(try clear hi))|((with_reducible refine gate_callee (f:=44) rfl ?_);refine gl_ (some 39) Tryz.func44 #[.bool false,.string t900,.int .i64 0] ?_;(with_reducible refine(dec_Made.calls _ _ _ _ _ _ _ _ A28.out).mono ?_);rintro e w72 ⟨rfl,hb⟩;refine⟨_,rfl,?_⟩;replace BK882:=bb_ BK882 hb;replace BK883:=bb_ BK883 hb;replace BK890:=bb_ BK890 hb;replace BK894:=bb_ BK894 hb;replace BK899:=bb_ BK899 hb;replace HB:=am_ (below_step (bl_ HB).out hb);(try clear hb);(try clear hi))|((with_reducible refine gate_dst (N:=12) rfl ?_);refine be_ 12 #[.bool false,.string (⟨#[]⟩:ByteArray),.int .i64 0] 97 ?_;intro gb904 hg w73 hbox hb;have BK904:=am_ (hbox);have GW904:=sz_ HB hg;have GE904:=sz_ HB hg;have NB882_904:=na_ BK882 hg;have NB904_882:=nb_ BK882 hg;have NB883_904:=na_ BK883 hg;have NB904_883:=nb_ BK883 hg;have NB890_904:=na_ BK890 hg;have NB904_890:=nb_ BK890 hg;have NB894_904:=na_ BK894 hg;have NB904_894:=nb_ BK894 hg;have NB899_904:=na_ BK899 hg;have NB904_899:=nb_ BK899 hg;replace BK882:=bb_ BK882 hb;replace BK883:=bb_ BK883 hb;replace BK890:=bb_ BK890 hb;replace BK894:=bb_ BK894 hb;replace BK899:=bb_ BK899 hb;replace HB:=am_ (below_step (bl_ HB).out hb);clear hb hbox hg;have hnb74:=NB904_882.out;have hnc74:=NB882_904.out;have hnb75:=NB904_883.out;have hnc75:=NB883_904.out;have hnb76:=NB904_890.out;have hnc76:=NB890_904.out;have hnb77:=NB904_894.out;have hnc77:=NB894_904.out;have hnb78:=NB904_899.out;have hnc78:=NB899_904.out;obtain⟨hcz79_0,hcz79_1,hcz79_2,hfz79_0,hfz79_1,hfz79_2⟩:=bo3_ BK904;obtain⟨hcz80_0,hcz80_1,hcz80_2,hfz80_0,hfz80_1,hfz80_2⟩:=bo3_ BK899;have hnb81:=NB890_882.out;have hnc81:=NB882_890.out;have hnb82:=NB890_883.out;have hnc82:=NB883_890.out;obtain⟨hcz83_0,hcz83_1,hcz83_2,hfz83_0,hfz83_1,hfz83_2⟩:=bo3_ BK890)|(go_at_call 45;(with_reducible refine(dec_Cmp.calls _ _ _ _ _ _ _ _ _ A54.out).mono ?_);rintro e w84 ⟨rfl,hb⟩;have n0_:=bz_ BK882 hb;have n1_:=bz_ BK883 hb;have n2_:=bz_ BK890 hb;have n3_:=bz_ BK894 hb;have n4_:=bz_ BK899 hb;have n5_:=am_ (blk_below (g:=gb904) (o:= .cells #[.bool t901,.string t902,.int .i64 t903] 97 (0,0)) ((bp_ BK904).out) hb);have n6_:=am_ (below_step (bl_ HB).out hb);clear BK882;clear BK883;clear BK890;clear BK894;clear BK899;clear BK904;clear HB;revert n0_ n1_ n2_ n3_ n4_ n5_ n6_;intro BK882 BK883 BK890 BK894 BK899 BK904 HB;(try clear hb);obtain⟨hcz85_0,hcz85_1,hcz85_2,hfz85_0,hfz85_1,hfz85_2⟩:=bo3_ BK890;obtain⟨hcz86_0,hcz86_1,hcz86_2,hfz86_0,hfz86_1,hfz86_2⟩:=bo3_ BK904)|(go_at_call 45;(with_reducible refine(dec_Cmp.calls _ _ _ _ _ _ _ _ _ A56.out).mono ?_);rintro e w87 ⟨rfl,hb⟩;replace BK882:=bb_ BK882 hb;replace BK883:=bb_ BK883 hb;replace BK890:=bb_ BK890 hb;replace BK894:=bb_ BK894 hb;replace BK899:=bb_ BK899 hb;replace BK904:=bb_ BK904 hb;replace HB:=am_ (below_step (bl_ HB).out hb);(try clear hb);(try clear hi)))
    go_roundg k1
    case measure=>have:=HK1.out;omega
    case rel=>exact⟨(decide (t906≤0)),(wrap64 (x28_1+1)),eq_,eq_,H',⟨by have:=HK1.out;omega⟩,(bk_ BK882),(bk_ BK883),(bk_ BK890),(bl_ HB)⟩
   rw[if_neg c55] at H
   have c55b0:=decide_eq_false c55
   clear c55
   have H':=am_ H
   clear H
   have p893:0≤(x28_1:Int):=od_
   have q893:x28_1<(l0_3.length:Int):=od_
   obtain⟨ad893,e893,hx893_0,hx893_1⟩:=at_T57 HR0_3.out x28_1 p893 q893
   cases e893
   replace hx893_0:=hbc_ HB hx893_0
   replace hx893_1:=hbc_ HB hx893_1
   replace p893:=eq_true p893
   replace q893:=eq_true q893
   go_wp2_with (first|((with_reducible refine gate_dst (N:=10) rfl ?_);refine be_ 10 #[.int .i64 0,.int .i64 0] 57 ?_;intro gb894 hg w88 hbox hb;have BK894:=am_ (hbox);have GW894:=sz_ HB hg;have GE894:=sz_ HB hg;have NB882_894:=na_ BK882 hg;have NB894_882:=nb_ BK882 hg;have NB883_894:=na_ BK883 hg;have NB894_883:=nb_ BK883 hg;have NB890_894:=na_ BK890 hg;have NB894_890:=nb_ BK890 hg;replace BK882:=bb_ BK882 hb;replace BK883:=bb_ BK883 hb;replace BK890:=bb_ BK890 hb;replace HB:=am_ (below_step (bl_ HB).out hb);clear hb hbox hg;have hnb89:=NB894_882.out;have hnc89:=NB882_894.out;have hnb90:=NB894_883.out;have hnc90:=NB883_894.out;have hnb91:=NB894_890.out;have hnc91:=NB890_894.out;obtain⟨hcz92_0,hcz92_1,hfz92_0,hfz92_1⟩:=bo2_ BK894)|((with_reducible refine gate_callee (f:=19) rfl ?_);refine gl_ (some 34) Tryz.func19 #[.int .i64 ((rd_T57 l0_3 x28_1).f0)] ?_;(with_reducible refine(num_Of.calls _ _ _ _ A25.out).mono ?_);rintro e w93 ⟨rfl,hb⟩;refine⟨_,rfl,?_⟩;have n0_:=bz_ BK882 hb;have n1_:=bz_ BK883 hb;have n2_:=bz_ BK890 hb;have n3_:=am_ (blk_below (g:=gb894) (o:= .cells #[.int .i64 ((rd_T57 l0_3 x28_1).f0),.int .i64 ((rd_T57 l0_3 x28_1).f1)] 57 (0,0)) ((bp_ BK894).out) hb);have n4_:=am_ (below_step (bl_ HB).out hb);clear BK882;clear BK883;clear BK890;clear BK894;clear HB;revert n0_ n1_ n2_ n3_ n4_;intro BK882 BK883 BK890 BK894 HB;(try clear hb);(try clear hi))|((with_reducible refine gate_callee (f:=44) rfl ?_);refine gl_ (some 35) Tryz.func44 #[.bool false,.string t895,.int .i64 0] ?_;(with_reducible refine(dec_Made.calls _ _ _ _ _ _ _ _ A26.out).mono ?_);rintro e w94 ⟨rfl,hb⟩;refine⟨_,rfl,?_⟩;replace BK882:=bb_ BK882 hb;replace BK883:=bb_ BK883 hb;replace BK890:=bb_ BK890 hb;replace BK894:=bb_ BK894 hb;replace HB:=am_ (below_step (bl_ HB).out hb);(try clear hb);(try clear hi))|((with_reducible refine gate_dst (N:=11) rfl ?_);refine be_ 11 #[.bool false,.string (⟨#[]⟩:ByteArray),.int .i64 0] 97 ?_;intro gb899 hg w95 hbox hb;have BK899:=am_ (hbox);have GW899:=sz_ HB hg;have GE899:=sz_ HB hg;have NB882_899:=na_ BK882 hg;have NB899_882:=nb_ BK882 hg;have NB883_899:=na_ BK883 hg;have NB899_883:=nb_ BK883 hg;have NB890_899:=na_ BK890 hg;have NB899_890:=nb_ BK890 hg;have NB894_899:=na_ BK894 hg;have NB899_894:=nb_ BK894 hg;replace BK882:=bb_ BK882 hb;replace BK883:=bb_ BK883 hb;replace BK890:=bb_ BK890 hb;replace BK894:=bb_ BK894 hb;replace HB:=am_ (below_step (bl_ HB).out hb);clear hb hbox hg;have hnb96:=NB899_882.out;have hnc96:=NB882_899.out;have hnb97:=NB899_883.out;have hnc97:=NB883_899.out;have hnb98:=NB899_890.out;have hnc98:=NB890_899.out;have hnb99:=NB899_894.out;have hnc99:=NB894_899.out;obtain⟨hcz100_0,hcz100_1,hcz100_2,hfz100_0,hfz100_1,hfz100_2⟩:=bo3_ BK899;obtain⟨hcz101_0,hcz101_1,hfz101_0,hfz101_1⟩:=bo2_ BK894)|((with_reducible refine gate_callee (f:=19) rfl ?_);refine gl_ (some 38) Tryz.func19 #[.int .i64 ((rd_T57 l0_3 x28_1).f1)] ?_;(with_reducible refine(num_Of.calls _ _ _ _ A27.out).mono ?_);rintro e w102 ⟨rfl,hb⟩;refine⟨_,rfl,?_⟩;have n0_:=bz_ BK882 hb;have n1_:=bz_ BK883 hb;have n2_:=bz_ BK890 hb;have n3_:=bz_ BK894 hb;have n4_:=am_ (blk_below (g:=gb899) (o:= .cells #[.bool t896,.string t897,.int .i64 t898] 97 (0,0)) ((bp_ BK899).out) hb);have n5_:=am_ (below_step (bl_ HB).out hb);clear BK882;clear BK883;clear BK890;clear BK894;clear BK899;clear HB;revert n0_ n1_ n2_ n3_ n4_ n5_;intro BK882 BK883 BK890 BK894 BK899 HB;(try clear hb);(try clear hi))|((with_reducible refine gate_callee (f:=44) rfl ?_);refine gl_ (some 39) Tryz.func44 #[.bool false,.string t900,.int .i64 0] ?_;(with_reducible refine(dec_Made.calls _ _ _ _ _ _ _ _ A28.out).mono ?_);rintro e w103 ⟨rfl,hb⟩;refine⟨_,rfl,?_⟩;replace BK882:=bb_ BK882 hb;replace BK883:=bb_ BK883 hb;replace BK890:=bb_ BK890 hb;replace BK894:=bb_ BK894 hb;replace BK899:=bb_ BK899 hb;replace HB:=am_ (below_step (bl_ HB).out hb);(try clear hb);(try clear hi))|((with_reducible refine gate_dst (N:=12) rfl ?_);refine be_ 12 #[.bool false,.string (⟨#[]⟩:ByteArray),.int .i64 0] 97 ?_;intro gb904 hg w104 hbox hb;have BK904:=am_ (hbox);have GW904:=sz_ HB hg;have GE904:=sz_ HB hg;have NB882_904:=na_ BK882 hg;have NB904_882:=nb_ BK882 hg;have NB883_904:=na_ BK883 hg;have NB904_883:=nb_ BK883 hg;have NB890_904:=na_ BK890 hg;have NB904_890:=nb_ BK890 hg;have NB894_904:=na_ BK894 hg;have NB904_894:=nb_ BK894 hg;have NB899_904:=na_ BK899 hg;have NB904_899:=nb_ BK899 hg;replace BK882:=bb_ BK882 hb;replace BK883:=bb_ BK883 hb;replace BK890:=bb_ BK890 hb;replace BK894:=bb_ BK894 hb;replace BK899:=bb_ BK899 hb;replace HB:=am_ (below_step (bl_ HB).out hb);clear hb hbox hg;have hnb105:=NB904_882.out;have hnc105:=NB882_904.out;have hnb106:=NB904_883.out;have hnc106:=NB883_904.out;have hnb107:=NB904_890.out;have hnc107:=NB890_904.out;have hnb108:=NB904_894.out;have hnc108:=NB894_904.out;have hnb109:=NB904_899.out;have hnc109:=NB899_904.out;obtain⟨hcz110_0,hcz110_1,hcz110_2,hfz110_0,hfz110_1,hfz110_2⟩:=bo3_ BK904;obtain⟨hcz111_0,hcz111_1,hcz111_2,hfz111_0,hfz111_1,hfz111_2⟩:=bo3_ BK899;have hnb112:=NB890_882.out;have hnc112:=NB882_890.out;have hnb113:=NB890_883.out;have hnc113:=NB883_890.out;obtain⟨hcz114_0,hcz114_1,hcz114_2,hfz114_0,hfz114_1,hfz114_2⟩:=bo3_ BK890)|(go_at_call 45;(with_reducible refine(dec_Cmp.calls _ _ _ _ _ _ _ _ _ A54.out).mono ?_);rintro e w115 ⟨rfl,hb⟩;have n0_:=bz_ BK882 hb;have n1_:=bz_ BK883 hb;have n2_:=bz_ BK890 hb;have n3_:=bz_ BK894 hb;have n4_:=bz_ BK899 hb;have n5_:=am_ (blk_below (g:=gb904) (o:= .cells #[.bool t901,.string t902,.int .i64 t903] 97 (0,0)) ((bp_ BK904).out) hb);have n6_:=am_ (below_step (bl_ HB).out hb);clear BK882;clear BK883;clear BK890;clear BK894;clear BK899;clear BK904;clear HB;revert n0_ n1_ n2_ n3_ n4_ n5_ n6_;intro BK882 BK883 BK890 BK894 BK899 BK904 HB;(try clear hb);(try clear hi)))
   go_roundg k1
   case measure=>have:=HK1.out;omega
   case rel=>exact⟨(false),(wrap64 (x28_1+1)),eq_,eq_,H',⟨by have:=HK1.out;omega⟩,(bk_ BK882),(bk_ BK883),(bk_ BK890),(bl_ HB)⟩
  rw[if_neg c53] at H
  have c53b0:(t892.toList==([]:List UInt8))=false:=beq_eq_false_iff_ne.mpr c53
  have c53b1:(t892.toList !=([]:List UInt8))=true:=bne_iff_ne.mpr c53
  have c53b2:(t892.toList.isEmpty)=false:=by rw[given_isEmpty,bne_iff_ne.mpr c53];rfl
  have H':=am_ H
  clear H
  have p893:0≤(x28_1:Int):=od_
  have q893:x28_1<(l0_3.length:Int):=od_
  obtain⟨ad893,e893,hx893_0,hx893_1⟩:=at_T57 HR0_3.out x28_1 p893 q893
  cases e893
  replace hx893_0:=hbc_ HB hx893_0
  replace hx893_1:=hbc_ HB hx893_1
  replace p893:=eq_true p893
  replace q893:=eq_true q893
  go_wp2_with (first|((with_reducible refine gate_dst (N:=10) rfl ?_);refine be_ 10 #[.int .i64 0,.int .i64 0] 57 ?_;intro gb894 hg w116 hbox hb;have BK894:=am_ (hbox);have GW894:=sz_ HB hg;have GE894:=sz_ HB hg;have NB882_894:=na_ BK882 hg;have NB894_882:=nb_ BK882 hg;have NB883_894:=na_ BK883 hg;have NB894_883:=nb_ BK883 hg;have NB890_894:=na_ BK890 hg;have NB894_890:=nb_ BK890 hg;replace BK882:=bb_ BK882 hb;replace BK883:=bb_ BK883 hb;replace BK890:=bb_ BK890 hb;replace HB:=am_ (below_step (bl_ HB).out hb);clear hb hbox hg;have hnb117:=NB894_882.out;have hnc117:=NB882_894.out;have hnb118:=NB894_883.out;have hnc118:=NB883_894.out;have hnb119:=NB894_890.out;have hnc119:=NB890_894.out;obtain⟨hcz120_0,hcz120_1,hfz120_0,hfz120_1⟩:=bo2_ BK894)|((with_reducible refine gate_callee (f:=19) rfl ?_);refine gl_ (some 34) Tryz.func19 #[.int .i64 ((rd_T57 l0_3 x28_1).f0)] ?_;(with_reducible refine(num_Of.calls _ _ _ _ A25.out).mono ?_);rintro e w121 ⟨rfl,hb⟩;refine⟨_,rfl,?_⟩;have n0_:=bz_ BK882 hb;have n1_:=bz_ BK883 hb;have n2_:=bz_ BK890 hb;have n3_:=am_ (blk_below (g:=gb894) (o:= .cells #[.int .i64 ((rd_T57 l0_3 x28_1).f0),.int .i64 ((rd_T57 l0_3 x28_1).f1)] 57 (0,0)) ((bp_ BK894).out) hb);have n4_:=am_ (below_step (bl_ HB).out hb);clear BK882;clear BK883;clear BK890;clear BK894;clear HB;revert n0_ n1_ n2_ n3_ n4_;intro BK882 BK883 BK890 BK894 HB;(try clear hb);(try clear hi))|((with_reducible refine gate_callee (f:=44) rfl ?_);refine gl_ (some 35) Tryz.func44 #[.bool false,.string t895,.int .i64 0] ?_;(with_reducible refine(dec_Made.calls _ _ _ _ _ _ _ _ A26.out).mono ?_);rintro e w122 ⟨rfl,hb⟩;refine⟨_,rfl,?_⟩;replace BK882:=bb_ BK882 hb;replace BK883:=bb_ BK883 hb;replace BK890:=bb_ BK890 hb;replace BK894:=bb_ BK894 hb;replace HB:=am_ (below_step (bl_ HB).out hb);(try clear hb);(try clear hi))|((with_reducible refine gate_dst (N:=11) rfl ?_);refine be_ 11 #[.bool false,.string (⟨#[]⟩:ByteArray),.int .i64 0] 97 ?_;intro gb899 hg w123 hbox hb;have BK899:=am_ (hbox);have GW899:=sz_ HB hg;have GE899:=sz_ HB hg;have NB882_899:=na_ BK882 hg;have NB899_882:=nb_ BK882 hg;have NB883_899:=na_ BK883 hg;have NB899_883:=nb_ BK883 hg;have NB890_899:=na_ BK890 hg;have NB899_890:=nb_ BK890 hg;have NB894_899:=na_ BK894 hg;have NB899_894:=nb_ BK894 hg;replace BK882:=bb_ BK882 hb;replace BK883:=bb_ BK883 hb;replace BK890:=bb_ BK890 hb;replace BK894:=bb_ BK894 hb;replace HB:=am_ (below_step (bl_ HB).out hb);clear hb hbox hg;have hnb124:=NB899_882.out;have hnc124:=NB882_899.out;have hnb125:=NB899_883.out;have hnc125:=NB883_899.out;have hnb126:=NB899_890.out;have hnc126:=NB890_899.out;have hnb127:=NB899_894.out;have hnc127:=NB894_899.out;obtain⟨hcz128_0,hcz128_1,hcz128_2,hfz128_0,hfz128_1,hfz128_2⟩:=bo3_ BK899;obtain⟨hcz129_0,hcz129_1,hfz129_0,hfz129_1⟩:=bo2_ BK894)|((with_reducible refine gate_callee (f:=19) rfl ?_);refine gl_ (some 38) Tryz.func19 #[.int .i64 ((rd_T57 l0_3 x28_1).f1)] ?_;(with_reducible refine(num_Of.calls _ _ _ _ A27.out).mono ?_);rintro e w130 ⟨rfl,hb⟩;refine⟨_,rfl,?_⟩;have n0_:=bz_ BK882 hb;have n1_:=bz_ BK883 hb;have n2_:=bz_ BK890 hb;have n3_:=bz_ BK894 hb;have n4_:=am_ (blk_below (g:=gb899) (o:= .cells #[.bool t896,.string t897,.int .i64 t898] 97 (0,0)) ((bp_ BK899).out) hb);have n5_:=am_ (below_step (bl_ HB).out hb);clear BK882;clear BK883;clear BK890;clear BK894;clear BK899;clear HB;revert n0_ n1_ n2_ n3_ n4_ n5_;intro BK882 BK883 BK890 BK894 BK899 HB;(try clear hb);(try clear hi))|((with_reducible refine gate_callee (f:=44) rfl ?_);refine gl_ (some 39) Tryz.func44 #[.bool false,.string t900,.int .i64 0] ?_;(with_reducible refine(dec_Made.calls _ _ _ _ _ _ _ _ A28.out).mono ?_);rintro e w131 ⟨rfl,hb⟩;refine⟨_,rfl,?_⟩;replace BK882:=bb_ BK882 hb;replace BK883:=bb_ BK883 hb;replace BK890:=bb_ BK890 hb;replace BK894:=bb_ BK894 hb;replace BK899:=bb_ BK899 hb;replace HB:=am_ (below_step (bl_ HB).out hb);(try clear hb);(try clear hi))|((with_reducible refine gate_dst (N:=12) rfl ?_);refine be_ 12 #[.bool false,.string (⟨#[]⟩:ByteArray),.int .i64 0] 97 ?_;intro gb904 hg w132 hbox hb;have BK904:=am_ (hbox);have GW904:=sz_ HB hg;have GE904:=sz_ HB hg;have NB882_904:=na_ BK882 hg;have NB904_882:=nb_ BK882 hg;have NB883_904:=na_ BK883 hg;have NB904_883:=nb_ BK883 hg;have NB890_904:=na_ BK890 hg;have NB904_890:=nb_ BK890 hg;have NB894_904:=na_ BK894 hg;have NB904_894:=nb_ BK894 hg;have NB899_904:=na_ BK899 hg;have NB904_899:=nb_ BK899 hg;replace BK882:=bb_ BK882 hb;replace BK883:=bb_ BK883 hb;replace BK890:=bb_ BK890 hb;replace BK894:=bb_ BK894 hb;replace BK899:=bb_ BK899 hb;replace HB:=am_ (below_step (bl_ HB).out hb);clear hb hbox hg;have hnb133:=NB904_882.out;have hnc133:=NB882_904.out;have hnb134:=NB904_883.out;have hnc134:=NB883_904.out;have hnb135:=NB904_890.out;have hnc135:=NB890_904.out;have hnb136:=NB904_894.out;have hnc136:=NB894_904.out;have hnb137:=NB904_899.out;have hnc137:=NB899_904.out;obtain⟨hcz138_0,hcz138_1,hcz138_2,hfz138_0,hfz138_1,hfz138_2⟩:=bo3_ BK904))
  go_roundg k1
  case measure=>have:=HK1.out;omega
  case rel=>exact⟨(false),(wrap64 (x28_1+1)),eq_,eq_,H',⟨by have:=HK1.out;omega⟩,⟨(bf_ BK882).out⟩,⟨(bf_ BK883).out⟩,⟨(bf_ BK890).out⟩,(bl_ HB)⟩
 rw[if_neg c22] at H
 have c22b0:=decide_eq_false c22
 clear c22
 obtain rfl:=Option.some.inj H
 have hnb139:=NB882_883.out
 have hnc139:=NB883_882.out
 have hnb140:=NB882_890.out
 have hnc140:=NB890_882.out
 obtain⟨hcz141_0,hcz141_1,hcz141_2,hcz141_3,hfz141_0,hfz141_1,hfz141_2,hfz141_3⟩:=bo4_ BK882
 go_wp2
 go_ret
 exact⟨ew_,(bl_ HB).out⟩

end Go.Proofs.YtadagjgkanlmdaaGreatDoor.P
