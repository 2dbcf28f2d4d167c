import Derived.Test.YtadagjgkanlmdaaGreatDoorPx0
import Derived.Test.YtadagjgkanlmdaaGreatDoorPx1
import Derived.Test.YtadagjgkanlmdaaGreatDoorPx14
namespace Go.Proofs.YtadagjgkanlmdaaGreatDoor.P
open Go.RowKit Go.Proofs.YtadagjgkanlmdaaGreatDoorW.PrintWords Go.Proofs.YtadagjgkanlmdaaGreatDoorW.PrintLast Go.Proofs.YtadagjgkanlmdaaGreatDoorW.PrintMore
attribute [local go_sem] max2_int min2_int max_two min_two max_three min_three max_four min_four
set_option maxHeartbeats 64000000
set_option maxRecDepth 100000
set_option linter.unusedVariables false
set_option linter.unusedSimpArgs false

def dec_Sub.f (k:Nat) (a0_0:Bool) (a0_1:ByteArray) (a0_2:Int) (a1_0:Bool) (a1_1:ByteArray) (a1_2:Int):Option (Bool × ByteArray × Int):=(dec_Dec_Minus.f k a1_0 a1_1 a1_2).bind fun bt867=>((dec_Add.f k a0_0 a0_1 a0_2 bt867.1 bt867.2.1 bt867.2.2).bind fun bt870=>(some (bt870.1,bt870.2.1,bt870.2.2)))
theorem dec_Sub.calls (k:Nat) (a0_0:Bool) (a0_1:ByteArray) (a0_2:Int) (a1_0:Bool) (a1_1:ByteArray) (a1_2:Int) (r1:Bool) (r2:ByteArray) (r3:Int) (w:World) (h:dec_Sub.f k a0_0 a0_1 a0_2 a1_0 a1_1 a1_2=some (r1,r2,r3)) :
  Calls Tryz.prog 67 #[.agg #[.bool a0_0,.string a0_1,.int .i64 a0_2],.agg #[.bool a1_0,.string a1_1,.int .i64 a1_2]] w fun e w'=>e= .returned (.agg #[.bool r1,.string r2,.int .i64 r3])∧Below w.heap.size w w':=by
 have hu97:=Tryz.underlying97
 have HB:=am_ (Below.refl w.heap.size w)
 have H:=h
 clear h
 unfold dec_Sub.f at H
 replace H:=Option.bind_eq_some_iff.mp H
 obtain⟨⟨t867,t868,t869⟩,A30,H⟩:=H
 dsimp only at H
 have A3:=am_ A30
 clear A30
 replace H:=Option.bind_eq_some_iff.mp H
 obtain⟨⟨t870,t871,t872⟩,A40,H⟩:=H
 dsimp only at H
 have A4:=am_ A40
 clear A40
 simp only[Option.some.injEq,Prod.mk.injEq] at H
 obtain⟨rfl,rfl,rfl⟩:=H
 go_enter Tryz.func67,Tryz.ntmps67
 try go_wp2_with (first|((with_reducible refine gate_dst (N:=2) rfl ?_);refine be_ 2 #[.bool a0_0,.string a0_1,.int .i64 a0_2] 97 ?_;intro gb864 hg w5 hbox hb;have BK864:=am_ (hbox);have GW864:=sz_ HB hg;have GE864:=sz_ HB hg;replace HB:=am_ (below_step (bl_ HB).out hb);clear hb hbox hg)|((with_reducible refine gate_dst (N:=3) rfl ?_);refine be_ 3 #[.bool a1_0,.string a1_1,.int .i64 a1_2] 97 ?_;intro gb865 hg w6 hbox hb;have BK865:=am_ (hbox);have GW865:=sz_ HB hg;have GE865:=sz_ HB hg;have NB864_865:=na_ BK864 hg;have NB865_864:=nb_ BK864 hg;replace BK864:=bb_ BK864 hb;replace HB:=am_ (below_step (bl_ HB).out hb);clear hb hbox hg)|((with_reducible refine gate_dst (N:=4) rfl ?_);refine be_ 4 #[.bool false,.string (⟨#[]⟩:ByteArray),.int .i64 0] 97 ?_;intro gb866 hg w7 hbox hb;have BK866:=am_ (hbox);have GW866:=sz_ HB hg;have GE866:=sz_ HB hg;have NB864_866:=na_ BK864 hg;have NB866_864:=nb_ BK864 hg;have NB865_866:=na_ BK865 hg;have NB866_865:=nb_ BK865 hg;replace BK864:=bb_ BK864 hb;replace BK865:=bb_ BK865 hb;replace HB:=am_ (below_step (bl_ HB).out hb);clear hb hbox hg))
 replace BK864:=am_ (blk_drew BK864.out)
 replace BK865:=am_ (blk_drew BK865.out)
 replace BK866:=am_ (blk_drew BK866.out)
 replace HB:=am_ (below_drew1 HB.out)
 refine start_ (n:=5) (S:=fun w'=>w'.cell? ⟨gb864,0,none⟩=some (.bool a0_0)∧w'.cell? ⟨gb864,1,none⟩=some (.string a0_1)∧w'.cell? ⟨gb864,2,none⟩=some (.int .i64 a0_2)∧w'.cell? ⟨gb865,0,none⟩=some (.bool a1_0)∧w'.cell? ⟨gb865,1,none⟩=some (.string a1_1)∧w'.cell? ⟨gb865,2,none⟩=some (.int .i64 a1_2)) (ds:=[]) #[false,false,false,false,false] (by kernel_rfl) rfl rfl ⟨bc_ BK864 0,bc_ BK864 1,bc_ BK864 2,bc_ BK865 0,bc_ BK865 1,bc_ BK865 2⟩ (fun hHeld=>?_)
 generalize w7.drew=w8 at BK864 BK865 BK866 HB hHeld ⊢
 refine tk0_ 0 5 #[true,false,false,false,false] hHeld rfl (by rintro w' ⟨s0,s1,s2,s3,s4,s5⟩;go_simp;with_reducible rfl) ?_
 refine tk0_ 1 6 #[true,true,false,false,false] hHeld rfl (by rintro w' ⟨s0,s1,s2,s3,s4,s5⟩;go_simp;with_reducible rfl) ?_
 refine one_ (i:=2) (N:=some 7) #[true,true,true,false,false] rfl rfl (by kernel_rfl) (by decide) (fun K hK=>?_)
 refine gs_ Tryz.func94 #[.agg #[.bool a1_0,.string a1_1,.int .i64 a1_2]] ?_
 with_reducible refine(dec_Dec_Minus.calls _ _ _ _ _ _ _ _ A3.out).mono ?_
 rintro e w9 ⟨rfl,hb⟩
 refine⟨_,rfl,?_⟩
 replace BK864:=bb_ BK864 hb
 replace BK865:=bb_ BK865 hb
 replace BK866:=bb_ BK866 hb
 replace HB:=am_ (below_step (bl_ HB).out hb)
 (try clear hb)
 (try clear hb2)
 (try clear hk)
 (try clear hi)
 refine hK.out _ _ ⟨bc_ BK864 0,bc_ BK864 1,bc_ BK864 2,bc_ BK865 0,bc_ BK865 1,bc_ BK865 2⟩ (fun hHeld=>?_)
 clear hK K
 refine nm_ 7 ?_
 refine one_ (i:=3) (N:=some 8) #[true,true,true,true,false] rfl rfl (by kernel_rfl) (by decide) (fun K hK=>?_)
 refine gs_ Tryz.func63 #[.agg #[.bool a0_0,.string a0_1,.int .i64 a0_2],.agg #[.bool t867,.string t868,.int .i64 t869]] ?_
 with_reducible refine(dec_Add.calls _ _ _ _ _ _ _ _ _ _ _ A4.out).mono ?_
 rintro e w10 ⟨rfl,hb⟩
 refine⟨_,rfl,?_⟩
 replace BK864:=bb_ BK864 hb
 replace BK865:=bb_ BK865 hb
 replace BK866:=bb_ BK866 hb
 replace HB:=am_ (below_step (bl_ HB).out hb)
 (try clear hb)
 (try clear hb2)
 (try clear hk)
 (try clear hi)
 refine hK.out _ _ ⟨bc_ BK864 0,bc_ BK864 1,bc_ BK864 2,bc_ BK865 0,bc_ BK865 1,bc_ BK865 2⟩ (fun hHeld=>?_)
 clear hK K
 refine nm_ 8 ?_
 refine one_ (i:=4) (N:=none) #[true,true,true,true,true] rfl rfl (by kernel_rfl) (by decide) (fun K hK=>?_)
 have hs11:w10.cell? ⟨gb866,0,none⟩=some (.bool false):=bc_ BK866 0
 have hfs11:=blk_frozen BK866.out 0
 have hns11_0:=NB864_866.out
 have hns11_1:=NB865_866.out
 have hms11_0:=NB866_864.out
 have hms11_1:=NB866_865.out
 have hs12:w10.cell? ⟨gb866,1,none⟩=some (.string (⟨#[]⟩:ByteArray)):=bc_ BK866 1
 have hfs12:=blk_frozen BK866.out 1
 have hns12_0:=NB864_866.out
 have hns12_1:=NB865_866.out
 have hms12_0:=NB866_864.out
 have hms12_1:=NB866_865.out
 have hs13:w10.cell? ⟨gb866,2,none⟩=some (.int .i64 0):=bc_ BK866 2
 have hfs13:=blk_frozen BK866.out 2
 have hns13_0:=NB864_866.out
 have hns13_1:=NB865_866.out
 have hms13_0:=NB866_864.out
 have hms13_1:=NB866_865.out
 refine skip_ (w1:=?_) (by rfl) rfl ?_ ?_
 rotate_left
 ·go_simp
  rfl
 refine hK.out _ _ ⟨((cell_far (p:=⟨gb866,_,none⟩) NB864_866.out _).trans (((cell_far (p:=⟨gb866,_,none⟩) NB864_866.out _).trans (((cell_far (p:=⟨gb866,_,none⟩) NB864_866.out _).trans (hHeld.1)))))),((cell_far (p:=⟨gb866,_,none⟩) NB864_866.out _).trans (((cell_far (p:=⟨gb866,_,none⟩) NB864_866.out _).trans (((cell_far (p:=⟨gb866,_,none⟩) NB864_866.out _).trans (hHeld.2.1)))))),((cell_far (p:=⟨gb866,_,none⟩) NB864_866.out _).trans (((cell_far (p:=⟨gb866,_,none⟩) NB864_866.out _).trans (((cell_far (p:=⟨gb866,_,none⟩) NB864_866.out _).trans (hHeld.2.2.1)))))),((cell_far (p:=⟨gb866,_,none⟩) NB865_866.out _).trans (((cell_far (p:=⟨gb866,_,none⟩) NB865_866.out _).trans (((cell_far (p:=⟨gb866,_,none⟩) NB865_866.out _).trans (hHeld.2.2.2.1)))))),((cell_far (p:=⟨gb866,_,none⟩) NB865_866.out _).trans (((cell_far (p:=⟨gb866,_,none⟩) NB865_866.out _).trans (((cell_far (p:=⟨gb866,_,none⟩) NB865_866.out _).trans (hHeld.2.2.2.2.1)))))),((cell_far (p:=⟨gb866,_,none⟩) NB865_866.out _).trans (((cell_far (p:=⟨gb866,_,none⟩) NB865_866.out _).trans (((cell_far (p:=⟨gb866,_,none⟩) NB865_866.out _).trans (hHeld.2.2.2.2.2))))))⟩ (fun hHeld=>?_)
 clear hK K
 refine done_ (by kernel_rfl) ?_
 try go_wp2
 refine bodyPost_ret (results_cell_row rfl _ _ gb866 97 #[.bool t870,.string t871,.int .i64 t872] (0,0) _ rfl ((bp_ BK866).out) Tryz.underlying97 rfl (by kernel_rfl)) rfl ?_
 exact⟨ew_,(bl_ HB).out⟩

def dec_Dec_Zero.f (k:Nat) (a0_0:Bool) (a0_1:ByteArray) (a0_2:Int):Option (Bool):=(num_Trim.f k a0_1).bind fun t874=>(some (t874.toList==([]:List UInt8)))
theorem dec_Dec_Zero.calls (k:Nat) (a0_0:Bool) (a0_1:ByteArray) (a0_2:Int) (r:Bool) (w:World) (h:dec_Dec_Zero.f k a0_0 a0_1 a0_2=some r) :
    Calls Tryz.prog 68 #[.agg #[.bool a0_0,.string a0_1,.int .i64 a0_2]] w fun e w'=>e= .returned (.bool r)∧Below w.heap.size w w':=by
  have hu97:=Tryz.underlying97
  have HB:=am_ (Below.refl w.heap.size w)
  have H:=h
  clear h
  unfold dec_Dec_Zero.f at H
  replace H:=Option.bind_eq_some_iff.mp H
  obtain⟨t874,A20,H⟩:=H
  have A2:=am_ A20
  clear A20
  obtain rfl:=Option.some.inj H
  go_enter Tryz.func68,Tryz.ntmps68
  go_wp2_with (first|((with_reducible refine gate_dst (N:=1) rfl ?_);refine be_ 1 #[.bool a0_0,.string a0_1,.int .i64 a0_2] 97 ?_;intro gb873 hg w3 hbox hb;have BK873:=am_ (hbox);have GW873:=sz_ HB hg;have GE873:=sz_ HB hg;replace HB:=am_ (below_step (bl_ HB).out hb);clear hb hbox hg;obtain⟨hcz4_0,hcz4_1,hcz4_2,hfz4_0,hfz4_1,hfz4_2⟩:=bo3_ BK873)|((with_reducible refine gate_callee (f:=25) rfl ?_);refine gl_ (some 5) Tryz.func25 #[.string a0_1] ?_;(with_reducible refine(num_Trim.calls _ _ _ _ A2.out).mono ?_);rintro e w' ⟨rfl,⟨nd,rfl⟩⟩;refine⟨_,rfl,?_⟩))
  go_ret
  exact⟨ew_,(bl_ HB).out⟩

def dec_Cmp.f (k:Nat) (a0_0:Bool) (a0_1:ByteArray) (a0_2:Int) (a1_0:Bool) (a1_1:ByteArray) (a1_2:Int):Option (Int):=(dec_Sub.f k a0_0 a0_1 a0_2 a1_0 a1_1 a1_2).bind fun bt877=>((dec_Dec_Zero.f k bt877.1 bt877.2.1 bt877.2.2).bind fun t881=>(if t881=true then (some 0) else (if bt877.1=true then (some (-1)) else (some 1))))
theorem dec_Cmp.calls (k:Nat) (a0_0:Bool) (a0_1:ByteArray) (a0_2:Int) (a1_0:Bool) (a1_1:ByteArray) (a1_2:Int) (r:Int) (w:World) (h:dec_Cmp.f k a0_0 a0_1 a0_2 a1_0 a1_1 a1_2=some r) :
  Calls Tryz.prog 45 #[.agg #[.bool a0_0,.string a0_1,.int .i64 a0_2],.agg #[.bool a1_0,.string a1_1,.int .i64 a1_2]] w fun e w'=>e= .returned (.int .i64 r)∧Below w.heap.size w w':=by
 have hu97:=Tryz.underlying97
 have HB:=am_ (Below.refl w.heap.size w)
 have H:=h
 clear h
 unfold dec_Cmp.f at H
 replace H:=Option.bind_eq_some_iff.mp H
 obtain⟨⟨t877,t878,t879⟩,A30,H⟩:=H
 dsimp only at H
 have A3:=am_ A30
 clear A30
 replace H:=Option.bind_eq_some_iff.mp H
 obtain⟨t881,A40,H⟩:=H
 have A4:=am_ A40
 clear A40
 by_cases c5:t881=true
 ·subst c5
  rw[if_pos rfl] at H
  obtain rfl:=Option.some.inj H
  go_enter Tryz.func45,Tryz.ntmps45
  go_wp2_with (first|((with_reducible refine gate_dst (N:=2) rfl ?_);refine be_ 2 #[.bool a0_0,.string a0_1,.int .i64 a0_2] 97 ?_;intro gb875 hg w6 hbox hb;have BK875:=am_ (hbox);have GW875:=sz_ HB hg;have GE875:=sz_ HB hg;replace HB:=am_ (below_step (bl_ HB).out hb);clear hb hbox hg)|((with_reducible refine gate_dst (N:=3) rfl ?_);refine be_ 3 #[.bool a1_0,.string a1_1,.int .i64 a1_2] 97 ?_;intro gb876 hg w7 hbox hb;have BK876:=am_ (hbox);have GW876:=sz_ HB hg;have GE876:=sz_ HB hg;have NB875_876:=na_ BK875 hg;have NB876_875:=nb_ BK875 hg;replace BK875:=bb_ BK875 hb;replace HB:=am_ (below_step (bl_ HB).out hb);clear hb hbox hg;have hnb8:=NB875_876.out;have hnc8:=NB876_875.out;obtain⟨hcz9_0,hcz9_1,hcz9_2,hfz9_0,hfz9_1,hfz9_2⟩:=bo3_ BK875;obtain⟨hcz10_0,hcz10_1,hcz10_2,hfz10_0,hfz10_1,hfz10_2⟩:=bo3_ BK876)|((with_reducible refine gate_callee (f:=67) rfl ?_);refine gl_ (some 8) Tryz.func67 #[.agg #[.bool a0_0,.string a0_1,.int .i64 a0_2],.agg #[.bool a1_0,.string a1_1,.int .i64 a1_2]] ?_;(with_reducible refine(dec_Sub.calls _ _ _ _ _ _ _ _ _ _ _ A3.out).mono ?_);rintro e w11 ⟨rfl,hb⟩;refine⟨_,rfl,?_⟩;replace BK875:=bb_ BK875 hb;replace BK876:=bb_ BK876 hb;replace HB:=am_ (below_step (bl_ HB).out hb);(try clear hb);(try clear hi))|((with_reducible refine gate_dst (N:=5) rfl ?_);refine be_ 5 #[.bool false,.string (⟨#[]⟩:ByteArray),.int .i64 0] 97 ?_;intro gb880 hg w12 hbox hb;have BK880:=am_ (hbox);have GW880:=sz_ HB hg;have GE880:=sz_ HB hg;have NB875_880:=na_ BK875 hg;have NB880_875:=nb_ BK875 hg;have NB876_880:=na_ BK876 hg;have NB880_876:=nb_ BK876 hg;replace BK875:=bb_ BK875 hb;replace BK876:=bb_ BK876 hb;replace HB:=am_ (below_step (bl_ HB).out hb);clear hb hbox hg;have hnb13:=NB880_875.out;have hnc13:=NB875_880.out;have hnb14:=NB880_876.out;have hnc14:=NB876_880.out;obtain⟨hcz15_0,hcz15_1,hcz15_2,hfz15_0,hfz15_1,hfz15_2⟩:=bo3_ BK880)|((with_reducible refine gate_callee (f:=68) rfl ?_);refine gl_ (some 11) Tryz.func68 #[.agg #[.bool t877,.string t878,.int .i64 t879]] ?_;(with_reducible refine(dec_Dec_Zero.calls _ _ _ _ _ _ A4.out).mono ?_);rintro e w16 ⟨rfl,hb⟩;refine⟨_,rfl,?_⟩;have n0_:=bz_ BK875 hb;have n1_:=bz_ BK876 hb;have n2_:=am_ (blk_below (g:=gb880) (o:= .cells #[.bool t877,.string t878,.int .i64 t879] 97 (0,0)) ((bp_ BK880).out) hb);have n3_:=am_ (below_step (bl_ HB).out hb);clear BK875;clear BK876;clear BK880;clear HB;revert n0_ n1_ n2_ n3_;intro BK875 BK876 BK880 HB;(try clear hb);(try clear hi)))
  go_ret
  exact⟨ew_,(bl_ HB).out⟩
 replace c5:=Bool.eq_false_iff.mpr c5
 subst c5
 rw[if_neg (show ¬(false=true) by decide)] at H
 by_cases c17:t877=true
 ·subst c17
  rw[if_pos rfl] at H
  obtain rfl:=Option.some.inj H
  go_enter Tryz.func45,Tryz.ntmps45
  go_wp2_with (first|((with_reducible refine gate_dst (N:=2) rfl ?_);refine be_ 2 #[.bool a0_0,.string a0_1,.int .i64 a0_2] 97 ?_;intro gb875 hg w18 hbox hb;have BK875:=am_ (hbox);have GW875:=sz_ HB hg;have GE875:=sz_ HB hg;replace HB:=am_ (below_step (bl_ HB).out hb);clear hb hbox hg)|((with_reducible refine gate_dst (N:=3) rfl ?_);refine be_ 3 #[.bool a1_0,.string a1_1,.int .i64 a1_2] 97 ?_;intro gb876 hg w19 hbox hb;have BK876:=am_ (hbox);have GW876:=sz_ HB hg;have GE876:=sz_ HB hg;have NB875_876:=na_ BK875 hg;have NB876_875:=nb_ BK875 hg;replace BK875:=bb_ BK875 hb;replace HB:=am_ (below_step (bl_ HB).out hb);clear hb hbox hg;have hnb20:=NB875_876.out;have hnc20:=NB876_875.out;obtain⟨hcz21_0,hcz21_1,hcz21_2,hfz21_0,hfz21_1,hfz21_2⟩:=bo3_ BK875;obtain⟨hcz22_0,hcz22_1,hcz22_2,hfz22_0,hfz22_1,hfz22_2⟩:=bo3_ BK876)|((with_reducible refine gate_callee (f:=67) rfl ?_);refine gl_ (some 8) Tryz.func67 #[.agg #[.bool a0_0,.string a0_1,.int .i64 a0_2],.agg #[.bool a1_0,.string a1_1,.int .i64 a1_2]] ?_;(with_reducible refine(dec_Sub.calls _ _ _ _ _ _ _ _ _ _ _ A3.out).mono ?_);rintro e w23 ⟨rfl,hb⟩;refine⟨_,rfl,?_⟩;replace BK875:=bb_ BK875 hb;replace BK876:=bb_ BK876 hb;replace HB:=am_ (below_step (bl_ HB).out hb);(try clear hb);(try clear hi))|((with_reducible refine gate_dst (N:=5) rfl ?_);refine be_ 5 #[.bool false,.string (⟨#[]⟩:ByteArray),.int .i64 0] 97 ?_;intro gb880 hg w24 hbox hb;have BK880:=am_ (hbox);have GW880:=sz_ HB hg;have GE880:=sz_ HB hg;have NB875_880:=na_ BK875 hg;have NB880_875:=nb_ BK875 hg;have NB876_880:=na_ BK876 hg;have NB880_876:=nb_ BK876 hg;replace BK875:=bb_ BK875 hb;replace BK876:=bb_ BK876 hb;replace HB:=am_ (below_step (bl_ HB).out hb);clear hb hbox hg;have hnb25:=NB880_875.out;have hnc25:=NB875_880.out;have hnb26:=NB880_876.out;have hnc26:=NB876_880.out;obtain⟨hcz27_0,hcz27_1,hcz27_2,hfz27_0,hfz27_1,hfz27_2⟩:=bo3_ BK880)|((with_reducible refine gate_callee (f:=68) rfl ?_);refine gl_ (some 11) Tryz.func68 #[.agg #[.bool true,.string t878,.int .i64 t879]] ?_;(with_reducible refine(dec_Dec_Zero.calls _ _ _ _ _ _ A4.out).mono ?_);rintro e w28 ⟨rfl,hb⟩;refine⟨_,rfl,?_⟩;have n0_:=bz_ BK875 hb;have n1_:=bz_ BK876 hb;have n2_:=am_ (blk_below (g:=gb880) (o:= .cells #[.bool true,.string t878,.int .i64 t879] 97 (0,0)) ((bp_ BK880).out) hb);have n3_:=am_ (below_step (bl_ HB).out hb);clear BK875;clear BK876;clear BK880;clear HB;revert n0_ n1_ n2_ n3_;intro BK875 BK876 BK880 HB;(try clear hb);obtain⟨hcz29_0,hcz29_1,hcz29_2,hfz29_0,hfz29_1,hfz29_2⟩:=bo3_ BK880))
  go_ret
  exact⟨ew_,(bl_ HB).out⟩
 replace c17:=Bool.eq_false_iff.mpr c17
 subst c17
 rw[if_neg (show ¬(false=true) by decide)] at H
 obtain rfl:=Option.some.inj H
 go_enter Tryz.func45,Tryz.ntmps45
 go_wp2_with (first|((with_reducible refine gate_dst (N:=2) rfl ?_);refine be_ 2 #[.bool a0_0,.string a0_1,.int .i64 a0_2] 97 ?_;intro gb875 hg w30 hbox hb;have BK875:=am_ (hbox);have GW875:=sz_ HB hg;have GE875:=sz_ HB hg;replace HB:=am_ (below_step (bl_ HB).out hb);clear hb hbox hg)|((with_reducible refine gate_dst (N:=3) rfl ?_);refine be_ 3 #[.bool a1_0,.string a1_1,.int .i64 a1_2] 97 ?_;intro gb876 hg w31 hbox hb;have BK876:=am_ (hbox);have GW876:=sz_ HB hg;have GE876:=sz_ HB hg;have NB875_876:=na_ BK875 hg;have NB876_875:=nb_ BK875 hg;replace BK875:=bb_ BK875 hb;replace HB:=am_ (below_step (bl_ HB).out hb);clear hb hbox hg;have hnb32:=NB875_876.out;have hnc32:=NB876_875.out;obtain⟨hcz33_0,hcz33_1,hcz33_2,hfz33_0,hfz33_1,hfz33_2⟩:=bo3_ BK875;obtain⟨hcz34_0,hcz34_1,hcz34_2,hfz34_0,hfz34_1,hfz34_2⟩:=bo3_ BK876)|((with_reducible refine gate_callee (f:=67) rfl ?_);refine gl_ (some 8) Tryz.func67 #[.agg #[.bool a0_0,.string a0_1,.int .i64 a0_2],.agg #[.bool a1_0,.string a1_1,.int .i64 a1_2]] ?_;(with_reducible refine(dec_Sub.calls _ _ _ _ _ _ _ _ _ _ _ A3.out).mono ?_);rintro e w35 ⟨rfl,hb⟩;refine⟨_,rfl,?_⟩;replace BK875:=bb_ BK875 hb;replace BK876:=bb_ BK876 hb;replace HB:=am_ (below_step (bl_ HB).out hb);(try clear hb);(try clear hi))|((with_reducible refine gate_dst (N:=5) rfl ?_);refine be_ 5 #[.bool false,.string (⟨#[]⟩:ByteArray),.int .i64 0] 97 ?_;intro gb880 hg w36 hbox hb;have BK880:=am_ (hbox);have GW880:=sz_ HB hg;have GE880:=sz_ HB hg;have NB875_880:=na_ BK875 hg;have NB880_875:=nb_ BK875 hg;have NB876_880:=na_ BK876 hg;have NB880_876:=nb_ BK876 hg;replace BK875:=bb_ BK875 hb;replace BK876:=bb_ BK876 hb;replace HB:=am_ (below_step (bl_ HB).out hb);clear hb hbox hg;have hnb37:=NB880_875.out;have hnc37:=NB875_880.out;have hnb38:=NB880_876.out;have hnc38:=NB876_880.out;obtain⟨hcz39_0,hcz39_1,hcz39_2,hfz39_0,hfz39_1,hfz39_2⟩:=bo3_ BK880)|((with_reducible refine gate_callee (f:=68) rfl ?_);refine gl_ (some 11) Tryz.func68 #[.agg #[.bool false,.string t878,.int .i64 t879]] ?_;(with_reducible refine(dec_Dec_Zero.calls _ _ _ _ _ _ A4.out).mono ?_);rintro e w40 ⟨rfl,hb⟩;refine⟨_,rfl,?_⟩;have n0_:=bz_ BK875 hb;have n1_:=bz_ BK876 hb;have n2_:=am_ (blk_below (g:=gb880) (o:= .cells #[.bool false,.string t878,.int .i64 t879] 97 (0,0)) ((bp_ BK880).out) hb);have n3_:=am_ (below_step (bl_ HB).out hb);clear BK875;clear BK876;clear BK880;clear HB;revert n0_ n1_ n2_ n3_;intro BK875 BK876 BK880 HB;(try clear hb);obtain⟨hcz41_0,hcz41_1,hcz41_2,hfz41_0,hfz41_1,hfz41_2⟩:=bo3_ BK880))
 go_ret
 exact⟨ew_,(bl_ HB).out⟩

end Go.Proofs.YtadagjgkanlmdaaGreatDoor.P
