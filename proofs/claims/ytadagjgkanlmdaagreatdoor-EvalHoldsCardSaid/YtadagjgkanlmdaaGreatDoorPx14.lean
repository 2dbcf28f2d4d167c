import Derived.Test.YtadagjgkanlmdaaGreatDoorPx0
import Derived.Test.YtadagjgkanlmdaaGreatDoorPx1
import Derived.Test.YtadagjgkanlmdaaGreatDoorPx13
namespace Go.Proofs.YtadagjgkanlmdaaGreatDoor.P
open Go.RowKit Go.Proofs.YtadagjgkanlmdaaGreatDoorW.PrintWords Go.Proofs.YtadagjgkanlmdaaGreatDoorW.PrintLast Go.Proofs.YtadagjgkanlmdaaGreatDoorW.PrintMore
attribute [local go_sem] max2_int min2_int max_two min_two max_three min_three max_four min_four
set_option maxHeartbeats 64000000
set_option maxRecDepth 100000
set_option linter.unusedVariables false
set_option linter.unusedSimpArgs false

def dec_Add.f (k:Nat) (a0_0:Bool) (a0_1:ByteArray) (a0_2:Int) (a1_0:Bool) (a1_1:ByteArray) (a1_2:Int):Option (Bool × ByteArray × Int):=(dec_Dec_Norm.f k a0_0 a0_1 a0_2).bind fun bt794=>((dec_Dec_Norm.f k a1_0 a1_1 a1_2).bind fun bt797=>((dec_both.f bt794.1 bt794.2.1 bt794.2.2 bt797.1 bt797.2.1 bt797.2.2).bind fun bt800=>(if (bt794.1==bt797.1)=true then ((num_Add.f k bt800.1 bt800.2.1).bind fun t803=>((dec_Made.f k bt794.1 t803 bt800.2.2).bind fun bt804=>(some (bt804.1,bt804.2.1,bt804.2.2)))) else ((num_Sub.f k bt800.1 bt800.2.1).bind fun bt807=>(if bt807.2=true then ((dec_Made.f k bt794.1 bt807.1 bt800.2.2).bind fun bt809=>(some (bt809.1,bt809.2.1,bt809.2.2))) else ((num_Sub.f k bt800.2.1 bt800.1).bind fun bt812=>((dec_Made.f k bt797.1 bt812.1 bt800.2.2).bind fun bt814=>(some (bt814.1,bt814.2.1,bt814.2.2)))))))))
def dec_Add.T4:Bool × List (List Nat × List Nat):=(true,[([],[]),([0],[0]),([],[]),([],[]),([2,3],[2,3]),([],[]),([1,4,5,4],[1,4,5]),([6,6,0,1,2,3,4,5,6],[6])])
def dec_Add.B4:List Nat:=[0,1,0,0,12,0,63,127]
theorem dec_Add.tab4:rtab .any (opsOf Tryz.f63 4)=dec_Add.T4:=by kernel_rfl
theorem dec_Add.bits4:waitsOk dec_Add.T4.2 dec_Add.B4=true:=by kernel_rfl
theorem dec_Add.calls (k:Nat) (a0_0:Bool) (a0_1:ByteArray) (a0_2:Int) (a1_0:Bool) (a1_1:ByteArray) (a1_2:Int) (r1:Bool) (r2:ByteArray) (r3:Int) (w:World) (h:dec_Add.f k a0_0 a0_1 a0_2 a1_0 a1_1 a1_2=some (r1,r2,r3)) :
  Calls Tryz.prog 63 #[.agg #[.bool a0_0,.string a0_1,.int .i64 a0_2],.agg #[.bool a1_0,.string a1_1,.int .i64 a1_2]] w fun e w'=>e= .returned (.agg #[.bool r1,.string r2,.int .i64 r3])∧Below w.heap.size w w':=by
 have hu97:=Tryz.underlying97
 have HB:=am_ (Below.refl w.heap.size w)
 have H:=h
 clear h
 unfold dec_Add.f at H
 replace H:=Option.bind_eq_some_iff.mp H
 obtain⟨⟨t794,t795,t796⟩,A30,H⟩:=H
 dsimp only at H
 have A3:=am_ A30
 clear A30
 replace H:=Option.bind_eq_some_iff.mp H
 obtain⟨⟨t797,t798,t799⟩,A40,H⟩:=H
 dsimp only at H
 have A4:=am_ A40
 clear A40
 replace H:=Option.bind_eq_some_iff.mp H
 obtain⟨⟨t800,t801,t802⟩,A50,H⟩:=H
 dsimp only at H
 have A5:=am_ A50
 clear A50
 by_cases c6:(t794==t797)=true
 ·rw[if_pos c6] at H
  have c6b0:(t794==t797)=true:=c6
  (try (have c6b1:decide (t794=t797)=true:=by simpa using c6))
  (try (have c6b2:(t794==t797)=true:=by simpa using c6))
  (try (have c6b3:(t794=t797)=True:=eq_true (by simpa using c6)))
  clear c6
  replace H:=Option.bind_eq_some_iff.mp H
  obtain⟨t803,A70,H⟩:=H
  have A7:=am_ A70
  clear A70
  replace H:=Option.bind_eq_some_iff.mp H
  obtain⟨⟨t804,t805,t806⟩,A80,H⟩:=H
  dsimp only at H
  have A8:=am_ A80
  clear A80
  simp only[Option.some.injEq,Prod.mk.injEq] at H
  obtain⟨rfl,rfl,rfl⟩:=H
  go_enter Tryz.func63,Tryz.ntmps63
  try go_wp2_with (first|((with_reducible refine gate_dst (N:=2) rfl ?_);refine be_ 2 #[.bool a0_0,.string a0_1,.int .i64 a0_2] 97 ?_;intro gb791 hg w9 hbox hb;have BK791:=am_ (hbox);have GW791:=sz_ HB hg;have GE791:=sz_ HB hg;replace HB:=am_ (below_step (bl_ HB).out hb);clear hb hbox hg)|((with_reducible refine gate_dst (N:=3) rfl ?_);refine be_ 3 #[.bool a1_0,.string a1_1,.int .i64 a1_2] 97 ?_;intro gb792 hg w10 hbox hb;have BK792:=am_ (hbox);have GW792:=sz_ HB hg;have GE792:=sz_ HB hg;have NB791_792:=na_ BK791 hg;have NB792_791:=nb_ BK791 hg;replace BK791:=bb_ BK791 hb;replace HB:=am_ (below_step (bl_ HB).out hb);clear hb hbox hg)|((with_reducible refine gate_dst (N:=4) rfl ?_);refine be_ 4 #[.bool false,.string (⟨#[]⟩:ByteArray),.int .i64 0] 97 ?_;intro gb793 hg w11 hbox hb;have BK793:=am_ (hbox);have GW793:=sz_ HB hg;have GE793:=sz_ HB hg;have NB791_793:=na_ BK791 hg;have NB793_791:=nb_ BK791 hg;have NB792_793:=na_ BK792 hg;have NB793_792:=nb_ BK792 hg;replace BK791:=bb_ BK791 hb;replace BK792:=bb_ BK792 hb;replace HB:=am_ (below_step (bl_ HB).out hb);clear hb hbox hg))
  replace BK791:=am_ (blk_drew BK791.out)
  replace BK792:=am_ (blk_drew BK792.out)
  replace BK793:=am_ (blk_drew BK793.out)
  replace HB:=am_ (below_drew1 HB.out)
  refine start_ (n:=6) (S:=fun w'=>w'.cell? ⟨gb791,0,none⟩=some (.bool a0_0)∧w'.cell? ⟨gb791,1,none⟩=some (.string a0_1)∧w'.cell? ⟨gb791,2,none⟩=some (.int .i64 a0_2)∧w'.cell? ⟨gb792,0,none⟩=some (.bool a1_0)∧w'.cell? ⟨gb792,1,none⟩=some (.string a1_1)∧w'.cell? ⟨gb792,2,none⟩=some (.int .i64 a1_2)) (ds:=[4,5]) #[false,false,false,false,false,false] (by kernel_rfl) rfl rfl ⟨bc_ BK791 0,bc_ BK791 1,bc_ BK791 2,bc_ BK792 0,bc_ BK792 1,bc_ BK792 2⟩ (fun hHeld=>?_)
  generalize w11.drew=w12 at BK791 BK792 BK793 HB hHeld ⊢
  refine tk0_ 0 12 #[true,false,false,false,false,false] hHeld rfl (by rintro w' ⟨s0,s1,s2,s3,s4,s5⟩;go_simp;with_reducible rfl) ?_
  refine tk0_ 2 14 #[true,false,true,false,false,false] hHeld rfl (by rintro w' ⟨s0,s1,s2,s3,s4,s5⟩;go_simp;with_reducible rfl) ?_
  refine one_ (i:=1) (N:=some 13) #[true,true,true,false,false,false] rfl rfl (by kernel_rfl) (by decide) (fun K hK=>?_)
  refine gs_ Tryz.func64 #[.agg #[.bool a0_0,.string a0_1,.int .i64 a0_2]] ?_
  with_reducible refine(dec_Dec_Norm.calls _ _ _ _ _ _ _ _ A3.out).mono ?_
  rintro e w13 ⟨rfl,hb⟩
  refine⟨_,rfl,?_⟩
  replace BK791:=bb_ BK791 hb
  replace BK792:=bb_ BK792 hb
  replace BK793:=bb_ BK793 hb
  replace HB:=am_ (below_step (bl_ HB).out hb)
  (try clear hb)
  (try clear hb2)
  (try clear hk)
  (try clear hi)
  refine hK.out _ _ ⟨bc_ BK791 0,bc_ BK791 1,bc_ BK791 2,bc_ BK792 0,bc_ BK792 1,bc_ BK792 2⟩ (fun hHeld=>?_)
  clear hK K
  refine nm_ 13 ?_
  refine one_ (i:=3) (N:=some 15) #[true,true,true,true,false,false] rfl rfl (by kernel_rfl) (by decide) (fun K hK=>?_)
  refine gs_ Tryz.func64 #[.agg #[.bool a1_0,.string a1_1,.int .i64 a1_2]] ?_
  with_reducible refine(dec_Dec_Norm.calls _ _ _ _ _ _ _ _ A4.out).mono ?_
  rintro e w14 ⟨rfl,hb⟩
  refine⟨_,rfl,?_⟩
  replace BK791:=bb_ BK791 hb
  replace BK792:=bb_ BK792 hb
  replace BK793:=bb_ BK793 hb
  replace HB:=am_ (below_step (bl_ HB).out hb)
  (try clear hb)
  (try clear hb2)
  (try clear hk)
  (try clear hi)
  refine hK.out _ _ ⟨bc_ BK791 0,bc_ BK791 1,bc_ BK791 2,bc_ BK792 0,bc_ BK792 1,bc_ BK792 2⟩ (fun hHeld=>?_)
  clear hK K
  refine nm_ 15 ?_
  refine last_ (i:=4) (N:=none) #[true,true,true,true,true,false] rfl rfl (by kernel_rfl) (by decide) (fun K hK=>?_)
  have hs15:w14.cell? ⟨gb791,0,none⟩=some (.bool a0_0):=bc_ BK791 0
  have hfs15:=blk_frozen BK791.out 0
  have hns15_1:=NB792_791.out
  have hns15_2:=NB793_791.out
  have hms15_1:=NB791_792.out
  have hms15_2:=NB791_793.out
  have hs16:w14.cell? ⟨gb791,1,none⟩=some (.string a0_1):=bc_ BK791 1
  have hfs16:=blk_frozen BK791.out 1
  have hns16_1:=NB792_791.out
  have hns16_2:=NB793_791.out
  have hms16_1:=NB791_792.out
  have hms16_2:=NB791_793.out
  have hs17:w14.cell? ⟨gb791,2,none⟩=some (.int .i64 a0_2):=bc_ BK791 2
  have hfs17:=blk_frozen BK791.out 2
  have hns17_1:=NB792_791.out
  have hns17_2:=NB793_791.out
  have hms17_1:=NB791_792.out
  have hms17_2:=NB791_793.out
  refine skip_ (w1:=?_) (by rfl) rfl ?_ ?_
  rotate_left
  ·go_simp
   rfl
  refine hK.out _ _ ?_
  clear hK K
  refine last_ (i:=5) (N:=none) #[true,true,true,true,true,true] rfl rfl (by kernel_rfl) (by decide) (fun K hK=>?_)
  have hs18:w14.cell? ⟨gb792,0,none⟩=some (.bool a1_0):=bc_ BK792 0
  have hfs18:=blk_frozen BK792.out 0
  have hns18_0:=NB791_792.out
  have hns18_2:=NB793_792.out
  have hms18_0:=NB792_791.out
  have hms18_2:=NB792_793.out
  have hs19:w14.cell? ⟨gb792,1,none⟩=some (.string a1_1):=bc_ BK792 1
  have hfs19:=blk_frozen BK792.out 1
  have hns19_0:=NB791_792.out
  have hns19_2:=NB793_792.out
  have hms19_0:=NB792_791.out
  have hms19_2:=NB792_793.out
  have hs20:w14.cell? ⟨gb792,2,none⟩=some (.int .i64 a1_2):=bc_ BK792 2
  have hfs20:=blk_frozen BK792.out 2
  have hns20_0:=NB791_792.out
  have hns20_2:=NB793_792.out
  have hms20_0:=NB792_791.out
  have hms20_2:=NB792_793.out
  refine skip_ (w1:=?_) (by rfl) rfl ?_ ?_
  rotate_left
  ·go_simp
   rfl
  refine hK.out _ _ ?_
  clear hK K
  refine done_ (by kernel_rfl) ?_
  have hnb21:=NB791_792.out
  have hnc21:=NB792_791.out
  have hnb22:=NB791_793.out
  have hnc22:=NB793_791.out
  obtain⟨hcz23_0,hcz23_1,hcz23_2,hfz23_0,hfz23_1,hfz23_2⟩:=bo3_ BK791
  have hnb24:=NB792_793.out
  have hnc24:=NB793_792.out
  obtain⟨hcz25_0,hcz25_1,hcz25_2,hfz25_0,hfz25_1,hfz25_2⟩:=bo3_ BK792
  try go_wp2_with (first|((with_reducible refine gate_callee (f:=89) rfl ?_);refine gl_ (some 19) Tryz.func89 #[.agg #[.bool t794,.string t795,.int .i64 t796],.agg #[.bool t797,.string t798,.int .i64 t799]] ?_;(with_reducible refine(dec_both.calls _ _ _ _ _ _ _ _ _ _ A5.out).mono ?_);rintro e w26 ⟨rfl,hb⟩;refine⟨_,rfl,?_⟩;have n0_:=am_ (blk_below (g:=gb791) (o:= .cells #[.bool t794,.string t795,.int .i64 t796] 97 (0,0)) ((bp_ BK791).out) hb);have n1_:=am_ (blk_below (g:=gb792) (o:= .cells #[.bool t797,.string t798,.int .i64 t799] 97 (0,0)) ((bp_ BK792).out) hb);have n2_:=bz_ BK793 hb;have n3_:=am_ (below_step (bl_ HB).out hb);clear BK791;clear BK792;clear BK793;clear HB;revert n0_ n1_ n2_ n3_;intro BK791 BK792 BK793 HB;(try clear hb);obtain⟨hcz27_0,hcz27_1,hcz27_2,hfz27_0,hfz27_1,hfz27_2⟩:=bo3_ BK791;obtain⟨hcz28_0,hcz28_1,hcz28_2,hfz28_0,hfz28_1,hfz28_2⟩:=bo3_ BK792))
  replace BK791:=am_ (blk_drew BK791.out)
  replace BK792:=am_ (blk_drew BK792.out)
  replace BK793:=am_ (blk_drew BK793.out)
  replace HB:=am_ (below_drew1 HB.out)
  refine start_ (n:=8) (S:=fun w'=>w'.cell? ⟨gb791,0,none⟩=some (.bool t794)∧w'.cell? ⟨gb791,1,none⟩=some (.string t795)∧w'.cell? ⟨gb791,2,none⟩=some (.int .i64 t796)) (ds:=[]) #[false,false,false,false,false,false,false,false] (by kernel_rfl) rfl rfl ⟨bc_ BK791 0,bc_ BK791 1,bc_ BK791 2⟩ (fun hHeld=>?_);refine with_tabW dec_Add.tab4 dec_Add.bits4 (fun HT_ HW_=>?_)
  generalize w26.drew=w29 at BK791 BK792 BK793 HB hHeld ⊢
  refine pu_ 0 28 #[true,false,false,false,false,false,false,false] HT_ ?_
  refine pu_ 2 30 #[true,false,true,false,false,false,false,false] HT_ ?_
  refine pu_ 3 31 #[true,false,true,true,false,false,false,false] HT_ ?_
  refine pu_ 5 33 #[true,false,true,true,false,true,false,false] HT_ ?_
  refine tk_ 1 29 #[true,true,true,true,false,true,false,false] HT_ HW_ hHeld rfl (by rintro w' ⟨s0,s1,s2⟩;go_simp;with_reducible rfl) ?_
  refine one_ (i:=4) (N:=some 32) #[true,true,true,true,true,true,false,false] rfl rfl (one_of HT_.out (by kernel_rfl)) (by decide) (fun K hK=>?_)
  refine gs_ Tryz.func17 #[.string t800,.string t801] ?_
  with_reducible refine(num_Add.calls _ _ _ _ _ A7.out).mono ?_
  rintro e w30 ⟨rfl,hb⟩
  refine⟨_,rfl,?_⟩
  replace BK791:=bb_ BK791 hb
  replace BK792:=bb_ BK792 hb
  replace BK793:=bb_ BK793 hb
  replace HB:=am_ (below_step (bl_ HB).out hb)
  (try clear hb)
  (try clear hb2)
  (try clear hk)
  (try clear hi)
  refine hK.out _ _ ⟨bc_ BK791 0,bc_ BK791 1,bc_ BK791 2⟩ (fun hHeld=>?_)
  clear hK K
  refine nm_ 32 ?_
  refine one_ (i:=6) (N:=some 34) #[true,true,true,true,true,true,true,false] rfl rfl (one_of HT_.out (by kernel_rfl)) (by decide) (fun K hK=>?_)
  refine gs_ Tryz.func44 #[.bool t794,.string t803,.int .i64 t802] ?_
  with_reducible refine(dec_Made.calls _ _ _ _ _ _ _ _ A8.out).mono ?_
  rintro e w31 ⟨rfl,hb⟩
  refine⟨_,rfl,?_⟩
  replace BK791:=bb_ BK791 hb
  replace BK792:=bb_ BK792 hb
  replace BK793:=bb_ BK793 hb
  replace HB:=am_ (below_step (bl_ HB).out hb)
  (try clear hb)
  (try clear hb2)
  (try clear hk)
  (try clear hi)
  refine hK.out _ _ ⟨bc_ BK791 0,bc_ BK791 1,bc_ BK791 2⟩ (fun hHeld=>?_)
  clear hK K
  refine nm_ 34 ?_
  refine one_ (i:=7) (N:=none) #[true,true,true,true,true,true,true,true] rfl rfl (one_of HT_.out (by kernel_rfl)) (by decide) (fun K hK=>?_)
  have hs32:w31.cell? ⟨gb793,0,none⟩=some (.bool false):=bc_ BK793 0
  have hfs32:=blk_frozen BK793.out 0
  have hns32_0:=NB791_793.out
  have hns32_1:=NB792_793.out
  have hms32_0:=NB793_791.out
  have hms32_1:=NB793_792.out
  have hs33:w31.cell? ⟨gb793,1,none⟩=some (.string (⟨#[]⟩:ByteArray)):=bc_ BK793 1
  have hfs33:=blk_frozen BK793.out 1
  have hns33_0:=NB791_793.out
  have hns33_1:=NB792_793.out
  have hms33_0:=NB793_791.out
  have hms33_1:=NB793_792.out
  have hs34:w31.cell? ⟨gb793,2,none⟩=some (.int .i64 0):=bc_ BK793 2
  have hfs34:=blk_frozen BK793.out 2
  have hns34_0:=NB791_793.out
  have hns34_1:=NB792_793.out
  have hms34_0:=NB793_791.out
  have hms34_1:=NB793_792.out
  refine skip_ (w1:=?_) (by rfl) rfl ?_ ?_
  rotate_left
  ·go_simp
   rfl
  refine hK.out _ _ ⟨((cell_far (p:=⟨gb793,_,none⟩) NB791_793.out _).trans (((cell_far (p:=⟨gb793,_,none⟩) NB791_793.out _).trans (((cell_far (p:=⟨gb793,_,none⟩) NB791_793.out _).trans (hHeld.1)))))),((cell_far (p:=⟨gb793,_,none⟩) NB791_793.out _).trans (((cell_far (p:=⟨gb793,_,none⟩) NB791_793.out _).trans (((cell_far (p:=⟨gb793,_,none⟩) NB791_793.out _).trans (hHeld.2.1)))))),((cell_far (p:=⟨gb793,_,none⟩) NB791_793.out _).trans (((cell_far (p:=⟨gb793,_,none⟩) NB791_793.out _).trans (((cell_far (p:=⟨gb793,_,none⟩) NB791_793.out _).trans (hHeld.2.2))))))⟩ (fun hHeld=>?_)
  clear hK K
  refine done_ (done_of HT_.out (by kernel_rfl)) ?_
  try go_wp2
  refine bodyPost_ret (results_cell_row rfl _ _ gb793 97 #[.bool t804,.string t805,.int .i64 t806] (0,0) _ rfl ((bp_ BK793).out) Tryz.underlying97 rfl (by kernel_rfl)) rfl ?_
  exact⟨ew_,(bl_ HB).out⟩
 rw[if_neg c6] at H
 have c6b0:(t794==t797)=false:=by simpa using c6
 (try (have c6b1:decide (t794=t797)=false:=by simpa using c6))
 (try (have c6b2:(t794==t797)=false:=by simpa using c6))
 (try (have c6b3:¬(t794=t797):=by simpa using c6))
 clear c6
 replace H:=Option.bind_eq_some_iff.mp H
 obtain⟨⟨t807,t808⟩,A350,H⟩:=H
 dsimp only at H
 have A35:=am_ A350
 clear A350
 by_cases c36:t808=true
 ·subst c36
  rw[if_pos rfl] at H
  replace H:=Option.bind_eq_some_iff.mp H
  obtain⟨⟨t809,t810,t811⟩,A370,H⟩:=H
  dsimp only at H
  have A37:=am_ A370
  clear A370
  simp only[Option.some.injEq,Prod.mk.injEq] at H
  obtain⟨rfl,rfl,rfl⟩:=H
  go_enter Tryz.func63,Tryz.ntmps63
  try go_wp2_with (first|((with_reducible refine gate_dst (N:=2) rfl ?_);refine be_ 2 #[.bool a0_0,.string a0_1,.int .i64 a0_2] 97 ?_;intro gb791 hg w38 hbox hb;have BK791:=am_ (hbox);have GW791:=sz_ HB hg;have GE791:=sz_ HB hg;replace HB:=am_ (below_step (bl_ HB).out hb);clear hb hbox hg)|((with_reducible refine gate_dst (N:=3) rfl ?_);refine be_ 3 #[.bool a1_0,.string a1_1,.int .i64 a1_2] 97 ?_;intro gb792 hg w39 hbox hb;have BK792:=am_ (hbox);have GW792:=sz_ HB hg;have GE792:=sz_ HB hg;have NB791_792:=na_ BK791 hg;have NB792_791:=nb_ BK791 hg;replace BK791:=bb_ BK791 hb;replace HB:=am_ (below_step (bl_ HB).out hb);clear hb hbox hg)|((with_reducible refine gate_dst (N:=4) rfl ?_);refine be_ 4 #[.bool false,.string (⟨#[]⟩:ByteArray),.int .i64 0] 97 ?_;intro gb793 hg w40 hbox hb;have BK793:=am_ (hbox);have GW793:=sz_ HB hg;have GE793:=sz_ HB hg;have NB791_793:=na_ BK791 hg;have NB793_791:=nb_ BK791 hg;have NB792_793:=na_ BK792 hg;have NB793_792:=nb_ BK792 hg;replace BK791:=bb_ BK791 hb;replace BK792:=bb_ BK792 hb;replace HB:=am_ (below_step (bl_ HB).out hb);clear hb hbox hg))
  replace BK791:=am_ (blk_drew BK791.out)
  replace BK792:=am_ (blk_drew BK792.out)
  replace BK793:=am_ (blk_drew BK793.out)
  replace HB:=am_ (below_drew1 HB.out)
  refine start_ (n:=6) (S:=fun w'=>w'.cell? ⟨gb791,0,none⟩=some (.bool a0_0)∧w'.cell? ⟨gb791,1,none⟩=some (.string a0_1)∧w'.cell? ⟨gb791,2,none⟩=some (.int .i64 a0_2)∧w'.cell? ⟨gb792,0,none⟩=some (.bool a1_0)∧w'.cell? ⟨gb792,1,none⟩=some (.string a1_1)∧w'.cell? ⟨gb792,2,none⟩=some (.int .i64 a1_2)) (ds:=[4,5]) #[false,false,false,false,false,false] (by kernel_rfl) rfl rfl ⟨bc_ BK791 0,bc_ BK791 1,bc_ BK791 2,bc_ BK792 0,bc_ BK792 1,bc_ BK792 2⟩ (fun hHeld=>?_)
  generalize w40.drew=w41 at BK791 BK792 BK793 HB hHeld ⊢
  refine tk0_ 0 12 #[true,false,false,false,false,false] hHeld rfl (by rintro w' ⟨s0,s1,s2,s3,s4,s5⟩;go_simp;with_reducible rfl) ?_
  refine tk0_ 2 14 #[true,false,true,false,false,false] hHeld rfl (by rintro w' ⟨s0,s1,s2,s3,s4,s5⟩;go_simp;with_reducible rfl) ?_
  refine one_ (i:=1) (N:=some 13) #[true,true,true,false,false,false] rfl rfl (by kernel_rfl) (by decide) (fun K hK=>?_)
  refine gs_ Tryz.func64 #[.agg #[.bool a0_0,.string a0_1,.int .i64 a0_2]] ?_
  with_reducible refine(dec_Dec_Norm.calls _ _ _ _ _ _ _ _ A3.out).mono ?_
  rintro e w42 ⟨rfl,hb⟩
  refine⟨_,rfl,?_⟩
  replace BK791:=bb_ BK791 hb
  replace BK792:=bb_ BK792 hb
  replace BK793:=bb_ BK793 hb
  replace HB:=am_ (below_step (bl_ HB).out hb)
  (try clear hb)
  (try clear hb2)
  (try clear hk)
  (try clear hi)
  refine hK.out _ _ ⟨bc_ BK791 0,bc_ BK791 1,bc_ BK791 2,bc_ BK792 0,bc_ BK792 1,bc_ BK792 2⟩ (fun hHeld=>?_)
  clear hK K
  refine nm_ 13 ?_
  refine one_ (i:=3) (N:=some 15) #[true,true,true,true,false,false] rfl rfl (by kernel_rfl) (by decide) (fun K hK=>?_)
  refine gs_ Tryz.func64 #[.agg #[.bool a1_0,.string a1_1,.int .i64 a1_2]] ?_
  with_reducible refine(dec_Dec_Norm.calls _ _ _ _ _ _ _ _ A4.out).mono ?_
  rintro e w43 ⟨rfl,hb⟩
  refine⟨_,rfl,?_⟩
  replace BK791:=bb_ BK791 hb
  replace BK792:=bb_ BK792 hb
  replace BK793:=bb_ BK793 hb
  replace HB:=am_ (below_step (bl_ HB).out hb)
  (try clear hb)
  (try clear hb2)
  (try clear hk)
  (try clear hi)
  refine hK.out _ _ ⟨bc_ BK791 0,bc_ BK791 1,bc_ BK791 2,bc_ BK792 0,bc_ BK792 1,bc_ BK792 2⟩ (fun hHeld=>?_)
  clear hK K
  refine nm_ 15 ?_
  refine last_ (i:=4) (N:=none) #[true,true,true,true,true,false] rfl rfl (by kernel_rfl) (by decide) (fun K hK=>?_)
  have hs44:w43.cell? ⟨gb791,0,none⟩=some (.bool a0_0):=bc_ BK791 0
  have hfs44:=blk_frozen BK791.out 0
  have hns44_1:=NB792_791.out
  have hns44_2:=NB793_791.out
  have hms44_1:=NB791_792.out
  have hms44_2:=NB791_793.out
  have hs45:w43.cell? ⟨gb791,1,none⟩=some (.string a0_1):=bc_ BK791 1
  have hfs45:=blk_frozen BK791.out 1
  have hns45_1:=NB792_791.out
  have hns45_2:=NB793_791.out
  have hms45_1:=NB791_792.out
  have hms45_2:=NB791_793.out
  have hs46:w43.cell? ⟨gb791,2,none⟩=some (.int .i64 a0_2):=bc_ BK791 2
  have hfs46:=blk_frozen BK791.out 2
  have hns46_1:=NB792_791.out
  have hns46_2:=NB793_791.out
  have hms46_1:=NB791_792.out
  have hms46_2:=NB791_793.out
  refine skip_ (w1:=?_) (by rfl) rfl ?_ ?_
  rotate_left
  ·go_simp
   rfl
  refine hK.out _ _ ?_
  clear hK K
  refine last_ (i:=5) (N:=none) #[true,true,true,true,true,true] rfl rfl (by kernel_rfl) (by decide) (fun K hK=>?_)
  have hs47:w43.cell? ⟨gb792,0,none⟩=some (.bool a1_0):=bc_ BK792 0
  have hfs47:=blk_frozen BK792.out 0
  have hns47_0:=NB791_792.out
  have hns47_2:=NB793_792.out
  have hms47_0:=NB792_791.out
  have hms47_2:=NB792_793.out
  have hs48:w43.cell? ⟨gb792,1,none⟩=some (.string a1_1):=bc_ BK792 1
  have hfs48:=blk_frozen BK792.out 1
  have hns48_0:=NB791_792.out
  have hns48_2:=NB793_792.out
  have hms48_0:=NB792_791.out
  have hms48_2:=NB792_793.out
  have hs49:w43.cell? ⟨gb792,2,none⟩=some (.int .i64 a1_2):=bc_ BK792 2
  have hfs49:=blk_frozen BK792.out 2
  have hns49_0:=NB791_792.out
  have hns49_2:=NB793_792.out
  have hms49_0:=NB792_791.out
  have hms49_2:=NB792_793.out
  refine skip_ (w1:=?_) (by rfl) rfl ?_ ?_
  rotate_left
  ·go_simp
   rfl
  refine hK.out _ _ ?_
  clear hK K
  refine done_ (by kernel_rfl) ?_
  have hnb50:=NB791_792.out
  have hnc50:=NB792_791.out
  have hnb51:=NB791_793.out
  have hnc51:=NB793_791.out
  obtain⟨hcz52_0,hcz52_1,hcz52_2,hfz52_0,hfz52_1,hfz52_2⟩:=bo3_ BK791
  have hnb53:=NB792_793.out
  have hnc53:=NB793_792.out
  obtain⟨hcz54_0,hcz54_1,hcz54_2,hfz54_0,hfz54_1,hfz54_2⟩:=bo3_ BK792
  try go_wp2_with (first|((with_reducible refine gate_callee (f:=89) rfl ?_);refine gl_ (some 19) Tryz.func89 #[.agg #[.bool t794,.string t795,.int .i64 t796],.agg #[.bool t797,.string t798,.int .i64 t799]] ?_;(with_reducible refine(dec_both.calls _ _ _ _ _ _ _ _ _ _ A5.out).mono ?_);rintro e w55 ⟨rfl,hb⟩;refine⟨_,rfl,?_⟩;have n0_:=am_ (blk_below (g:=gb791) (o:= .cells #[.bool t794,.string t795,.int .i64 t796] 97 (0,0)) ((bp_ BK791).out) hb);have n1_:=am_ (blk_below (g:=gb792) (o:= .cells #[.bool t797,.string t798,.int .i64 t799] 97 (0,0)) ((bp_ BK792).out) hb);have n2_:=bz_ BK793 hb;have n3_:=am_ (below_step (bl_ HB).out hb);clear BK791;clear BK792;clear BK793;clear HB;revert n0_ n1_ n2_ n3_;intro BK791 BK792 BK793 HB;(try clear hb);obtain⟨hcz56_0,hcz56_1,hcz56_2,hfz56_0,hfz56_1,hfz56_2⟩:=bo3_ BK791;obtain⟨hcz57_0,hcz57_1,hcz57_2,hfz57_0,hfz57_1,hfz57_2⟩:=bo3_ BK792)|((with_reducible refine gate_callee (f:=90) rfl ?_);refine gl_ (some 38) Tryz.func90 #[.string t800,.string t801] ?_;(with_reducible refine(num_Sub.calls _ _ _ _ _ _ A35.out).mono ?_);rintro e w58 ⟨rfl,hb⟩;refine⟨_,rfl,?_⟩;replace BK791:=bb_ BK791 hb;replace BK792:=bb_ BK792 hb;replace BK793:=bb_ BK793 hb;replace HB:=am_ (below_step (bl_ HB).out hb);(try clear hb);obtain⟨hcz59_0,hcz59_1,hcz59_2,hfz59_0,hfz59_1,hfz59_2⟩:=bo3_ BK791)|((with_reducible refine gate_callee (f:=44) rfl ?_);refine gl_ (some 46) Tryz.func44 #[.bool t794,.string t807,.int .i64 t802] ?_;(with_reducible refine(dec_Made.calls _ _ _ _ _ _ _ _ A37.out).mono ?_);rintro e w60 ⟨rfl,hb⟩;refine⟨_,rfl,?_⟩;replace BK791:=bb_ BK791 hb;replace BK792:=bb_ BK792 hb;replace BK793:=bb_ BK793 hb;replace HB:=am_ (below_step (bl_ HB).out hb);(try clear hb);obtain⟨hcz61_0,hcz61_1,hcz61_2,hfz61_0,hfz61_1,hfz61_2⟩:=bo3_ BK793))
  refine bodyPost_ret (results_cell_row rfl _ _ gb793 97 #[.bool t809,.string t810,.int .i64 t811] (0,0) _ rfl ((bp_ BK793).out) Tryz.underlying97 rfl (by kernel_rfl)) rfl ?_
  exact⟨ew_,(bl_ HB).out⟩
 replace c36:=Bool.eq_false_iff.mpr c36
 subst c36
 rw[if_neg (show ¬(false=true) by decide)] at H
 replace H:=Option.bind_eq_some_iff.mp H
 obtain⟨⟨t812,t813⟩,A620,H⟩:=H
 dsimp only at H
 have A62:=am_ A620
 clear A620
 replace H:=Option.bind_eq_some_iff.mp H
 obtain⟨⟨t814,t815,t816⟩,A630,H⟩:=H
 dsimp only at H
 have A63:=am_ A630
 clear A630
 simp only[Option.some.injEq,Prod.mk.injEq] at H
 obtain⟨rfl,rfl,rfl⟩:=H
 go_enter Tryz.func63,Tryz.ntmps63
 try go_wp2_with (first|((with_reducible refine gate_dst (N:=2) rfl ?_);refine be_ 2 #[.bool a0_0,.string a0_1,.int .i64 a0_2] 97 ?_;intro gb791 hg w64 hbox hb;have BK791:=am_ (hbox);have GW791:=sz_ HB hg;have GE791:=sz_ HB hg;replace HB:=am_ (below_step (bl_ HB).out hb);clear hb hbox hg)|((with_reducible refine gate_dst (N:=3) rfl ?_);refine be_ 3 #[.bool a1_0,.string a1_1,.int .i64 a1_2] 97 ?_;intro gb792 hg w65 hbox hb;have BK792:=am_ (hbox);have GW792:=sz_ HB hg;have GE792:=sz_ HB hg;have NB791_792:=na_ BK791 hg;have NB792_791:=nb_ BK791 hg;replace BK791:=bb_ BK791 hb;replace HB:=am_ (below_step (bl_ HB).out hb);clear hb hbox hg)|((with_reducible refine gate_dst (N:=4) rfl ?_);refine be_ 4 #[.bool false,.string (⟨#[]⟩:ByteArray),.int .i64 0] 97 ?_;intro gb793 hg w66 hbox hb;have BK793:=am_ (hbox);have GW793:=sz_ HB hg;have GE793:=sz_ HB hg;have NB791_793:=na_ BK791 hg;have NB793_791:=nb_ BK791 hg;have NB792_793:=na_ BK792 hg;have NB793_792:=nb_ BK792 hg;replace BK791:=bb_ BK791 hb;replace BK792:=bb_ BK792 hb;replace HB:=am_ (below_step (bl_ HB).out hb);clear hb hbox hg))
 replace BK791:=am_ (blk_drew BK791.out)
 replace BK792:=am_ (blk_drew BK792.out)
 replace BK793:=am_ (blk_drew BK793.out)
 replace HB:=am_ (below_drew1 HB.out)
 refine start_ (n:=6) (S:=fun w'=>w'.cell? ⟨gb791,0,none⟩=some (.bool a0_0)∧w'.cell? ⟨gb791,1,none⟩=some (.string a0_1)∧w'.cell? ⟨gb791,2,none⟩=some (.int .i64 a0_2)∧w'.cell? ⟨gb792,0,none⟩=some (.bool a1_0)∧w'.cell? ⟨gb792,1,none⟩=some (.string a1_1)∧w'.cell? ⟨gb792,2,none⟩=some (.int .i64 a1_2)) (ds:=[4,5]) #[false,false,false,false,false,false] (by kernel_rfl) rfl rfl ⟨bc_ BK791 0,bc_ BK791 1,bc_ BK791 2,bc_ BK792 0,bc_ BK792 1,bc_ BK792 2⟩ (fun hHeld=>?_)
 generalize w66.drew=w67 at BK791 BK792 BK793 HB hHeld ⊢
 refine tk0_ 0 12 #[true,false,false,false,false,false] hHeld rfl (by rintro w' ⟨s0,s1,s2,s3,s4,s5⟩;go_simp;with_reducible rfl) ?_
 refine tk0_ 2 14 #[true,false,true,false,false,false] hHeld rfl (by rintro w' ⟨s0,s1,s2,s3,s4,s5⟩;go_simp;with_reducible rfl) ?_
 refine one_ (i:=1) (N:=some 13) #[true,true,true,false,false,false] rfl rfl (by kernel_rfl) (by decide) (fun K hK=>?_)
 refine gs_ Tryz.func64 #[.agg #[.bool a0_0,.string a0_1,.int .i64 a0_2]] ?_
 with_reducible refine(dec_Dec_Norm.calls _ _ _ _ _ _ _ _ A3.out).mono ?_
 rintro e w68 ⟨rfl,hb⟩
 refine⟨_,rfl,?_⟩
 replace BK791:=bb_ BK791 hb
 replace BK792:=bb_ BK792 hb
 replace BK793:=bb_ BK793 hb
 replace HB:=am_ (below_step (bl_ HB).out hb)
 (try clear hb)
 (try clear hb2)
 (try clear hk)
 (try clear hi)
 refine hK.out _ _ ⟨bc_ BK791 0,bc_ BK791 1,bc_ BK791 2,bc_ BK792 0,bc_ BK792 1,bc_ BK792 2⟩ (fun hHeld=>?_)
 clear hK K
 refine nm_ 13 ?_
 refine one_ (i:=3) (N:=some 15) #[true,true,true,true,false,false] rfl rfl (by kernel_rfl) (by decide) (fun K hK=>?_)
 refine gs_ Tryz.func64 #[.agg #[.bool a1_0,.string a1_1,.int .i64 a1_2]] ?_
 with_reducible refine(dec_Dec_Norm.calls _ _ _ _ _ _ _ _ A4.out).mono ?_
 rintro e w69 ⟨rfl,hb⟩
 refine⟨_,rfl,?_⟩
 replace BK791:=bb_ BK791 hb
 replace BK792:=bb_ BK792 hb
 replace BK793:=bb_ BK793 hb
 replace HB:=am_ (below_step (bl_ HB).out hb)
 (try clear hb)
 (try clear hb2)
 (try clear hk)
 (try clear hi)
 refine hK.out _ _ ⟨bc_ BK791 0,bc_ BK791 1,bc_ BK791 2,bc_ BK792 0,bc_ BK792 1,bc_ BK792 2⟩ (fun hHeld=>?_)
 clear hK K
 refine nm_ 15 ?_
 refine last_ (i:=4) (N:=none) #[true,true,true,true,true,false] rfl rfl (by kernel_rfl) (by decide) (fun K hK=>?_)
 have hs70:w69.cell? ⟨gb791,0,none⟩=some (.bool a0_0):=bc_ BK791 0
 have hfs70:=blk_frozen BK791.out 0
 have hns70_1:=NB792_791.out
 have hns70_2:=NB793_791.out
 have hms70_1:=NB791_792.out
 have hms70_2:=NB791_793.out
 have hs71:w69.cell? ⟨gb791,1,none⟩=some (.string a0_1):=bc_ BK791 1
 have hfs71:=blk_frozen BK791.out 1
 have hns71_1:=NB792_791.out
 have hns71_2:=NB793_791.out
 have hms71_1:=NB791_792.out
 have hms71_2:=NB791_793.out
 have hs72:w69.cell? ⟨gb791,2,none⟩=some (.int .i64 a0_2):=bc_ BK791 2
 have hfs72:=blk_frozen BK791.out 2
 have hns72_1:=NB792_791.out
 have hns72_2:=NB793_791.out
 have hms72_1:=NB791_792.out
 have hms72_2:=NB791_793.out
 refine skip_ (w1:=?_) (by rfl) rfl ?_ ?_
 rotate_left
 ·go_simp
  rfl
 refine hK.out _ _ ?_
 clear hK K
 refine last_ (i:=5) (N:=none) #[true,true,true,true,true,true] rfl rfl (by kernel_rfl) (by decide) (fun K hK=>?_)
 have hs73:w69.cell? ⟨gb792,0,none⟩=some (.bool a1_0):=bc_ BK792 0
 have hfs73:=blk_frozen BK792.out 0
 have hns73_0:=NB791_792.out
 have hns73_2:=NB793_792.out
 have hms73_0:=NB792_791.out
 have hms73_2:=NB792_793.out
 have hs74:w69.cell? ⟨gb792,1,none⟩=some (.string a1_1):=bc_ BK792 1
 have hfs74:=blk_frozen BK792.out 1
 have hns74_0:=NB791_792.out
 have hns74_2:=NB793_792.out
 have hms74_0:=NB792_791.out
 have hms74_2:=NB792_793.out
 have hs75:w69.cell? ⟨gb792,2,none⟩=some (.int .i64 a1_2):=bc_ BK792 2
 have hfs75:=blk_frozen BK792.out 2
 have hns75_0:=NB791_792.out
 have hns75_2:=NB793_792.out
 have hms75_0:=NB792_791.out
 have hms75_2:=NB792_793.out
 refine skip_ (w1:=?_) (by rfl) rfl ?_ ?_
 rotate_left
 ·go_simp
  rfl
 refine hK.out _ _ ?_
 clear hK K
 refine done_ (by kernel_rfl) ?_
 have hnb76:=NB791_792.out
 have hnc76:=NB792_791.out
 have hnb77:=NB791_793.out
 have hnc77:=NB793_791.out
 obtain⟨hcz78_0,hcz78_1,hcz78_2,hfz78_0,hfz78_1,hfz78_2⟩:=bo3_ BK791
 have hnb79:=NB792_793.out
 have hnc79:=NB793_792.out
 obtain⟨hcz80_0,hcz80_1,hcz80_2,hfz80_0,hfz80_1,hfz80_2⟩:=bo3_ BK792
 try go_wp2_with (first|((with_reducible refine gate_callee (f:=89) rfl ?_);refine gl_ (some 19) Tryz.func89 #[.agg #[.bool t794,.string t795,.int .i64 t796],.agg #[.bool t797,.string t798,.int .i64 t799]] ?_;(with_reducible refine(dec_both.calls _ _ _ _ _ _ _ _ _ _ A5.out).mono ?_);rintro e w81 ⟨rfl,hb⟩;refine⟨_,rfl,?_⟩;have n0_:=am_ (blk_below (g:=gb791) (o:= .cells #[.bool t794,.string t795,.int .i64 t796] 97 (0,0)) ((bp_ BK791).out) hb);have n1_:=am_ (blk_below (g:=gb792) (o:= .cells #[.bool t797,.string t798,.int .i64 t799] 97 (0,0)) ((bp_ BK792).out) hb);have n2_:=bz_ BK793 hb;have n3_:=am_ (below_step (bl_ HB).out hb);clear BK791;clear BK792;clear BK793;clear HB;revert n0_ n1_ n2_ n3_;intro BK791 BK792 BK793 HB;(try clear hb);obtain⟨hcz82_0,hcz82_1,hcz82_2,hfz82_0,hfz82_1,hfz82_2⟩:=bo3_ BK791;obtain⟨hcz83_0,hcz83_1,hcz83_2,hfz83_0,hfz83_1,hfz83_2⟩:=bo3_ BK792)|((with_reducible refine gate_callee (f:=90) rfl ?_);refine gl_ (some 38) Tryz.func90 #[.string t800,.string t801] ?_;(with_reducible refine(num_Sub.calls _ _ _ _ _ _ A35.out).mono ?_);rintro e w84 ⟨rfl,hb⟩;refine⟨_,rfl,?_⟩;replace BK791:=bb_ BK791 hb;replace BK792:=bb_ BK792 hb;replace BK793:=bb_ BK793 hb;replace HB:=am_ (below_step (bl_ HB).out hb);(try clear hb);(try clear hi))|((with_reducible refine gate_callee (f:=90) rfl ?_);refine gl_ (some 50) Tryz.func90 #[.string t801,.string t800] ?_;(with_reducible refine(num_Sub.calls _ _ _ _ _ _ A62.out).mono ?_);rintro e w85 ⟨rfl,hb⟩;refine⟨_,rfl,?_⟩;replace BK791:=bb_ BK791 hb;replace BK792:=bb_ BK792 hb;replace BK793:=bb_ BK793 hb;replace HB:=am_ (below_step (bl_ HB).out hb);(try clear hb);obtain⟨hcz86_0,hcz86_1,hcz86_2,hfz86_0,hfz86_1,hfz86_2⟩:=bo3_ BK792)|((with_reducible refine gate_callee (f:=44) rfl ?_);refine gl_ (some 57) Tryz.func44 #[.bool t797,.string t812,.int .i64 t802] ?_;(with_reducible refine(dec_Made.calls _ _ _ _ _ _ _ _ A63.out).mono ?_);rintro e w87 ⟨rfl,hb⟩;refine⟨_,rfl,?_⟩;replace BK791:=bb_ BK791 hb;replace BK792:=bb_ BK792 hb;replace BK793:=bb_ BK793 hb;replace HB:=am_ (below_step (bl_ HB).out hb);(try clear hb);obtain⟨hcz88_0,hcz88_1,hcz88_2,hfz88_0,hfz88_1,hfz88_2⟩:=bo3_ BK793))
 refine bodyPost_ret (results_cell_row rfl _ _ gb793 97 #[.bool t814,.string t815,.int .i64 t816] (0,0) _ rfl ((bp_ BK793).out) Tryz.underlying97 rfl (by kernel_rfl)) rfl ?_
 exact⟨ew_,(bl_ HB).out⟩

def florinlaw07_left.f (k:Nat) (a0_0:Bool) (a0_1:ByteArray) (a0_2:Int) (a1:Int):Option (Bool × ByteArray × Int):=if a1=0 then (some (a0_0,a0_1,a0_2)) else ((dec_Dec_Parts.f k a0_0 a0_1 a0_2).bind fun bt819=>((num_Div.f k bt819.1 a1).bind fun bt821=>((num_Of.f k bt821.2).bind fun t823=>((dec_Made.f k false t823 0).bind fun bt824=>((dec_Made.f k false bt819.2 (wrap64 (-(bt819.2.size:Int)))).bind fun bt827=>((dec_Add.f k bt824.1 bt824.2.1 bt824.2.2 bt827.1 bt827.2.1 bt827.2.2).bind fun bt830=>(some (bt830.1,bt830.2.1,bt830.2.2))))))))
theorem florinlaw07_left.calls (k:Nat) (a0_0:Bool) (a0_1:ByteArray) (a0_2:Int) (a1:Int) (r1:Bool) (r2:ByteArray) (r3:Int) (w:World) (h:florinlaw07_left.f k a0_0 a0_1 a0_2 a1=some (r1,r2,r3)) :
  Calls Tryz.prog 41 #[.agg #[.bool a0_0,.string a0_1,.int .i64 a0_2],.int .i64 a1] w fun e w'=>e= .returned (.agg #[.bool r1,.string r2,.int .i64 r3])∧Below w.heap.size w w':=by
 have hu97:=Tryz.underlying97
 have HB:=am_ (Below.refl w.heap.size w)
 have H:=h
 clear h
 unfold florinlaw07_left.f at H
 by_cases c3:a1=0
 ·rw[if_pos c3] at H
  have c3b0:(a1==0)=true:=beq_iff_eq.mpr c3
  have c3b1:(a1 !=0)=false:=bne_eq_false_iff_eq.mpr c3
  clear c3
  simp only[Option.some.injEq,Prod.mk.injEq] at H
  obtain⟨rfl,rfl,rfl⟩:=H
  go_enter Tryz.func41,Tryz.ntmps41
  go_wp2_with (first|((with_reducible refine gate_dst (N:=2) rfl ?_);refine be_ 2 #[.bool a0_0,.string a0_1,.int .i64 a0_2] 97 ?_;intro gb817 hg w4 hbox hb;have BK817:=am_ (hbox);have GW817:=sz_ HB hg;have GE817:=sz_ HB hg;replace HB:=am_ (below_step (bl_ HB).out hb);clear hb hbox hg)|((with_reducible refine gate_dst (N:=4) rfl ?_);refine be_ 4 #[.bool false,.string (⟨#[]⟩:ByteArray),.int .i64 0] 97 ?_;intro gb818 hg w5 hbox hb;have BK818:=am_ (hbox);have GW818:=sz_ HB hg;have GE818:=sz_ HB hg;have NB817_818:=na_ BK817 hg;have NB818_817:=nb_ BK817 hg;replace BK817:=bb_ BK817 hb;replace HB:=am_ (below_step (bl_ HB).out hb);clear hb hbox hg;have hnb6:=NB817_818.out;have hnc6:=NB818_817.out;obtain⟨hcz7_0,hcz7_1,hcz7_2,hfz7_0,hfz7_1,hfz7_2⟩:=bo3_ BK817;obtain⟨hcz8_0,hcz8_1,hcz8_2,hfz8_0,hfz8_1,hfz8_2⟩:=bo3_ BK818))
  refine bodyPost_ret (results_cell_row rfl _ _ gb818 97 #[.bool a0_0,.string a0_1,.int .i64 a0_2] (0,0) _ rfl ((bp_ BK818).out) Tryz.underlying97 rfl (by kernel_rfl)) rfl ?_
  exact⟨ew_,(bl_ HB).out⟩
 rw[if_neg c3] at H
 have c3b0:(a1==0)=false:=beq_eq_false_iff_ne.mpr c3
 have c3b1:(a1 !=0)=true:=bne_iff_ne.mpr c3
 replace H:=Option.bind_eq_some_iff.mp H
 obtain⟨⟨t819,t820⟩,A90,H⟩:=H
 dsimp only at H
 have A9:=am_ A90
 clear A90
 replace H:=Option.bind_eq_some_iff.mp H
 obtain⟨⟨t821,t822⟩,A100,H⟩:=H
 dsimp only at H
 have A10:=am_ A100
 clear A100
 replace H:=Option.bind_eq_some_iff.mp H
 obtain⟨t823,A110,H⟩:=H
 have A11:=am_ A110
 clear A110
 replace H:=Option.bind_eq_some_iff.mp H
 obtain⟨⟨t824,t825,t826⟩,A120,H⟩:=H
 dsimp only at H
 have A12:=am_ A120
 clear A120
 replace H:=Option.bind_eq_some_iff.mp H
 obtain⟨⟨t827,t828,t829⟩,A130,H⟩:=H
 dsimp only at H
 have A13:=am_ A130
 clear A130
 replace H:=Option.bind_eq_some_iff.mp H
 obtain⟨⟨t830,t831,t832⟩,A140,H⟩:=H
 dsimp only at H
 have A14:=am_ A140
 clear A140
 simp only[Option.some.injEq,Prod.mk.injEq] at H
 obtain⟨rfl,rfl,rfl⟩:=H
 go_enter Tryz.func41,Tryz.ntmps41
 go_wp2_with (first|((with_reducible refine gate_dst (N:=2) rfl ?_);refine be_ 2 #[.bool a0_0,.string a0_1,.int .i64 a0_2] 97 ?_;intro gb817 hg w15 hbox hb;have BK817:=am_ (hbox);have GW817:=sz_ HB hg;have GE817:=sz_ HB hg;replace HB:=am_ (below_step (bl_ HB).out hb);clear hb hbox hg)|((with_reducible refine gate_dst (N:=4) rfl ?_);refine be_ 4 #[.bool false,.string (⟨#[]⟩:ByteArray),.int .i64 0] 97 ?_;intro gb818 hg w16 hbox hb;have BK818:=am_ (hbox);have GW818:=sz_ HB hg;have GE818:=sz_ HB hg;have NB817_818:=na_ BK817 hg;have NB818_817:=nb_ BK817 hg;replace BK817:=bb_ BK817 hb;replace HB:=am_ (below_step (bl_ HB).out hb);clear hb hbox hg;have hnb17:=NB817_818.out;have hnc17:=NB818_817.out;obtain⟨hcz18_0,hcz18_1,hcz18_2,hfz18_0,hfz18_1,hfz18_2⟩:=bo3_ BK817)|((with_reducible refine gate_callee (f:=43) rfl ?_);refine gl_ (some 14) Tryz.func43 #[.agg #[.bool a0_0,.string a0_1,.int .i64 a0_2]] ?_;(with_reducible refine(dec_Dec_Parts.calls _ _ _ _ _ _ _ A9.out).mono ?_);rintro e w19 ⟨rfl,hb⟩;refine⟨_,rfl,?_⟩;replace BK817:=bb_ BK817 hb;replace BK818:=bb_ BK818 hb;replace HB:=am_ (below_step (bl_ HB).out hb);(try clear hb);(try clear hi))|((with_reducible refine gate_callee (f:=32) rfl ?_);refine gl_ (some 20) Tryz.func32 #[.string t819,.int .i64 a1] ?_;(with_reducible refine(num_Div.calls _ _ _ _ _ _ A10.out).mono ?_);rintro e w20 ⟨rfl,hb⟩;refine⟨_,rfl,?_⟩;replace BK817:=bb_ BK817 hb;replace BK818:=bb_ BK818 hb;replace HB:=am_ (below_step (bl_ HB).out hb);(try clear hb);(try clear hi))|((with_reducible refine gate_callee (f:=19) rfl ?_);refine gl_ (some 24) Tryz.func19 #[.int .i64 t822] ?_;(with_reducible refine(num_Of.calls _ _ _ _ A11.out).mono ?_);rintro e w21 ⟨rfl,hb⟩;refine⟨_,rfl,?_⟩;replace BK817:=bb_ BK817 hb;replace BK818:=bb_ BK818 hb;replace HB:=am_ (below_step (bl_ HB).out hb);(try clear hb);(try clear hi))|((with_reducible refine gate_callee (f:=44) rfl ?_);refine gl_ (some 25) Tryz.func44 #[.bool false,.string t823,.int .i64 0] ?_;(with_reducible refine(dec_Made.calls _ _ _ _ _ _ _ _ A12.out).mono ?_);rintro e w22 ⟨rfl,hb⟩;refine⟨_,rfl,?_⟩;replace BK817:=bb_ BK817 hb;replace BK818:=bb_ BK818 hb;replace HB:=am_ (below_step (bl_ HB).out hb);(try clear hb);(try clear hi))|((with_reducible refine gate_callee (f:=44) rfl ?_);refine gl_ (some 30) Tryz.func44 #[.bool false,.string t820,.int .i64 (wrap64 (-(t820.size:Int)))] ?_;(with_reducible refine(dec_Made.calls _ _ _ _ _ _ _ _ A13.out).mono ?_);rintro e w23 ⟨rfl,hb⟩;refine⟨_,rfl,?_⟩;replace BK817:=bb_ BK817 hb;replace BK818:=bb_ BK818 hb;replace HB:=am_ (below_step (bl_ HB).out hb);(try clear hb);(try clear hi))|((with_reducible refine gate_callee (f:=63) rfl ?_);refine gl_ (some 31) Tryz.func63 #[.agg #[.bool t824,.string t825,.int .i64 t826],.agg #[.bool t827,.string t828,.int .i64 t829]] ?_;(with_reducible refine(dec_Add.calls _ _ _ _ _ _ _ _ _ _ _ A14.out).mono ?_);rintro e w24 ⟨rfl,hb⟩;refine⟨_,rfl,?_⟩;replace BK817:=bb_ BK817 hb;replace BK818:=bb_ BK818 hb;replace HB:=am_ (below_step (bl_ HB).out hb);(try clear hb);obtain⟨hcz25_0,hcz25_1,hcz25_2,hfz25_0,hfz25_1,hfz25_2⟩:=bo3_ BK818))
 refine bodyPost_ret (results_cell_row rfl _ _ gb818 97 #[.bool t830,.string t831,.int .i64 t832] (0,0) _ rfl ((bp_ BK818).out) Tryz.underlying97 rfl (by kernel_rfl)) rfl ?_
 exact⟨ew_,(bl_ HB).out⟩

mutual
def florinlaw07_value.j1:Nat→Int→Int→ByteArray→ByteArray→Int→Option (Bool × ByteArray × Int)
 | 0,_,_,_,_,_=>none
 | k+1,x0,x5,x834000,x834001,x834002=>if x0=119 then ((num_Of.f k x5).bind fun t848=>((dec_Made.f k false t848 0).bind fun bt849=>(some (bt849.1,bt849.2.1,bt849.2.2)))) else (if x0=116 then (if 0≤x5 then (if x5≤(x834001.size:Int) then ((dec_Made.f k false (x834001.extract 0 (x5:Int).toNat) 0).bind fun bt852=>(some (bt852.1,bt852.2.1,bt852.2.2))) else (none)) else (none)) else ((num_Of.f k x834002).bind fun t855=>((dec_Made.f k false t855 0).bind fun bt856=>(some (bt856.1,bt856.2.1,bt856.2.2)))))
def florinlaw07_value.l0:Nat→Int→Int→ByteArray→ByteArray→Int→Option (Bool × ByteArray × Int)
 | 0,_,_,_,_,_=>none
 | k+1,x0,x5,x834000,x834001,x834002=>if x5>0 then (if 0≤(wrap64 (x5-1)) then (if (wrap64 (x5-1))<(x834001.size:Int) then (if (bt x834001 (wrap64 (x5-1)))=48 then (florinlaw07_value.l0 k x0 (wrap64 (x5-1)) x834000 x834001 x834002) else (florinlaw07_value.j1 k x0 x5 x834000 x834001 x834002)) else (none)) else (none)) else (florinlaw07_value.j1 k x0 x5 x834000 x834001 x834002)
end
def florinlaw07_value.f (k:Nat) (a0:Int) (a1_0:ByteArray) (a1_1:ByteArray) (a1_2:Int):Option (Bool × ByteArray × Int):=if a0=110 then (if a1_0.size+a1_1.size≤9223372036854775807 then ((dec_Made.f k false (a1_0++a1_1) (-(a1_1.size:Int))).bind fun bt835=>(some (bt835.1,bt835.2.1,bt835.2.2))) else (none)) else (if a0=105 then ((dec_Made.f k false a1_0 0).bind fun bt838=>(some (bt838.1,bt838.2.1,bt838.2.2))) else (if a0=118 then ((num_Of.f k (a1_1.size:Int)).bind fun t841=>((dec_Made.f k false t841 0).bind fun bt842=>(some (bt842.1,bt842.2.1,bt842.2.2)))) else (if a0=102 then ((dec_Made.f k false a1_1 0).bind fun bt845=>(some (bt845.1,bt845.2.1,bt845.2.2))) else (florinlaw07_value.l0 k a0 (a1_1.size:Int) a1_0 a1_1 a1_2))))
theorem florinlaw07_value.calls (k:Nat) (a0:Int) (a1_0:ByteArray) (a1_1:ByteArray) (a1_2:Int) (r1:Bool) (r2:ByteArray) (r3:Int) (w:World) (h:florinlaw07_value.f k a0 a1_0 a1_1 a1_2=some (r1,r2,r3)) :
  Calls Tryz.prog 42 #[.int .u8 a0,.agg #[.string a1_0,.string a1_1,.int .i64 a1_2]] w fun e w'=>e= .returned (.agg #[.bool r1,.string r2,.int .i64 r3])∧Below w.heap.size w w':=by
 have hu27:=Tryz.underlying27
 have hu97:=Tryz.underlying97
 have HB:=am_ (Below.refl w.heap.size w)
 have H:=h
 clear h
 unfold florinlaw07_value.f at H
 by_cases c3:a0=110
 ·rw[if_pos c3] at H
  have c3b0:(a0==110)=true:=beq_iff_eq.mpr c3
  have c3b1:(a0 !=110)=false:=bne_eq_false_iff_eq.mpr c3
  clear c3
  replace H:=ifn_ H
  obtain⟨c4,H⟩:=H
  have c4b0:=eq_true c4
  have c4b1:decide (a1_0.size+a1_1.size≤9223372036854775807)=true:=decide_eq_true c4
  try have c4b2:=eq_false (Nat.not_lt.2 c4)
  replace H:=Option.bind_eq_some_iff.mp H
  obtain⟨⟨t835,t836,t837⟩,A50,H⟩:=H
  dsimp only at H
  have A5:=am_ A50
  clear A50
  simp only[Option.some.injEq,Prod.mk.injEq] at H
  obtain⟨rfl,rfl,rfl⟩:=H
  go_enter Tryz.func42,Tryz.ntmps42
  go_wp2_with (first|((with_reducible refine gate_dst (N:=3) rfl ?_);refine be_ 3 #[.string a1_0,.string a1_1,.int .i64 a1_2] 27 ?_;intro gb833 hg w6 hbox hb;have BK833:=am_ (hbox);have GW833:=sz_ HB hg;have GE833:=sz_ HB hg;replace HB:=am_ (below_step (bl_ HB).out hb);clear hb hbox hg)|((with_reducible refine gate_dst (N:=4) rfl ?_);refine be_ 4 #[.bool false,.string (⟨#[]⟩:ByteArray),.int .i64 0] 97 ?_;intro gb834 hg w7 hbox hb;have BK834:=am_ (hbox);have GW834:=sz_ HB hg;have GE834:=sz_ HB hg;have NB833_834:=na_ BK833 hg;have NB834_833:=nb_ BK833 hg;replace BK833:=bb_ BK833 hb;replace HB:=am_ (below_step (bl_ HB).out hb);clear hb hbox hg;have hnb8:=NB833_834.out;have hnc8:=NB834_833.out;obtain⟨hcz9_0,hcz9_1,hcz9_2,hfz9_0,hfz9_1,hfz9_2⟩:=bo3_ BK833)|((with_reducible refine gate_callee (f:=44) rfl ?_);refine gl_ (some 18) Tryz.func44 #[.bool false,.string (a1_0++a1_1),.int .i64 (-(a1_1.size:Int))] ?_;(with_reducible refine(dec_Made.calls _ _ _ _ _ _ _ _ A5.out).mono ?_);rintro e w10 ⟨rfl,hb⟩;refine⟨_,rfl,?_⟩;replace BK833:=bb_ BK833 hb;replace BK834:=bb_ BK834 hb;replace HB:=am_ (below_step (bl_ HB).out hb);(try clear hb);obtain⟨hcz11_0,hcz11_1,hcz11_2,hfz11_0,hfz11_1,hfz11_2⟩:=bo3_ BK834))
  refine bodyPost_ret (results_cell_row rfl _ _ gb834 97 #[.bool t835,.string t836,.int .i64 t837] (0,0) _ rfl ((bp_ BK834).out) Tryz.underlying97 rfl (by kernel_rfl)) rfl ?_
  exact⟨ew_,(bl_ HB).out⟩
 rw[if_neg c3] at H
 have c3b0:(a0==110)=false:=beq_eq_false_iff_ne.mpr c3
 have c3b1:(a0 !=110)=true:=bne_iff_ne.mpr c3
 by_cases c12:a0=105
 ·rw[if_pos c12] at H
  have c12b0:(a0==105)=true:=beq_iff_eq.mpr c12
  have c12b1:(a0 !=105)=false:=bne_eq_false_iff_eq.mpr c12
  clear c12
  replace H:=Option.bind_eq_some_iff.mp H
  obtain⟨⟨t838,t839,t840⟩,A130,H⟩:=H
  dsimp only at H
  have A13:=am_ A130
  clear A130
  simp only[Option.some.injEq,Prod.mk.injEq] at H
  obtain⟨rfl,rfl,rfl⟩:=H
  go_enter Tryz.func42,Tryz.ntmps42
  go_wp2_with (first|((with_reducible refine gate_dst (N:=3) rfl ?_);refine be_ 3 #[.string a1_0,.string a1_1,.int .i64 a1_2] 27 ?_;intro gb833 hg w14 hbox hb;have BK833:=am_ (hbox);have GW833:=sz_ HB hg;have GE833:=sz_ HB hg;replace HB:=am_ (below_step (bl_ HB).out hb);clear hb hbox hg)|((with_reducible refine gate_dst (N:=4) rfl ?_);refine be_ 4 #[.bool false,.string (⟨#[]⟩:ByteArray),.int .i64 0] 97 ?_;intro gb834 hg w15 hbox hb;have BK834:=am_ (hbox);have GW834:=sz_ HB hg;have GE834:=sz_ HB hg;have NB833_834:=na_ BK833 hg;have NB834_833:=nb_ BK833 hg;replace BK833:=bb_ BK833 hb;replace HB:=am_ (below_step (bl_ HB).out hb);clear hb hbox hg;have hnb16:=NB833_834.out;have hnc16:=NB834_833.out;obtain⟨hcz17_0,hcz17_1,hcz17_2,hfz17_0,hfz17_1,hfz17_2⟩:=bo3_ BK833)|((with_reducible refine gate_callee (f:=44) rfl ?_);refine gl_ (some 23) Tryz.func44 #[.bool false,.string a1_0,.int .i64 0] ?_;(with_reducible refine(dec_Made.calls _ _ _ _ _ _ _ _ A13.out).mono ?_);rintro e w18 ⟨rfl,hb⟩;refine⟨_,rfl,?_⟩;replace BK833:=bb_ BK833 hb;replace BK834:=bb_ BK834 hb;replace HB:=am_ (below_step (bl_ HB).out hb);(try clear hb);obtain⟨hcz19_0,hcz19_1,hcz19_2,hfz19_0,hfz19_1,hfz19_2⟩:=bo3_ BK834))
  refine bodyPost_ret (results_cell_row rfl _ _ gb834 97 #[.bool t838,.string t839,.int .i64 t840] (0,0) _ rfl ((bp_ BK834).out) Tryz.underlying97 rfl (by kernel_rfl)) rfl ?_
  exact⟨ew_,(bl_ HB).out⟩
 rw[if_neg c12] at H
 have c12b0:(a0==105)=false:=beq_eq_false_iff_ne.mpr c12
 have c12b1:(a0 !=105)=true:=bne_iff_ne.mpr c12
 by_cases c20:a0=118
 ·rw[if_pos c20] at H
  have c20b0:(a0==118)=true:=beq_iff_eq.mpr c20
  have c20b1:(a0 !=118)=false:=bne_eq_false_iff_eq.mpr c20
  clear c20
  replace H:=Option.bind_eq_some_iff.mp H
  obtain⟨t841,A210,H⟩:=H
  have A21:=am_ A210
  clear A210
  replace H:=Option.bind_eq_some_iff.mp H
  obtain⟨⟨t842,t843,t844⟩,A220,H⟩:=H
  dsimp only at H
  have A22:=am_ A220
  clear A220
  simp only[Option.some.injEq,Prod.mk.injEq] at H
  obtain⟨rfl,rfl,rfl⟩:=H
  go_enter Tryz.func42,Tryz.ntmps42
  go_wp2_with (first|((with_reducible refine gate_dst (N:=3) rfl ?_);refine be_ 3 #[.string a1_0,.string a1_1,.int .i64 a1_2] 27 ?_;intro gb833 hg w23 hbox hb;have BK833:=am_ (hbox);have GW833:=sz_ HB hg;have GE833:=sz_ HB hg;replace HB:=am_ (below_step (bl_ HB).out hb);clear hb hbox hg)|((with_reducible refine gate_dst (N:=4) rfl ?_);refine be_ 4 #[.bool false,.string (⟨#[]⟩:ByteArray),.int .i64 0] 97 ?_;intro gb834 hg w24 hbox hb;have BK834:=am_ (hbox);have GW834:=sz_ HB hg;have GE834:=sz_ HB hg;have NB833_834:=na_ BK833 hg;have NB834_833:=nb_ BK833 hg;replace BK833:=bb_ BK833 hb;replace HB:=am_ (below_step (bl_ HB).out hb);clear hb hbox hg;have hnb25:=NB833_834.out;have hnc25:=NB834_833.out;obtain⟨hcz26_0,hcz26_1,hcz26_2,hfz26_0,hfz26_1,hfz26_2⟩:=bo3_ BK833)|((with_reducible refine gate_callee (f:=19) rfl ?_);refine gl_ (some 29) Tryz.func19 #[.int .i64 (a1_1.size:Int)] ?_;(with_reducible refine(num_Of.calls _ _ _ _ A21.out).mono ?_);rintro e w27 ⟨rfl,hb⟩;refine⟨_,rfl,?_⟩;replace BK833:=bb_ BK833 hb;replace BK834:=bb_ BK834 hb;replace HB:=am_ (below_step (bl_ HB).out hb);(try clear hb);(try clear hi))|((with_reducible refine gate_callee (f:=44) rfl ?_);refine gl_ (some 30) Tryz.func44 #[.bool false,.string t841,.int .i64 0] ?_;(with_reducible refine(dec_Made.calls _ _ _ _ _ _ _ _ A22.out).mono ?_);rintro e w28 ⟨rfl,hb⟩;refine⟨_,rfl,?_⟩;replace BK833:=bb_ BK833 hb;replace BK834:=bb_ BK834 hb;replace HB:=am_ (below_step (bl_ HB).out hb);(try clear hb);obtain⟨hcz29_0,hcz29_1,hcz29_2,hfz29_0,hfz29_1,hfz29_2⟩:=bo3_ BK834))
  refine bodyPost_ret (results_cell_row rfl _ _ gb834 97 #[.bool t842,.string t843,.int .i64 t844] (0,0) _ rfl ((bp_ BK834).out) Tryz.underlying97 rfl (by kernel_rfl)) rfl ?_
  exact⟨ew_,(bl_ HB).out⟩
 rw[if_neg c20] at H
 have c20b0:(a0==118)=false:=beq_eq_false_iff_ne.mpr c20
 have c20b1:(a0 !=118)=true:=bne_iff_ne.mpr c20
 by_cases c30:a0=102
 ·rw[if_pos c30] at H
  have c30b0:(a0==102)=true:=beq_iff_eq.mpr c30
  have c30b1:(a0 !=102)=false:=bne_eq_false_iff_eq.mpr c30
  clear c30
  replace H:=Option.bind_eq_some_iff.mp H
  obtain⟨⟨t845,t846,t847⟩,A310,H⟩:=H
  dsimp only at H
  have A31:=am_ A310
  clear A310
  simp only[Option.some.injEq,Prod.mk.injEq] at H
  obtain⟨rfl,rfl,rfl⟩:=H
  go_enter Tryz.func42,Tryz.ntmps42
  go_wp2_with (first|((with_reducible refine gate_dst (N:=3) rfl ?_);refine be_ 3 #[.string a1_0,.string a1_1,.int .i64 a1_2] 27 ?_;intro gb833 hg w32 hbox hb;have BK833:=am_ (hbox);have GW833:=sz_ HB hg;have GE833:=sz_ HB hg;replace HB:=am_ (below_step (bl_ HB).out hb);clear hb hbox hg)|((with_reducible refine gate_dst (N:=4) rfl ?_);refine be_ 4 #[.bool false,.string (⟨#[]⟩:ByteArray),.int .i64 0] 97 ?_;intro gb834 hg w33 hbox hb;have BK834:=am_ (hbox);have GW834:=sz_ HB hg;have GE834:=sz_ HB hg;have NB833_834:=na_ BK833 hg;have NB834_833:=nb_ BK833 hg;replace BK833:=bb_ BK833 hb;replace HB:=am_ (below_step (bl_ HB).out hb);clear hb hbox hg;have hnb34:=NB833_834.out;have hnc34:=NB834_833.out;obtain⟨hcz35_0,hcz35_1,hcz35_2,hfz35_0,hfz35_1,hfz35_2⟩:=bo3_ BK833)|((with_reducible refine gate_callee (f:=44) rfl ?_);refine gl_ (some 35) Tryz.func44 #[.bool false,.string a1_1,.int .i64 0] ?_;(with_reducible refine(dec_Made.calls _ _ _ _ _ _ _ _ A31.out).mono ?_);rintro e w36 ⟨rfl,hb⟩;refine⟨_,rfl,?_⟩;replace BK833:=bb_ BK833 hb;replace BK834:=bb_ BK834 hb;replace HB:=am_ (below_step (bl_ HB).out hb);(try clear hb);obtain⟨hcz37_0,hcz37_1,hcz37_2,hfz37_0,hfz37_1,hfz37_2⟩:=bo3_ BK834))
  refine bodyPost_ret (results_cell_row rfl _ _ gb834 97 #[.bool t845,.string t846,.int .i64 t847] (0,0) _ rfl ((bp_ BK834).out) Tryz.underlying97 rfl (by kernel_rfl)) rfl ?_
  exact⟨ew_,(bl_ HB).out⟩
 rw[if_neg c30] at H
 have c30b0:(a0==102)=false:=beq_eq_false_iff_ne.mpr c30
 have c30b1:(a0 !=102)=true:=bne_iff_ne.mpr c30
 have HC38:=am_ H
 clear H
 go_enter Tryz.func42,Tryz.ntmps42
 go_upto_block 1 with (first|((with_reducible refine gate_dst (N:=3) rfl ?_);refine be_ 3 #[.string a1_0,.string a1_1,.int .i64 a1_2] 27 ?_;intro gb833 hg w39 hbox hb;have BK833:=am_ (hbox);have GW833:=sz_ HB hg;have GE833:=sz_ HB hg;replace HB:=am_ (below_step (bl_ HB).out hb);clear hb hbox hg)|((with_reducible refine gate_dst (N:=4) rfl ?_);refine be_ 4 #[.bool false,.string (⟨#[]⟩:ByteArray),.int .i64 0] 97 ?_;intro gb834 hg w40 hbox hb;have BK834:=am_ (hbox);have GW834:=sz_ HB hg;have GE834:=sz_ HB hg;have NB833_834:=na_ BK833 hg;have NB834_833:=nb_ BK833 hg;replace BK833:=bb_ BK833 hb;replace HB:=am_ (below_step (bl_ HB).out hb);clear hb hbox hg;have hnb41:=NB833_834.out;have hnc41:=NB834_833.out;obtain⟨hcz42_0,hcz42_1,hcz42_2,hfz42_0,hfz42_1,hfz42_2⟩:=bo3_ BK833))
 (try simp only[Act.put,List.setIfInBounds_toArray,List.set_cons_zero,List.set_cons_succ])
 go_cut [5] (fun v5 wc=>∃(kq:Nat) (x5_37:Int),v5= .int .i64 x5_37∧Aside0 (florinlaw07_value.j1 kq a0 x5_37 a1_0 a1_1 a1_2=some (r1,r2,r3))∧Aside0 (kq≤k)∧Aside0 (wc.heap[gb833]? = some (.cells #[.string a1_0,.string a1_1,.int .i64 a1_2] 27 (0,0)))∧Aside0 (wc.heap[gb834]? = some (.cells #[.bool false,.string (⟨#[]⟩:ByteArray),.int .i64 0] 97 (0,0)))∧Aside0 (Below w.heap.size w wc))
 case first =>
  have H:=HC38.out
  clear HC38
  have H':=am_ H
  clear H
  go_wp2
  go_loopg [5] k (fun kq v5 w'=>∃(x5_1:Int),v5= .int .i64 x5_1∧Aside0 (florinlaw07_value.l0 kq a0 x5_1 a1_0 a1_1 a1_2=some (r1,r2,r3))∧Aside0 (kq≤k)∧Aside0 (w'.heap[gb833]? = some (.cells #[.string a1_0,.string a1_1,.int .i64 a1_2] 27 (0,0)))∧Aside0 (w'.heap[gb834]? = some (.cells #[.bool false,.string (⟨#[]⟩:ByteArray),.int .i64 0] 97 (0,0)))∧Aside0 (Below w.heap.size w w'))
  case atStart=>exact⟨((a1_1.size:Int)),eq_,H',⟨Nat.le_refl _⟩,(bk_ BK833),(bk_ BK834),(bl_ HB)⟩
  clear H'
  obtain⟨x5_1,rfl,HA,HK1,BK833,BK834,HB⟩:=hrel
  cases gk with
  | zero=>exact absurd HA.out (by simp[florinlaw07_value.l0])
  | succ k1=>?_
  have H:=HA.out
  clear HA
  simp only[florinlaw07_value.l0] at H
  by_cases c43:x5_1>0
  ·rw[if_pos c43] at H
   have c43b0:decide (0<x5_1)=true:=decide_eq_true c43
   clear c43
   (first|rw[c43b0]|(simp only[i64_w,i32_w];rw[c43b0])|skip)
   obtain⟨ji44,hji44⟩:∃j_:Int,(wrap64 (x5_1-1))=j_:=⟨_,rfl⟩
   replace H:(if 0≤(ji44) then (if (ji44)<(a1_1.size:Int) then (if (bt a1_1 (ji44))=48 then (florinlaw07_value.l0 k1 a0 ji44 a1_0 a1_1 a1_2) else (florinlaw07_value.j1 k1 a0 x5_1 a1_0 a1_1 a1_2)) else (none)) else (none))=some (r1,r2,r3):=by first|(rw[hji44] at H;exact H)|(simp only[hji44] at H ⊢;exact H)
   have hji44w:(IntKind.i64.wrap (x5_1-1))=ji44:=(i64_w _).trans hji44
   replace H:=ifn_ H
   obtain⟨c45,H⟩:=H
   have c45b0:decide (0≤(ji44))=true:=decide_eq_true c45
   clear c45
   replace H:=ifn_ H
   obtain⟨c46,H⟩:=H
   have c46b0:decide ((ji44)<(a1_1.size:Int))=true:=decide_eq_true c46
   clear c46
   by_cases c48:(bt a1_1 (ji44))=48
   ·rw[if_pos c48] at H
    have c48b0:((bt a1_1 (ji44))==48)=true:=beq_iff_eq.mpr c48
    have c48b1:((bt a1_1 (ji44)) !=48)=false:=bne_eq_false_iff_eq.mpr c48
    clear c48
    have H':=am_ H
    clear H
    have hnb49:=NB833_834.out
    have hnc49:=NB834_833.out
    obtain⟨hcz50_0,hcz50_1,hcz50_2,hfz50_0,hfz50_1,hfz50_2⟩:=bo3_ BK833
    have p47:0≤((ji44):Int):=od_
    have q47:(ji44)<(a1_1.size:Int):=od_
    have hx47:=bt_at a1_1 (ji44)
    replace p47:=eq_true p47
    replace q47:=eq_true q47
    go_wp2
    go_roundg k1
    case measure=>have:=HK1.out;omega
    case rel=>exact⟨(ji44),(by first|rfl|(simp;done)|(simp only[← hji44] <;> (first|rfl|simp))|(simp[*];done)),(by first|exact H'|(rw[hji44];exact H')|(simp only[hji44];exact H')),⟨by have:=HK1.out;omega⟩,(bk_ BK833),(bk_ BK834),(bl_ HB)⟩
   rw[if_neg c48] at H
   have c48b0:((bt a1_1 (ji44))==48)=false:=beq_eq_false_iff_ne.mpr c48
   have c48b1:((bt a1_1 (ji44)) !=48)=true:=bne_iff_ne.mpr c48
   have H':=am_ H
   clear H
   have hnb51:=NB833_834.out
   have hnc51:=NB834_833.out
   obtain⟨hcz52_0,hcz52_1,hcz52_2,hfz52_0,hfz52_1,hfz52_2⟩:=bo3_ BK833
   have p47:0≤((ji44):Int):=od_
   have q47:(ji44)<(a1_1.size:Int):=od_
   have hx47:=bt_at a1_1 (ji44)
   replace p47:=eq_true p47
   replace q47:=eq_true q47
   go_wp2
   go_meet
   case rel=>first|(exact⟨_,(x5_1),eq_,(by first|exact H'|(rw[hji44];exact H')|(simp only[hji44];exact H')),⟨by have:=HK1.out;first|omega|exact Nat.le_refl _⟩,(bk_ BK833),(bk_ BK834),(bl_ HB)⟩)|(rw[← hji44] at H';exact⟨_,(x5_1),eq_,(by first|exact H'|(rw[hji44];exact H')|(simp only[hji44];exact H')),⟨by have:=HK1.out;first|omega|exact Nat.le_refl _⟩,(bk_ BK833),(bk_ BK834),(bl_ HB)⟩)
  rw[if_neg c43] at H
  have c43b0:decide (0<x5_1)=false:=decide_eq_false c43
  clear c43
  (first|rw[c43b0]|(simp only[i64_w,i32_w];rw[c43b0])|skip)
  have H':=am_ H
  clear H
  go_wp2
  go_meet
  case rel=>exact⟨_,(x5_1),eq_,H',⟨by have:=HK1.out;first|omega|exact Nat.le_refl _⟩,(bk_ BK833),(bk_ BK834),(bl_ HB)⟩
 clear HC38
 obtain⟨kq,x5_37,rfl,HA,HJ37,BK833,BK834,HB⟩:=hcut
 cases kq with
 | zero=>exact absurd HA.out (by simp[florinlaw07_value.j1])
 | succ kj37=>?_
 have H:=HA.out
 clear HA
 simp only[florinlaw07_value.j1] at H
 by_cases c53:a0=119
 ·rw[if_pos c53] at H
  have c53b0:(a0==119)=true:=beq_iff_eq.mpr c53
  have c53b1:(a0 !=119)=false:=bne_eq_false_iff_eq.mpr c53
  clear c53
  replace H:=Option.bind_eq_some_iff.mp H
  obtain⟨t848,A540,H⟩:=H
  have A54:=am_ A540
  clear A540
  replace H:=Option.bind_eq_some_iff.mp H
  obtain⟨⟨t849,t850,t851⟩,A550,H⟩:=H
  dsimp only at H
  have A55:=am_ A550
  clear A550
  simp only[Option.some.injEq,Prod.mk.injEq] at H
  obtain⟨rfl,rfl,rfl⟩:=H
  go_wp2_with (first|((with_reducible refine gate_callee (f:=19) rfl ?_);refine gl_ (some 55) Tryz.func19 #[.int .i64 x5_37] ?_;(with_reducible refine(num_Of.calls _ _ _ _ A54.out).mono ?_);rintro e w56 ⟨rfl,hb⟩;refine⟨_,rfl,?_⟩;replace BK833:=bb_ BK833 hb;replace BK834:=bb_ BK834 hb;replace HB:=am_ (below_step (bl_ HB).out hb);(try clear hb);(try clear hi))|((with_reducible refine gate_callee (f:=44) rfl ?_);refine gl_ (some 56) Tryz.func44 #[.bool false,.string t848,.int .i64 0] ?_;(with_reducible refine(dec_Made.calls _ _ _ _ _ _ _ _ A55.out).mono ?_);rintro e w57 ⟨rfl,hb⟩;refine⟨_,rfl,?_⟩;replace BK833:=bb_ BK833 hb;replace BK834:=bb_ BK834 hb;replace HB:=am_ (below_step (bl_ HB).out hb);(try clear hb);have hnb58:=NB834_833.out;have hnc58:=NB833_834.out;obtain⟨hcz59_0,hcz59_1,hcz59_2,hfz59_0,hfz59_1,hfz59_2⟩:=bo3_ BK834))
  refine bodyPost_ret (results_cell_row rfl _ _ gb834 97 #[.bool t849,.string t850,.int .i64 t851] (0,0) _ rfl ((bp_ BK834).out) Tryz.underlying97 rfl (by kernel_rfl)) rfl ?_
  exact⟨ew_,(bl_ HB).out⟩
 rw[if_neg c53] at H
 have c53b0:(a0==119)=false:=beq_eq_false_iff_ne.mpr c53
 have c53b1:(a0 !=119)=true:=bne_iff_ne.mpr c53
 by_cases c60:a0=116
 ·rw[if_pos c60] at H
  have c60b0:(a0==116)=true:=beq_iff_eq.mpr c60
  have c60b1:(a0 !=116)=false:=bne_eq_false_iff_eq.mpr c60
  clear c60
  replace H:=ifn_ H
  obtain⟨c61,H⟩:=H
  have c61b0:=eq_true c61
  have c61b1:decide (0≤x5_37)=true:=decide_eq_true c61
  clear c61
  replace H:=ifn_ H
  obtain⟨c62,H⟩:=H
  have c62b0:=eq_true c62
  have c62b1:decide (x5_37≤(a1_1.size:Int))=true:=decide_eq_true c62
  clear c62
  replace H:=Option.bind_eq_some_iff.mp H
  obtain⟨⟨t852,t853,t854⟩,A630,H⟩:=H
  dsimp only at H
  have A63:=am_ A630
  clear A630
  simp only[Option.some.injEq,Prod.mk.injEq] at H
  obtain⟨rfl,rfl,rfl⟩:=H
  have hnb64:=NB833_834.out
  have hnc64:=NB834_833.out
  obtain⟨hcz65_0,hcz65_1,hcz65_2,hfz65_0,hfz65_1,hfz65_2⟩:=bo3_ BK833
  go_wp2_with (first|((with_reducible refine gate_callee (f:=44) rfl ?_);refine gl_ (some 63) Tryz.func44 #[.bool false,.string (a1_1.extract 0 (x5_37:Int).toNat),.int .i64 0] ?_;(with_reducible refine(dec_Made.calls _ _ _ _ _ _ _ _ A63.out).mono ?_);rintro e w66 ⟨rfl,hb⟩;refine⟨_,rfl,?_⟩;replace BK833:=bb_ BK833 hb;replace BK834:=bb_ BK834 hb;replace HB:=am_ (below_step (bl_ HB).out hb);(try clear hb);obtain⟨hcz67_0,hcz67_1,hcz67_2,hfz67_0,hfz67_1,hfz67_2⟩:=bo3_ BK834))
  refine bodyPost_ret (results_cell_row rfl _ _ gb834 97 #[.bool t852,.string t853,.int .i64 t854] (0,0) _ rfl ((bp_ BK834).out) Tryz.underlying97 rfl (by kernel_rfl)) rfl ?_
  exact⟨ew_,(bl_ HB).out⟩
 rw[if_neg c60] at H
 have c60b0:(a0==116)=false:=beq_eq_false_iff_ne.mpr c60
 have c60b1:(a0 !=116)=true:=bne_iff_ne.mpr c60
 replace H:=Option.bind_eq_some_iff.mp H
 obtain⟨t855,A680,H⟩:=H
 have A68:=am_ A680
 clear A680
 replace H:=Option.bind_eq_some_iff.mp H
 obtain⟨⟨t856,t857,t858⟩,A690,H⟩:=H
 dsimp only at H
 have A69:=am_ A690
 clear A690
 simp only[Option.some.injEq,Prod.mk.injEq] at H
 obtain⟨rfl,rfl,rfl⟩:=H
 have hnb70:=NB833_834.out
 have hnc70:=NB834_833.out
 obtain⟨hcz71_0,hcz71_1,hcz71_2,hfz71_0,hfz71_1,hfz71_2⟩:=bo3_ BK833
 go_wp2_with (first|((with_reducible refine gate_callee (f:=19) rfl ?_);refine gl_ (some 66) Tryz.func19 #[.int .i64 a1_2] ?_;(with_reducible refine(num_Of.calls _ _ _ _ A68.out).mono ?_);rintro e w72 ⟨rfl,hb⟩;refine⟨_,rfl,?_⟩;replace BK833:=bb_ BK833 hb;replace BK834:=bb_ BK834 hb;replace HB:=am_ (below_step (bl_ HB).out hb);(try clear hb);(try clear hi))|((with_reducible refine gate_callee (f:=44) rfl ?_);refine gl_ (some 67) Tryz.func44 #[.bool false,.string t855,.int .i64 0] ?_;(with_reducible refine(dec_Made.calls _ _ _ _ _ _ _ _ A69.out).mono ?_);rintro e w73 ⟨rfl,hb⟩;refine⟨_,rfl,?_⟩;replace BK833:=bb_ BK833 hb;replace BK834:=bb_ BK834 hb;replace HB:=am_ (below_step (bl_ HB).out hb);(try clear hb);obtain⟨hcz74_0,hcz74_1,hcz74_2,hfz74_0,hfz74_1,hfz74_2⟩:=bo3_ BK834))
 refine bodyPost_ret (results_cell_row rfl _ _ gb834 97 #[.bool t856,.string t857,.int .i64 t858] (0,0) _ rfl ((bp_ BK834).out) Tryz.underlying97 rfl (by kernel_rfl)) rfl ?_
 exact⟨ew_,(bl_ HB).out⟩

def dec_Dec_Minus.f (k:Nat) (a0_0:Bool) (a0_1:ByteArray) (a0_2:Int):Option (Bool × ByteArray × Int):=(dec_Made.f k (!a0_0) a0_1 a0_2).bind fun bt861=>(some (bt861.1,bt861.2.1,bt861.2.2))
theorem dec_Dec_Minus.calls (k:Nat) (a0_0:Bool) (a0_1:ByteArray) (a0_2:Int) (r1:Bool) (r2:ByteArray) (r3:Int) (w:World) (h:dec_Dec_Minus.f k a0_0 a0_1 a0_2=some (r1,r2,r3)) :
    Calls Tryz.prog 94 #[.agg #[.bool a0_0,.string a0_1,.int .i64 a0_2]] w fun e w'=>e= .returned (.agg #[.bool r1,.string r2,.int .i64 r3])∧Below w.heap.size w w':=by
  have hu97:=Tryz.underlying97
  have HB:=am_ (Below.refl w.heap.size w)
  have H:=h
  clear h
  unfold dec_Dec_Minus.f at H
  replace H:=Option.bind_eq_some_iff.mp H
  obtain⟨⟨t861,t862,t863⟩,A20,H⟩:=H
  dsimp only at H
  have A2:=am_ A20
  clear A20
  simp only[Option.some.injEq,Prod.mk.injEq] at H
  obtain⟨rfl,rfl,rfl⟩:=H
  go_enter Tryz.func94,Tryz.ntmps94
  go_wp2_with (first|((with_reducible refine gate_dst (N:=1) rfl ?_);refine be_ 1 #[.bool a0_0,.string a0_1,.int .i64 a0_2] 97 ?_;intro gb859 hg w3 hbox hb;have BK859:=am_ (hbox);have GW859:=sz_ HB hg;have GE859:=sz_ HB hg;replace HB:=am_ (below_step (bl_ HB).out hb);clear hb hbox hg)|((with_reducible refine gate_dst (N:=2) rfl ?_);refine be_ 2 #[.bool false,.string (⟨#[]⟩:ByteArray),.int .i64 0] 97 ?_;intro gb860 hg w4 hbox hb;have BK860:=am_ (hbox);have GW860:=sz_ HB hg;have GE860:=sz_ HB hg;have NB859_860:=na_ BK859 hg;have NB860_859:=nb_ BK859 hg;replace BK859:=bb_ BK859 hb;replace HB:=am_ (below_step (bl_ HB).out hb);clear hb hbox hg;have hnb5:=NB859_860.out;have hnc5:=NB860_859.out;obtain⟨hcz6_0,hcz6_1,hcz6_2,hfz6_0,hfz6_1,hfz6_2⟩:=bo3_ BK859)|((with_reducible refine gate_callee (f:=44) rfl ?_);refine gl_ (some 10) Tryz.func44 #[.bool (!a0_0),.string a0_1,.int .i64 a0_2] ?_;(with_reducible refine(dec_Made.calls _ _ _ _ _ _ _ _ A2.out).mono ?_);rintro e w7 ⟨rfl,hb⟩;refine⟨_,rfl,?_⟩;replace BK859:=bb_ BK859 hb;replace BK860:=bb_ BK860 hb;replace HB:=am_ (below_step (bl_ HB).out hb);(try clear hb);obtain⟨hcz8_0,hcz8_1,hcz8_2,hfz8_0,hfz8_1,hfz8_2⟩:=bo3_ BK860))
  refine bodyPost_ret (results_cell_row rfl _ _ gb860 97 #[.bool t861,.string t862,.int .i64 t863] (0,0) _ rfl ((bp_ BK860).out) Tryz.underlying97 rfl (by kernel_rfl)) rfl ?_
  exact⟨ew_,(bl_ HB).out⟩

end Go.Proofs.YtadagjgkanlmdaaGreatDoor.P
