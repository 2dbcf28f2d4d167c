import Derived.Test.YtadagjgkanlmdaaGreatDoorPx0
import Derived.Test.YtadagjgkanlmdaaGreatDoorPx1
import Derived.Test.YtadagjgkanlmdaaGreatDoorPx5
namespace Go.Proofs.YtadagjgkanlmdaaGreatDoor.P
open Go.RowKit Go.Proofs.YtadagjgkanlmdaaGreatDoorW.PrintWords Go.Proofs.YtadagjgkanlmdaaGreatDoorW.PrintLast Go.Proofs.YtadagjgkanlmdaaGreatDoorW.PrintMore
attribute [local go_sem] max2_int min2_int max_two min_two max_three min_three max_four min_four
set_option maxHeartbeats 64000000
set_option maxRecDepth 100000
set_option linter.unusedVariables false
set_option linter.unusedSimpArgs false

def dec_held.f (a0:Int):Option (Int):=some (mn (mx a0 (-30000)) 30000)
theorem dec_held.calls (a0:Int) (r:Int) (w:World) (h:dec_held.f a0=some r) :
    Calls Tryz.prog 66 #[.int .i64 a0] w fun e w'=>e= .returned (.int .i64 r)∧Below w.heap.size w w':=by
  have HB:=am_ (Below.refl w.heap.size w)
  have H:=h
  clear h
  unfold dec_held.f at H
  obtain⟨ji2,hji2⟩:∃j_:Int,(mx a0 (-30000))=j_:=⟨_,rfl⟩
  replace H:(some (mn (ji2) 30000))=some r:=by first|(rw[hji2] at H;exact H)|(simp only[hji2] at H ⊢;exact H)
  have hji2_:(if a0<(-30000) then (-30000) else a0)=ji2:=hji2
  obtain⟨ji3,hji3⟩:∃j_:Int,(mn (ji2) 30000)=j_:=⟨_,rfl⟩
  replace H:(some ji3)=some r:=by first|(rw[hji3] at H;exact H)|(simp only[hji3] at H ⊢;exact H)
  have hji3_:(if 30000<(ji2) then 30000 else (ji2))=ji3:=hji3
  obtain rfl:=Option.some.inj H
  go_enter Tryz.func66,Tryz.ntmps66
  go_wp2
  go_ret
  exact⟨by first|rfl|(simp[errW_none,errW_some] <;> rfl)|(simp only[← hji2, ← hji3];first|rfl|(simp[errW_none,errW_some] <;> rfl))|(simp[*,errW_none,errW_some] <;> first|rfl|exact given_isEmpty _|exact(given_isEmpty _).symm),by repeat(first|(with_reducible first|exact HB.out|apply below_alloc|apply pw_below_drewN|apply below_drew1)|exact HB.out)⟩

def dec_Made.f (k:Nat) (a0:Bool) (a1:ByteArray) (a2:Int):Option (Bool × ByteArray × Int):=(num_Trim.f k a1).bind fun t737=>(if t737.toList=([]:List UInt8) then (some (false,(⟨#[]⟩:ByteArray),0)) else ((strings_TrimRight.f t737 (⟨#[48]⟩:ByteArray)).bind fun t738=>((dec_held.f a2).bind fun t739=>((dec_held.f (wrap64 ((wrap64 (t739+(t737.size:Int)))-(t738.size:Int)))).bind fun t740=>(some (a0,t738,t740))))))
theorem dec_Made.calls (k:Nat) (a0:Bool) (a1:ByteArray) (a2:Int) (r1:Bool) (r2:ByteArray) (r3:Int) (w:World) (h:dec_Made.f k a0 a1 a2=some (r1,r2,r3)) :
  Calls Tryz.prog 44 #[.bool a0,.string a1,.int .i64 a2] w fun e w'=>e= .returned (.agg #[.bool r1,.string r2,.int .i64 r3])∧Below w.heap.size w w':=by
 have hu97:=Tryz.underlying97
 have HB:=am_ (Below.refl w.heap.size w)
 have H:=h
 clear h
 unfold dec_Made.f at H
 replace H:=Option.bind_eq_some_iff.mp H
 obtain⟨t737,A40,H⟩:=H
 have A4:=am_ A40
 clear A40
 by_cases c5:t737.toList=([]:List UInt8)
 ·rw[if_pos c5] at H
  have c5b0:(t737.toList==([]:List UInt8))=true:=beq_iff_eq.mpr c5
  have c5b1:(t737.toList !=([]:List UInt8))=false:=bne_eq_false_iff_eq.mpr c5
  have c5b2:(t737.toList.isEmpty)=true:=by rw[c5];rfl
  clear c5
  simp only[Option.some.injEq,Prod.mk.injEq] at H
  obtain⟨rfl,rfl,rfl⟩:=H
  go_enter Tryz.func44,Tryz.ntmps44
  go_wp2_with (first|((with_reducible refine gate_dst (N:=6) rfl ?_);refine be_ 6 #[.bool false,.string (⟨#[]⟩:ByteArray),.int .i64 0] 97 ?_;intro gb736 hg w6 hbox hb;have BK736:=am_ (hbox);have GW736:=sz_ HB hg;have GE736:=sz_ HB hg;replace HB:=am_ (below_step (bl_ HB).out hb);clear hb hbox hg)|((with_reducible refine gate_callee (f:=25) rfl ?_);refine gl_ (some 10) Tryz.func25 #[.string a1] ?_;(with_reducible refine(num_Trim.calls _ _ _ _ A4.out).mono ?_);rintro e w' ⟨rfl,⟨nd,rfl⟩⟩;refine⟨_,rfl,?_⟩;(try (rw[drewN_self w6];generalize hq_:World.drewN w6 _=w6;have n0_:Aside0 (w6.heap[gb736]? = some (.cells #[.bool false,.string (⟨#[]⟩:ByteArray),.int .i64 0] 97 (0,0))):=⟨by rw[← hq_];exact(bk_ BK736).out⟩;have n1_:Aside0 (Below w.heap.size w w6):=⟨by rw[← hq_];exact(bl_ HB).out⟩;clear BK736 HB hq_;have BK736:=n0_;have HB:=n1_;clear n0_ n1_));obtain⟨hcz7_0,hcz7_1,hcz7_2,hfz7_0,hfz7_1,hfz7_2⟩:=bo3_ BK736))
  refine bodyPost_ret (results_cell_row rfl _ _ gb736 97 #[.bool false,.string (⟨#[]⟩:ByteArray),.int .i64 0] (0,0) _ rfl ((bp_ BK736).out) Tryz.underlying97 rfl (by kernel_rfl)) rfl ?_
  exact⟨ew_,(bl_ HB).out⟩
 rw[if_neg c5] at H
 have c5b0:(t737.toList==([]:List UInt8))=false:=beq_eq_false_iff_ne.mpr c5
 have c5b1:(t737.toList !=([]:List UInt8))=true:=bne_iff_ne.mpr c5
 have c5b2:(t737.toList.isEmpty)=false:=by rw[given_isEmpty,bne_iff_ne.mpr c5];rfl
 replace H:=Option.bind_eq_some_iff.mp H
 obtain⟨t738,A80,H⟩:=H
 have A8:=am_ A80
 clear A80
 replace H:=Option.bind_eq_some_iff.mp H
 obtain⟨t739,A90,H⟩:=H
 have A9:=am_ A90
 clear A90
 replace H:=Option.bind_eq_some_iff.mp H
 obtain⟨t740,A100,H⟩:=H
 have A10:=am_ A100
 clear A100
 simp only[Option.some.injEq,Prod.mk.injEq] at H
 obtain⟨rfl,rfl,rfl⟩:=H
 go_enter Tryz.func44,Tryz.ntmps44
 go_wp2_with (first|((with_reducible refine gate_dst (N:=6) rfl ?_);refine be_ 6 #[.bool false,.string (⟨#[]⟩:ByteArray),.int .i64 0] 97 ?_;intro gb736 hg w11 hbox hb;have BK736:=am_ (hbox);have GW736:=sz_ HB hg;have GE736:=sz_ HB hg;replace HB:=am_ (below_step (bl_ HB).out hb);clear hb hbox hg)|((with_reducible refine gate_callee (f:=25) rfl ?_);refine gl_ (some 10) Tryz.func25 #[.string a1] ?_;(with_reducible refine(num_Trim.calls _ _ _ _ A4.out).mono ?_);rintro e w' ⟨rfl,⟨nd,rfl⟩⟩;refine⟨_,rfl,?_⟩;(try (rw[drewN_self w11];generalize hq_:World.drewN w11 _=w11;have n0_:Aside0 (w11.heap[gb736]? = some (.cells #[.bool false,.string (⟨#[]⟩:ByteArray),.int .i64 0] 97 (0,0))):=⟨by rw[← hq_];exact(bk_ BK736).out⟩;have n1_:Aside0 (Below w.heap.size w w11):=⟨by rw[← hq_];exact(bl_ HB).out⟩;clear BK736 HB hq_;have BK736:=n0_;have HB:=n1_;clear n0_ n1_)))|((with_reducible refine gate_callee (f:=65) rfl ?_);refine gl_ (some 15) Tryz.func65 #[.string t737,.string (⟨#[48]⟩:ByteArray)] ?_;(with_reducible refine(strings_TrimRight.calls _ _ _ _ A8.out).mono ?_);rintro e w' ⟨rfl,⟨nd,rfl⟩⟩;refine⟨_,rfl,?_⟩;(try (rw[drewN_self w11];generalize hq_:World.drewN w11 _=w11;have n0_:Aside0 (w11.heap[gb736]? = some (.cells #[.bool false,.string (⟨#[]⟩:ByteArray),.int .i64 0] 97 (0,0))):=⟨by rw[← hq_];exact(bk_ BK736).out⟩;have n1_:Aside0 (Below w.heap.size w w11):=⟨by rw[← hq_];exact(bl_ HB).out⟩;clear BK736 HB hq_;have BK736:=n0_;have HB:=n1_;clear n0_ n1_)))|((with_reducible refine gate_callee (f:=66) rfl ?_);refine gl_ (some 19) Tryz.func66 #[.int .i64 a2] ?_;(with_reducible refine(dec_held.calls _ _ _ A9.out).mono ?_);rintro e w12 ⟨rfl,hb⟩;refine⟨_,rfl,?_⟩;replace BK736:=bb_ BK736 hb;replace HB:=am_ (below_step (bl_ HB).out hb);(try clear hb);(try clear hi))|((with_reducible refine gate_callee (f:=66) rfl ?_);refine gl_ (some 26) Tryz.func66 #[.int .i64 (wrap64 ((wrap64 (t739+(t737.size:Int)))-(t738.size:Int)))] ?_;(with_reducible refine(dec_held.calls (wrap64 ((wrap64 (t739+(t737.size:Int)))-(t738.size:Int))) t740 _ A10.out).mono ?_);rintro e w13 ⟨rfl,hb⟩;refine⟨_,rfl,?_⟩;replace BK736:=bb_ BK736 hb;replace HB:=am_ (below_step (bl_ HB).out hb);(try clear hb);obtain⟨hcz14_0,hcz14_1,hcz14_2,hfz14_0,hfz14_1,hfz14_2⟩:=bo3_ BK736))
 refine bodyPost_ret (results_cell_row rfl _ _ gb736 97 #[.bool a0,.string t738,.int .i64 t740] (0,0) _ rfl ((bp_ BK736).out) Tryz.underlying97 rfl (by kernel_rfl)) rfl ?_
 exact⟨ew_,(bl_ HB).out⟩

def dec_Dec_Norm.f (k:Nat) (a0_0:Bool) (a0_1:ByteArray) (a0_2:Int):Option (Bool × ByteArray × Int):=(dec_Made.f k a0_0 a0_1 a0_2).bind fun bt743=>(some (bt743.1,bt743.2.1,bt743.2.2))
theorem dec_Dec_Norm.calls (k:Nat) (a0_0:Bool) (a0_1:ByteArray) (a0_2:Int) (r1:Bool) (r2:ByteArray) (r3:Int) (w:World) (h:dec_Dec_Norm.f k a0_0 a0_1 a0_2=some (r1,r2,r3)) :
    Calls Tryz.prog 64 #[.agg #[.bool a0_0,.string a0_1,.int .i64 a0_2]] w fun e w'=>e= .returned (.agg #[.bool r1,.string r2,.int .i64 r3])∧Below w.heap.size w w':=by
  have hu97:=Tryz.underlying97
  have HB:=am_ (Below.refl w.heap.size w)
  have H:=h
  clear h
  unfold dec_Dec_Norm.f at H
  replace H:=Option.bind_eq_some_iff.mp H
  obtain⟨⟨t743,t744,t745⟩,A20,H⟩:=H
  dsimp only at H
  have A2:=am_ A20
  clear A20
  simp only[Option.some.injEq,Prod.mk.injEq] at H
  obtain⟨rfl,rfl,rfl⟩:=H
  go_enter Tryz.func64,Tryz.ntmps64
  go_wp2_with (first|((with_reducible refine gate_dst (N:=1) rfl ?_);refine be_ 1 #[.bool a0_0,.string a0_1,.int .i64 a0_2] 97 ?_;intro gb741 hg w3 hbox hb;have BK741:=am_ (hbox);have GW741:=sz_ HB hg;have GE741:=sz_ HB hg;replace HB:=am_ (below_step (bl_ HB).out hb);clear hb hbox hg)|((with_reducible refine gate_dst (N:=2) rfl ?_);refine be_ 2 #[.bool false,.string (⟨#[]⟩:ByteArray),.int .i64 0] 97 ?_;intro gb742 hg w4 hbox hb;have BK742:=am_ (hbox);have GW742:=sz_ HB hg;have GE742:=sz_ HB hg;have NB741_742:=na_ BK741 hg;have NB742_741:=nb_ BK741 hg;replace BK741:=bb_ BK741 hb;replace HB:=am_ (below_step (bl_ HB).out hb);clear hb hbox hg;have hnb5:=NB741_742.out;have hnc5:=NB742_741.out;obtain⟨hcz6_0,hcz6_1,hcz6_2,hfz6_0,hfz6_1,hfz6_2⟩:=bo3_ BK741)|((with_reducible refine gate_callee (f:=44) rfl ?_);refine gl_ (some 9) Tryz.func44 #[.bool a0_0,.string a0_1,.int .i64 a0_2] ?_;(with_reducible refine(dec_Made.calls _ _ _ _ _ _ _ _ A2.out).mono ?_);rintro e w7 ⟨rfl,hb⟩;refine⟨_,rfl,?_⟩;replace BK741:=bb_ BK741 hb;replace BK742:=bb_ BK742 hb;replace HB:=am_ (below_step (bl_ HB).out hb);(try clear hb);obtain⟨hcz8_0,hcz8_1,hcz8_2,hfz8_0,hfz8_1,hfz8_2⟩:=bo3_ BK742))
  refine bodyPost_ret (results_cell_row rfl _ _ gb742 97 #[.bool t743,.string t744,.int .i64 t745] (0,0) _ rfl ((bp_ BK742).out) Tryz.underlying97 rfl (by kernel_rfl)) rfl ?_
  exact⟨ew_,(bl_ HB).out⟩

def dec_Dec_Parts.f (k:Nat) (a0_0:Bool) (a0_1:ByteArray) (a0_2:Int):Option (ByteArray × ByteArray):=(dec_Dec_Norm.f k a0_0 a0_1 a0_2).bind fun bt747=>(if bt747.2.2≥0 then ((num_Zeros.f bt747.2.2).bind fun t750=>(if bt747.2.1.size+t750.size≤9223372036854775807 then (some (bt747.2.1++t750,(⟨#[]⟩:ByteArray))) else (none))) else ((num_Zeros.f (wrap64 ((wrap64 (-bt747.2.2))-(bt747.2.1.size:Int)))).bind fun t751=>(if t751.size+bt747.2.1.size≤9223372036854775807 then (if 0≤(wrap64 (((t751++bt747.2.1).size:Int)+bt747.2.2)) then (if (wrap64 (((t751++bt747.2.1).size:Int)+bt747.2.2))≤((t751++bt747.2.1).size:Int) then ((num_Trim.f k ((t751++bt747.2.1).extract 0 ((wrap64 (((t751++bt747.2.1).size:Int)+bt747.2.2)):Int).toNat)).bind fun t752=>(some (t752,(t751++bt747.2.1).extract ((wrap64 (((t751++bt747.2.1).size:Int)+bt747.2.2)):Int).toNat (t751++bt747.2.1).size))) else (none)) else (none)) else (none))))
def dec_Dec_Parts.T3:Bool × List (List Nat × List Nat):=(true,[([],[]),([0],[0]),([],[]),([2],[2]),([3],[3]),([1,4],[1,4]),([5,4,0,1,2,3,4,5],[5]),([6,0,1,2,3,4,5,6],[])])
def dec_Dec_Parts.B3:List Nat:=[0,1,0,4,12,31,63,127]
theorem dec_Dec_Parts.tab3:rtab .any (opsOf Tryz.f43 3)=dec_Dec_Parts.T3:=by kernel_rfl
theorem dec_Dec_Parts.bits3:waitsOk dec_Dec_Parts.T3.2 dec_Dec_Parts.B3=true:=by kernel_rfl
def dec_Dec_Parts.T4:Bool × List (List Nat × List Nat):=(true,[([],[]),([0],[0]),([1],[1]),([],[]),([3],[3]),([4],[4]),([2,5],[2,5]),([6],[6]),([],[]),([8],[8]),([7,9],[7,9]),([10,7,0,1,2,3,4,5,6,7,8,9,10],[10])])
def dec_Dec_Parts.B4:List Nat:=[0,1,3,0,8,24,63,127,0,256,1023,2047]
theorem dec_Dec_Parts.tab4:rtab .any (opsOf Tryz.f43 4)=dec_Dec_Parts.T4:=by kernel_rfl
theorem dec_Dec_Parts.bits4:waitsOk dec_Dec_Parts.T4.2 dec_Dec_Parts.B4=true:=by kernel_rfl
def dec_Dec_Parts.T6:Bool × List (List Nat × List Nat):=(true,[([],[]),([],[]),([0,1],[0,1]),([2],[2]),([],[]),([],[]),([4,5],[4,5]),([3,3,0,1,2,3],[3]),([6,7,0,1,2,3,4,5,6,7],[6])])
def dec_Dec_Parts.B6:List Nat:=[0,0,3,7,0,0,48,15,255]
theorem dec_Dec_Parts.tab6:rtab .any (opsOf Tryz.f43 6)=dec_Dec_Parts.T6:=by kernel_rfl
theorem dec_Dec_Parts.bits6:waitsOk dec_Dec_Parts.T6.2 dec_Dec_Parts.B6=true:=by kernel_rfl
theorem dec_Dec_Parts.calls (k:Nat) (a0_0:Bool) (a0_1:ByteArray) (a0_2:Int) (r1:ByteArray) (r2:ByteArray) (w:World) (h:dec_Dec_Parts.f k a0_0 a0_1 a0_2=some (r1,r2)) :
  Calls Tryz.prog 43 #[.agg #[.bool a0_0,.string a0_1,.int .i64 a0_2]] w fun e w'=>e= .returned (.tuple #[.string r1,.string r2])∧Below w.heap.size w w':=by
 have hu97:=Tryz.underlying97
 have HB:=am_ (Below.refl w.heap.size w)
 have H:=h
 clear h
 unfold dec_Dec_Parts.f at H
 replace H:=Option.bind_eq_some_iff.mp H
 obtain⟨⟨t747,t748,t749⟩,A20,H⟩:=H
 dsimp only at H
 have A2:=am_ A20
 clear A20
 by_cases c3:t749≥0
 ·rw[if_pos c3] at H
  have c3b0:decide (0≤t749)=true:=decide_eq_true c3
  clear c3
  replace H:=Option.bind_eq_some_iff.mp H
  obtain⟨t750,A40,H⟩:=H
  have A4:=am_ A40
  clear A40
  replace H:=ifn_ H
  obtain⟨c5,H⟩:=H
  have c5b0:=eq_true c5
  have c5b1:decide (t748.size+t750.size≤9223372036854775807)=true:=decide_eq_true c5
  try have c5b2:=eq_false (Nat.not_lt.2 c5)
  simp only[Option.some.injEq,Prod.mk.injEq] at H
  obtain⟨rfl,rfl⟩:=H
  go_enter Tryz.func43,Tryz.ntmps43
  try go_wp2_with (first|((with_reducible refine gate_dst (N:=1) rfl ?_);refine be_ 1 #[.bool a0_0,.string a0_1,.int .i64 a0_2] 97 ?_;intro gb746 hg w6 hbox hb;have BK746:=am_ (hbox);have GW746:=sz_ HB hg;have GE746:=sz_ HB hg;replace HB:=am_ (below_step (bl_ HB).out hb);clear hb hbox hg;obtain⟨hcz7_0,hcz7_1,hcz7_2,hfz7_0,hfz7_1,hfz7_2⟩:=bo3_ BK746)|((with_reducible refine gate_callee (f:=64) rfl ?_);refine gl_ (some 7) Tryz.func64 #[.agg #[.bool a0_0,.string a0_1,.int .i64 a0_2]] ?_;(with_reducible refine(dec_Dec_Norm.calls _ _ _ _ _ _ _ _ A2.out).mono ?_);rintro e w8 ⟨rfl,hb⟩;refine⟨_,rfl,?_⟩;replace BK746:=bb_ BK746 hb;replace HB:=am_ (below_step (bl_ HB).out hb);(try clear hb);obtain⟨hcz9_0,hcz9_1,hcz9_2,hfz9_0,hfz9_1,hfz9_2⟩:=bo3_ BK746))
  obtain⟨w10,hWz1⟩:∃W_,W_=(((w8.setCell ⟨gb746,0,none⟩ (.bool t747)).setCell ⟨gb746,1,none⟩ (.string t748)).setCell ⟨gb746,2,none⟩ (.int .i64 t749)):=⟨_,rfl⟩
  have n0_:Aside0 (w10.heap[gb746]? = some (.cells #[.bool t747,.string t748,.int .i64 t749] 97 (0,0))):=by rw[hWz1];exact⟨(bp_ BK746).out⟩
  have n1_:=wb_ hWz1 (bl_ HB)
  (try clear BK746)
  (try clear HB)
  rw[← hWz1]
  clear hWz1
  revert n0_ n1_
  intro BK746 HB
  replace BK746:=am_ (blk_drew BK746.out)
  replace HB:=am_ (below_drew1 HB.out)
  refine start_ (n:=8) (S:=fun w'=>w'.cell? ⟨gb746,0,none⟩=some (.bool t747)∧w'.cell? ⟨gb746,1,none⟩=some (.string t748)∧w'.cell? ⟨gb746,2,none⟩=some (.int .i64 t749)) (ds:=[]) #[false,false,false,false,false,false,false,false] (by kernel_rfl) rfl rfl ⟨bc_ BK746 0,bc_ BK746 1,bc_ BK746 2⟩ (fun hHeld=>?_);refine with_tabW dec_Dec_Parts.tab3 dec_Dec_Parts.bits3 (fun HT_ HW_=>?_)
  generalize w10.drew=w11 at BK746 HB hHeld ⊢
  refine pu_ 0 11 #[true,false,false,false,false,false,false,false] HT_ ?_
  refine pu_ 2 13 #[true,false,true,false,false,false,false,false] HT_ ?_
  refine tk_ 1 12 #[true,true,true,false,false,false,false,false] HT_ HW_ hHeld rfl (by rintro w' ⟨s0,s1,s2⟩;go_simp;with_reducible rfl) ?_
  refine tk_ 3 14 #[true,true,true,true,false,false,false,false] HT_ HW_ hHeld rfl (by rintro w' ⟨s0,s1,s2⟩;go_simp;with_reducible rfl) ?_
  refine one_ (i:=4) (N:=some 15) #[true,true,true,true,true,false,false,false] rfl rfl (one_of HT_.out (by kernel_rfl)) (by decide) (fun K hK=>?_)
  refine gs_ Tryz.func24 #[.int .i64 t749] ?_
  with_reducible refine(num_Zeros.calls _ _ _ A4.out).mono ?_
  rintro e w12 ⟨rfl,hb⟩
  refine⟨_,rfl,?_⟩
  replace BK746:=bb_ BK746 hb
  replace HB:=am_ (below_step (bl_ HB).out hb)
  (try clear hb)
  (try clear hb2)
  (try clear hk)
  (try clear hi)
  refine hK.out _ _ ⟨bc_ BK746 0,bc_ BK746 1,bc_ BK746 2⟩ (fun hHeld=>?_)
  clear hK K
  refine nm_ 15 ?_
  refine pu_ 5 16 #[true,true,true,true,true,true,false,false] HT_ ?_
  refine pu_ 6 2 #[true,true,true,true,true,true,true,false] HT_ ?_
  refine pu_ 7 3 #[true,true,true,true,true,true,true,true] HT_ ?_
  refine done_ (done_of HT_.out (by kernel_rfl)) ?_
  try go_wp2
  go_ret2
  exact⟨ew_,(bl_ HB).out⟩
 rw[if_neg c3] at H
 have c3b0:decide (0≤t749)=false:=decide_eq_false c3
 clear c3
 replace H:=Option.bind_eq_some_iff.mp H
 obtain⟨t751,A130,H⟩:=H
 have A13:=am_ A130
 clear A130
 replace H:=ifn_ H
 obtain⟨c14,H⟩:=H
 have c14b0:=eq_true c14
 have c14b1:decide (t751.size+t748.size≤9223372036854775807)=true:=decide_eq_true c14
 try have c14b2:=eq_false (Nat.not_lt.2 c14)
 obtain⟨ji15,hji15⟩:∃j_:Int,(wrap64 (((t751++t748).size:Int)+t749))=j_:=⟨_,rfl⟩
 replace H:(if 0≤(ji15) then (if (ji15)≤((t751++t748).size:Int) then ((num_Trim.f k ((t751++t748).extract 0 ((ji15):Int).toNat)).bind fun t752=>(some (t752,(t751++t748).extract ((ji15):Int).toNat (t751++t748).size))) else (none)) else (none))=some (r1,r2):=by first|(rw[hji15] at H;exact H)|(simp only[hji15] at H ⊢;exact H)
 (try rw[hji15] at A2)
 (try rw[hji15] at A13)
 have hji15w:(IntKind.i64.wrap (((t751++t748).size:Int)+t749))=ji15:=(i64_w _).trans hji15
 try (have hji15s:=hji15;simp only[ByteArray.size_append,Int.natCast_add] at hji15s)
 try (have hji15s:=hji15;simp only[ByteArray.size_append,Int.natCast_add] at hji15s)
 replace H:=ifn_ H
 obtain⟨c16,H⟩:=H
 have c16b0:=eq_true c16
 have c16b1:decide (0≤(ji15))=true:=decide_eq_true c16
 clear c16
 replace H:=ifn_ H
 obtain⟨c17,H⟩:=H
 have c17b0:=eq_true c17
 have c17b1:decide ((ji15)≤((t751++t748).size:Int))=true:=decide_eq_true c17
 try (have c17b5:=c17b0;simp only[ByteArray.size_append,Int.natCast_add] at c17b5)
 replace H:=Option.bind_eq_some_iff.mp H
 obtain⟨t752,A180,H⟩:=H
 have A18:=am_ A180
 clear A180
 have c19b0:=eq_true (od_:0≤(ji15))
 have c20b0:=eq_true (od_:(ji15)≤((t751++t748).size:Int))
 simp only[Option.some.injEq,Prod.mk.injEq] at H
 obtain⟨rfl,rfl⟩:=H
 go_enter Tryz.func43,Tryz.ntmps43
 try go_wp2_with (first|((with_reducible refine gate_dst (N:=1) rfl ?_);refine be_ 1 #[.bool a0_0,.string a0_1,.int .i64 a0_2] 97 ?_;intro gb746 hg w21 hbox hb;have BK746:=am_ (hbox);have GW746:=sz_ HB hg;have GE746:=sz_ HB hg;replace HB:=am_ (below_step (bl_ HB).out hb);clear hb hbox hg;obtain⟨hcz22_0,hcz22_1,hcz22_2,hfz22_0,hfz22_1,hfz22_2⟩:=bo3_ BK746)|((with_reducible refine gate_callee (f:=64) rfl ?_);refine gl_ (some 7) Tryz.func64 #[.agg #[.bool a0_0,.string a0_1,.int .i64 a0_2]] ?_;(with_reducible refine(dec_Dec_Norm.calls _ _ _ _ _ _ _ _ A2.out).mono ?_);rintro e w23 ⟨rfl,hb⟩;refine⟨_,rfl,?_⟩;replace BK746:=bb_ BK746 hb;replace HB:=am_ (below_step (bl_ HB).out hb);(try clear hb);obtain⟨hcz24_0,hcz24_1,hcz24_2,hfz24_0,hfz24_1,hfz24_2⟩:=bo3_ BK746))
 obtain⟨w25,hWz2⟩:∃W_,W_=(((w23.setCell ⟨gb746,0,none⟩ (.bool t747)).setCell ⟨gb746,1,none⟩ (.string t748)).setCell ⟨gb746,2,none⟩ (.int .i64 t749)):=⟨_,rfl⟩
 have n0_:Aside0 (w25.heap[gb746]? = some (.cells #[.bool t747,.string t748,.int .i64 t749] 97 (0,0))):=by rw[hWz2];exact⟨(bp_ BK746).out⟩
 have n1_:=wb_ hWz2 (bl_ HB)
 (try clear BK746)
 (try clear HB)
 rw[← hWz2]
 clear hWz2
 revert n0_ n1_
 intro BK746 HB
 replace BK746:=am_ (blk_drew BK746.out)
 replace HB:=am_ (below_drew1 HB.out)
 refine start_ (n:=12) (S:=fun w'=>w'.cell? ⟨gb746,0,none⟩=some (.bool t747)∧w'.cell? ⟨gb746,1,none⟩=some (.string t748)∧w'.cell? ⟨gb746,2,none⟩=some (.int .i64 t749)) (ds:=[]) #[false,false,false,false,false,false,false,false,false,false,false,false] (by kernel_rfl) rfl rfl ⟨bc_ BK746 0,bc_ BK746 1,bc_ BK746 2⟩ (fun hHeld=>?_);refine with_tabW dec_Dec_Parts.tab4 dec_Dec_Parts.bits4 (fun HT_ HW_=>?_)
 generalize w25.drew=w26 at BK746 HB hHeld ⊢
 refine pu_ 0 17 (bm_ 12 1) HT_ ?_
 refine pu_ 3 20 (bm_ 12 9) HT_ ?_
 refine pu_ 8 25 (bm_ 12 265) HT_ ?_
 refine tk_ 1 18 (bm_ 12 267) HT_ HW_ hHeld rfl (by rintro w' ⟨s0,s1,s2⟩;go_simp;with_reducible rfl) ?_
 refine pu_ 2 19 (bm_ 12 271) HT_ ?_
 refine tk_ 4 21 (bm_ 12 287) HT_ HW_ hHeld rfl (by rintro w' ⟨s0,s1,s2⟩;go_simp;with_reducible rfl) ?_
 refine pu_ 5 22 (bm_ 12 319) HT_ ?_
 refine pu_ 6 23 (bm_ 12 383) HT_ ?_
 refine tk_ 9 26 (bm_ 12 895) HT_ HW_ hHeld rfl (by rintro w' ⟨s0,s1,s2⟩;go_simp;with_reducible rfl) ?_
 refine one_ (i:=7) (N:=some 24) (bm_ 12 1023) rfl rfl (one_of HT_.out (by kernel_rfl)) (by decide) (fun K hK=>?_)
 refine gs_ Tryz.func24 #[.int .i64 (wrap64 ((wrap64 (-t749))-(t748.size:Int)))] ?_
 with_reducible refine(num_Zeros.calls (wrap64 ((wrap64 (-t749))-(t748.size:Int))) t751 _ A13.out).mono ?_
 rintro e w27 ⟨rfl,hb⟩
 refine⟨_,rfl,?_⟩
 replace BK746:=bb_ BK746 hb
 replace HB:=am_ (below_step (bl_ HB).out hb)
 (try clear hb)
 (try clear hb2)
 (try clear hk)
 (try clear hi)
 refine hK.out _ _ ⟨bc_ BK746 0,bc_ BK746 1,bc_ BK746 2⟩ (fun hHeld=>?_)
 clear hK K
 refine nm_ 24 ?_
 refine pu_ 10 27 (bm_ 12 2047) HT_ ?_
 refine pu_ 11 4 (bm_ 12 4095) HT_ ?_
 refine done_ (done_of HT_.out (by kernel_rfl)) ?_
 obtain⟨hcz28_0,hcz28_1,hcz28_2,hfz28_0,hfz28_1,hfz28_2⟩:=bo3_ BK746
 try go_wp2
 replace BK746:=am_ (blk_drew BK746.out)
 replace HB:=am_ (below_drew1 HB.out)
 refine start_ (n:=9) (S:=fun w'=>True) (ds:=[]) #[false,false,false,false,false,false,false,false,false] (by kernel_rfl) rfl rfl trivial (fun hHeld=>?_);refine with_tabW dec_Dec_Parts.tab6 dec_Dec_Parts.bits6 (fun HT_ HW_=>?_)
 generalize w27.drew=w29 at BK746 HB hHeld ⊢
 refine pu_ 0 33 #[true,false,false,false,false,false,false,false,false] HT_ ?_
 refine pu_ 1 34 #[true,true,false,false,false,false,false,false,false] HT_ ?_
 refine pu_ 2 35 #[true,true,true,false,false,false,false,false,false] HT_ ?_
 refine pu_ 4 37 #[true,true,true,false,true,false,false,false,false] HT_ ?_
 refine pu_ 5 38 #[true,true,true,false,true,true,false,false,false] HT_ ?_
 refine pu_ 6 39 #[true,true,true,false,true,true,true,false,false] HT_ ?_
 refine one_ (i:=3) (N:=some 36) #[true,true,true,true,true,true,true,false,false] rfl rfl (one_of HT_.out (by kernel_rfl)) (by decide) (fun K hK=>?_)
 refine goes_ Tryz.func25 (by kernel_rfl) rfl #[.string ((t751++t748).extract 0 ((ji15):Int).toNat)] (by rfl) rfl rfl (by (try simp only[List.map_toArray,List.map_cons,List.map_nil]);first|done|(simp only[hji15];rfl)|rfl|(simp only[List.length_drop,List.length_take];rfl)|(have z_:∀s_:ByteArray,s_.size≤9223372036854775807→ -(s_.size:Int)=wrap64 (-(s_.size:Int)):=(fun s_ h_=>by unfold wrap64;omega);rw[← z_ _ (by omega)];rfl)|(simp only[ByteArray.size_append];rfl)) ?_
 with_reducible refine(num_Trim.calls _ _ _ _ A18.out).mono ?_
 rintro e w' ⟨rfl,⟨nd,rfl⟩⟩
 refine⟨_,rfl,?_⟩
 refine hK.out _ _ trivial (fun hHeld=>?_)
 clear hK K
 refine nm_ 36 ?_
 refine pu_ 7 2 #[true,true,true,true,true,true,true,true,false] HT_ ?_
 refine pu_ 8 3 #[true,true,true,true,true,true,true,true,true] HT_ ?_
 refine done_ (done_of HT_.out (by kernel_rfl)) ?_
 try go_wp2
 go_ret2
 exact⟨by first|rfl|(simp[errW_none,errW_some] <;> rfl)|(simp only[← hji15];first|rfl|(simp[errW_none,errW_some] <;> rfl))|(simp[*,errW_none,errW_some] <;> first|rfl|exact given_isEmpty _|exact(given_isEmpty _).symm),by repeat(first|(with_reducible first|exact HB.out|apply below_alloc|apply pw_below_drewN|apply below_drew1|refine below_set ?_ GE746.out)|exact HB.out)⟩

def num_all.l0:Nat→List ByteArray→Int→Int→Option (Bool)
 | 0,_,_,_=>none
 | k+1,x5,x6,x7=>if x7<x6 then (if 0≤x7 then (if x7<(x5.length:Int) then ((num_Is.f k (rdOf ByteArray.empty x5 x7)).bind fun t754=>(if t754=true then (num_all.l0 k x5 x6 (wrap64 (x7+1))) else (some false))) else (none)) else (none)) else (some true)
def num_all.f (k:Nat) (l0:List ByteArray):Option (Bool):=num_all.l0 k l0 (l0.length:Int) 0
theorem num_all.calls (k:Nat) (A0:Option Addr) (c0:Nat) (l0:List ByteArray) (r:Bool) (w:World) (hr0:Kd.C Kd.string w A0 l0.length l0) (hc0:l0.length≤c0) (h:num_all.f k l0=some r) :
  Calls Tryz.prog 37 #[.slice A0 l0.length c0] w fun e w'=>e= .returned (.bool r)∧Drawn0 w w':=by
 have HR0:=am_ hr0
 have HC0:=am_ hc0
 clear hr0 hc0
 have H:=h
 clear h
 unfold num_all.f at H
 have H':=am_ H
 clear H
 go_enter Tryz.func37,Tryz.ntmps37
 go_wp2
 go_loopg [7] k (fun kq v7 w'=>∃(x7_1:Int),v7= .int .i64 x7_1∧Aside0 (num_all.l0 kq l0 (l0.length:Int) x7_1=some r)∧Aside0 (kq≤k)∧Drawn0 w w')
 case atStart=>exact⟨(0),eq_,H',⟨Nat.le_refl _⟩,by repeat(first|exact Drawn0.refl _|apply Drawn0.step)⟩
 clear H'
 obtain⟨x7_1,rfl,HA,HK1,⟨m1,rfl⟩⟩:=hrel
 cases gk with
 | zero=>exact absurd HA.out (by simp[num_all.l0])
 | succ k1=>?_
 have H:=HA.out
 clear HA
 simp only[num_all.l0] at H
 by_cases c2:x7_1<(l0.length:Int)
 ·rw[if_pos c2] at H
  have c2b0:=decide_eq_true c2
  clear c2
  replace H:=ifn_ H
  obtain⟨c3,H⟩:=H
  have c3b0:decide (0≤x7_1)=true:=decide_eq_true c3
  clear c3
  replace H:=ifn_ H
  obtain⟨c4,H⟩:=H
  have c4b0:decide (x7_1<(l0.length:Int))=true:=decide_eq_true c4
  clear c4
  replace H:=Option.bind_eq_some_iff.mp H
  obtain⟨t754,A50,H⟩:=H
  have A5:=am_ A50
  clear A50
  by_cases c6:t754=true
  ·subst c6
   rw[if_pos rfl] at H
   have H':=am_ H
   clear H
   have p753:0≤(x7_1:Int):=od_
   have q753:x7_1<(l0.length:Int):=od_
   obtain⟨ad753,e753,hx753_0⟩:=Kd.at_string HR0.out x7_1 p753 q753
   cases e753
   replace p753:=eq_true p753
   replace q753:=eq_true q753
   go_wp2_with (first|((with_reducible refine gate_callee (f:=40) rfl ?_);refine gl_ (some 12) Tryz.func40 #[.string (rdOf ByteArray.empty l0 x7_1)] ?_;(with_reducible refine(num_Is.calls _ _ _ _ A5.out).mono ?_);rintro e w' ⟨rfl,⟨nd,rfl⟩⟩;refine⟨_,rfl,?_⟩))
   go_roundg k1
   case measure=>have:=HK1.out;omega
   case rel=>exact⟨(wrap64 (x7_1+1)),eq_,H',⟨by have:=HK1.out;omega⟩,by repeat(first|exact Drawn0.refl _|apply Drawn0.step)⟩
  replace c6:=Bool.eq_false_iff.mpr c6
  subst c6
  rw[if_neg (show ¬(false=true) by decide)] at H
  obtain rfl:=Option.some.inj H
  have p753:0≤(x7_1:Int):=od_
  have q753:x7_1<(l0.length:Int):=od_
  obtain⟨ad753,e753,hx753_0⟩:=Kd.at_string HR0.out x7_1 p753 q753
  cases e753
  replace p753:=eq_true p753
  replace q753:=eq_true q753
  go_wp2_with (first|((with_reducible refine gate_callee (f:=40) rfl ?_);refine gl_ (some 12) Tryz.func40 #[.string (rdOf ByteArray.empty l0 x7_1)] ?_;(with_reducible refine(num_Is.calls _ _ _ _ A5.out).mono ?_);rintro e w' ⟨rfl,⟨nd,rfl⟩⟩;refine⟨_,rfl,?_⟩))
  go_ret
  exact⟨by first|rfl|(simp;done)|(simp[*];done)|(simp;first|exact given_isEmpty _|exact(given_isEmpty _).symm)|(unfold wrap64;omega)|(congr 1;unfold wrap64;omega),by repeat(first|exact Drawn0.refl _|apply Drawn0.step)⟩
 rw[if_neg c2] at H
 have c2b0:=decide_eq_false c2
 clear c2
 obtain rfl:=Option.some.inj H
 go_wp2
 go_ret
 exact⟨by first|rfl|(simp;done)|(simp[*];done)|(simp;first|exact given_isEmpty _|exact(given_isEmpty _).symm)|(unfold wrap64;omega)|(congr 1;unfold wrap64;omega),by repeat(first|exact Drawn0.refl _|apply Drawn0.step)⟩

def num_at.f (a0:ByteArray) (a1:Int):Option (Int):=if a1≥(a0.size:Int) then (some 0) else (if 0≤(wrap64 ((wrap64 ((a0.size:Int)-1))-a1)) then (if (wrap64 ((wrap64 ((a0.size:Int)-1))-a1))<(a0.size:Int) then (some (((bt a0 (wrap64 ((wrap64 ((a0.size:Int)-1))-a1)))-48)%256)) else (none)) else (none))
theorem num_at.calls (a0:ByteArray) (a1:Int) (r:Int) (w:World) (h:num_at.f a0 a1=some r) :
    Calls Tryz.prog 38 #[.string a0,.int .i64 a1] w fun e w'=>e= .returned (.int .i64 r)∧Drawn0 w w':=by
  have H:=h
  clear h
  unfold num_at.f at H
  by_cases c3:a1≥(a0.size:Int)
  · rw[if_pos c3] at H
    have c3b0:decide ((a0.size:Int)≤a1)=true:=decide_eq_true c3
    clear c3
    obtain rfl:=Option.some.inj H
    go_enter Tryz.func38,Tryz.ntmps38
    go_wp2
    go_ret
    exact⟨by first|rfl|(simp;done)|(simp[*];done)|(simp;first|exact given_isEmpty _|exact(given_isEmpty _).symm)|(unfold wrap64;omega)|(congr 1;unfold wrap64;omega),by repeat(first|exact Drawn0.refl _|apply Drawn0.step)⟩
  rw[if_neg c3] at H
  have c3b0:decide ((a0.size:Int)≤a1)=false:=decide_eq_false c3
  clear c3
  obtain⟨ji4,hji4⟩:∃j_:Int,(wrap64 ((wrap64 ((a0.size:Int)-1))-a1))=j_:=⟨_,rfl⟩
  replace H:(if 0≤(ji4) then (if (ji4)<(a0.size:Int) then (some (((bt a0 (ji4))-48)%256)) else (none)) else (none))=some r:=by first|(rw[hji4] at H;exact H)|(simp only[hji4] at H ⊢;exact H)
  have hji4w:(IntKind.i64.wrap ((wrap64 ((a0.size:Int)-1))-a1))=ji4:=(i64_w _).trans hji4
  replace H:=ifn_ H
  obtain⟨c5,H⟩:=H
  have c5b0:decide (0≤(ji4))=true:=decide_eq_true c5
  clear c5
  replace H:=ifn_ H
  obtain⟨c6,H⟩:=H
  have c6b0:decide ((ji4)<(a0.size:Int))=true:=decide_eq_true c6
  clear c6
  obtain rfl:=Option.some.inj H
  have p7:0≤((ji4):Int):=od_
  have q7:(ji4)<(a0.size:Int):=od_
  have hx7:=bt_at a0 (ji4)
  replace p7:=eq_true p7
  replace q7:=eq_true q7
  go_enter Tryz.func38,Tryz.ntmps38
  go_wp2
  go_ret
  exact⟨by first|rfl|(simp;done)|(simp only[← hji4] <;> (first|rfl|simp))|(simp[*];done),by repeat(first|exact Drawn0.refl _|apply Drawn0.step)⟩

mutual
def num_Add.l0:Nat→ByteArray→ByteArray→List Int→Int→Int→Option (ByteArray)
 | 0,_,_,_,_,_=>none
 | k+1,x0,x1,x5,x6,x7=>if x7<(mx (x0.size:Int) (x1.size:Int)) then (num_Add.j1 k x0 x1 x5 x6 x7 true) else (num_Add.j1 k x0 x1 x5 x6 x7 (decide (x6>0)))
def num_Add.j1:Nat→ByteArray→ByteArray→List Int→Int→Int→Bool→Option (ByteArray)
 | 0,_,_,_,_,_,_=>none
 | k+1,x0,x1,x5,x6,x7,x24=>if x24=true then ((num_at.f x0 x7).bind fun t759=>((num_at.f x1 x7).bind fun t760=>(if x5.length<140737488355328 then (num_Add.l0 k x0 x1 (x5++[(48+(Int.tmod (wrap64 ((wrap64 (t759+t760))+x6)) 10))%256]) (wrap64 (Int.tdiv (wrap64 ((wrap64 (t759+t760))+x6)) 10)) (wrap64 (x7+1))) else (none)))) else ((num_text.f k x5).bind fun t764=>(some t764))
end
def num_Add.f (k:Nat) (a0:ByteArray) (a1:ByteArray):Option (ByteArray):=(num_all.f k (([a0,a1]:List ByteArray))).bind fun t758=>(if t758=true then (num_Add.l0 k a0 a1 ([]:List Int) 0 0) else (some (⟨#[]⟩:ByteArray)))
theorem num_Add.calls (k:Nat) (a0:ByteArray) (a1:ByteArray) (r:ByteArray) (w:World) (h:num_Add.f k a0 a1=some r) :
  Calls Tryz.prog 17 #[.string a0,.string a1] w fun e w'=>e= .returned (.string r)∧Below w.heap.size w w':=by
 have HB:=am_ (Below.refl w.heap.size w)
 have H:=h
 clear h
 unfold num_Add.f at H
 obtain⟨y755,hy755⟩:∃y_:List ByteArray,y_=(([a0,a1]:List ByteArray)):=⟨_,rfl⟩
 replace H:((num_all.f k y755).bind fun t758=>(if t758=true then (num_Add.l0 k a0 a1 ([]:List Int) 0 0) else (some (⟨#[]⟩:ByteArray))))=some r:=by first|(rw[hy755];with_reducible exact H)|(have H2_:=(Option.bind_some _ _).symm.trans H;rw[hy755];with_reducible exact H2_)|(have H2_:=(Option.bind_some _ _).symm.trans H;with_reducible exact H2_)|with_reducible exact H|(rw[hy755];exact H)|exact H
 have Ny755:=am_ hy755
 clear hy755
 replace H:=Option.bind_eq_some_iff.mp H
 obtain⟨t758,A30,H⟩:=H
 have A3:=am_ A30
 clear A30
 by_cases c4:t758=true
 ·subst c4
  rw[if_pos rfl] at H
  have H':=am_ H
  clear H
  go_enter Tryz.func17,Tryz.ntmps17
  go_wp2_with (first|((with_reducible refine gate_dst (N:=11) rfl ?_);refine Kd.R_lit Kd.string _ 9 ?hg (N:=11) ?hd (xs:=([a0,a1]:List ByteArray)) (inner:=[.string a0,.string a1]) (ok:=fun _=>True) (okp:=fun _=>True) ?hr ?hp (fun _ hk=>hk) trivial (Below.refl _ _) (Nat.le_refl _) (by simp) ?_;(case hd=>rfl);(case hg=>rfl);(case hr=>first|(go_simp;done)|(go_simp;rfl));(case hp=>exact(Reps.one (show Kd.M Kd.string _ _ _ a0 [.string a0] from rfl) (Reps.one (show Kd.M Kd.string _ _ _ a1 [.string a1] from rfl) (Reps.none _ _))));intro v756 w5 ho6 hb hg_ hnew_;clear hg_ hnew_;(first|rw[← Ny755.out] at ho6|(simp only[Int.reduceToNat] at ho6;rw[← Ny755.out] at ho6));have HO757:=am_ (Kd.R_lower ho6 (below_size (bl_ HB).out));replace HB:=am_ (below_step (bl_ HB).out hb);clear hb ho6;obtain⟨Ao7,co7,eo7⟩:=Kd.R_slice HO757.out;subst eo7)|((with_reducible refine gate_callee (f:=37) rfl ?_);refine gl_ (some 12) Tryz.func37 #[.slice Ao7 y755.length co7] ?_;(with_reducible refine(num_all.calls _ _ _ _ _ _ ?side1 ?side2 A3.out).mono ?_);(case side1=>exact kc_ HO757);(case side2=>exact kl_ HO757);rintro e w' ⟨rfl,⟨nd,rfl⟩⟩;refine⟨_,rfl,?_⟩))
  go_loopg [5,6,7] k (fun kq v5 v6 v7 w'=>∃(x5_1:List Int) (x6_1:Int) (x7_1:Int),v6= .int .i64 x6_1∧v7= .int .i64 x7_1∧Aside0 (num_Add.l0 kq a0 a1 x5_1 x6_1 x7_1=some r)∧Aside0 (kq≤k)∧Aside0 (Kd.R (Kd.int .u8) 5 w' w.heap.size (fun _=>True) v5 x5_1)∧Aside0 (Below w.heap.size w w'))
  case atStart=>exact⟨(([]:List Int)),(0),(0),eq_,eq_,H',⟨Nat.le_refl _⟩,⟨by first|exact Kd.R_nil _ _ _ _ _|exact Kd.N_nil _ _ _ _ _|exact Kd.V_nil _ _ _ _ _|exact Kd.Q_nil _ _ _ _ _|exact Kd.S_nil _ _ _ _ _⟩,(bl_ HB)⟩
  clear H'
  obtain⟨x5_1,x6_1,x7_1,rfl,rfl,HA,HK1,HO_5,HB⟩:=hrel
  cases gk with
  | zero=>exact absurd HA.out (by simp[num_Add.l0])
  | succ k1=>?_
  have H:=HA.out
  clear HA
  simp only[num_Add.l0] at H
  have HC8:=am_ H
  clear H
  go_upto_region 6 with (fail)
  go_cut [24] (fun v24 wc=>∃(kq:Nat) (x24_7:Bool),v24= .bool x24_7∧Aside0 (num_Add.j1 kq a0 a1 x5_1 x6_1 x7_1 x24_7=some r)∧Aside0 (kq≤k1)∧Aside0 (Kd.R (Kd.int .u8) 5 wc w.heap.size (fun _=>True) u5 x5_1)∧Aside0 (Below w.heap.size w wc))
  case first =>
   have H:=HC8.out
   clear HC8
   obtain⟨ji9,hji9⟩:∃j_:Int,(mx (a0.size:Int) (a1.size:Int))=j_:=⟨_,rfl⟩
   replace H:(if x7_1<(ji9) then (num_Add.j1 k1 a0 a1 x5_1 x6_1 x7_1 true) else (num_Add.j1 k1 a0 a1 x5_1 x6_1 x7_1 (decide (x6_1>0))))=some r:=by first|(rw[hji9] at H;exact H)|(simp only[hji9] at H ⊢;exact H)
   have hji9_:(if (a0.size:Int)<(a1.size:Int) then (a1.size:Int) else (a0.size:Int))=ji9:=hji9
   have hji9n:(if a0.size<a1.size then (a1.size:Int) else (a0.size:Int))=ji9:=by have h_:=hji9_;simp only[Int.ofNat_lt] at h_;exact h_
   by_cases c10:x7_1<(ji9)
   ·rw[if_pos c10] at H
    have c10b0:=decide_eq_true c10
    clear c10
    (first|rw[c10b0]|(simp only[i64_w,i32_w];rw[c10b0])|skip)
    have H':=am_ H
    clear H
    go_wp2
    go_meet
    case rel=>first|(exact⟨_,(true),eq_,(by first|exact H'|(rw[hji9];exact H')|(simp only[hji9];exact H')),⟨by have:=HK1.out;first|omega|exact Nat.le_refl _⟩,⟨kdR_ HO_5.out⟩,(bl_ HB)⟩)|(rw[← hji9] at H';exact⟨_,(true),eq_,(by first|exact H'|(rw[hji9];exact H')|(simp only[hji9];exact H')),⟨by have:=HK1.out;first|omega|exact Nat.le_refl _⟩,⟨kdR_ HO_5.out⟩,(bl_ HB)⟩)
   rw[if_neg c10] at H
   have c10b0:=decide_eq_false c10
   clear c10
   (first|rw[c10b0]|(simp only[i64_w,i32_w];rw[c10b0])|skip)
   have H':=am_ H
   clear H
   go_wp2
   go_meet
   case rel=>first|(exact⟨_,(decide (x6_1>0)),eq_,(by first|exact H'|(rw[hji9];exact H')|(simp only[hji9];exact H')),⟨by have:=HK1.out;first|omega|exact Nat.le_refl _⟩,⟨kdR_ HO_5.out⟩,(bl_ HB)⟩)|(rw[← hji9] at H';exact⟨_,(decide (x6_1>0)),eq_,(by first|exact H'|(rw[hji9];exact H')|(simp only[hji9];exact H')),⟨by have:=HK1.out;first|omega|exact Nat.le_refl _⟩,⟨kdR_ HO_5.out⟩,(bl_ HB)⟩)
  clear HC8
  obtain⟨kq,x24_7,rfl,HA,HJ7,HO_5,HB⟩:=hcut
  cases kq with
  | zero=>exact absurd HA.out (by simp[num_Add.j1])
  | succ kj7=>?_
  have H:=HA.out
  clear HA
  simp only[num_Add.j1] at H
  by_cases c11:x24_7=true
  ·subst c11
   rw[if_pos rfl] at H
   replace H:=Option.bind_eq_some_iff.mp H
   obtain⟨t759,A120,H⟩:=H
   have A12:=am_ A120
   clear A120
   replace H:=Option.bind_eq_some_iff.mp H
   obtain⟨t760,A130,H⟩:=H
   have A13:=am_ A130
   clear A130
   replace H:=ifn_ H
   obtain⟨c14,H⟩:=H
   have LMc14:=am_ c14
   clear c14
   obtain⟨y761,hy761⟩:∃y_:List Int,y_=(x5_1++[(48+(Int.tmod (wrap64 ((wrap64 (t759+t760))+x6_1)) 10))%256]):=⟨_,rfl⟩
   replace H:(num_Add.l0 kj7 a0 a1 y761 (wrap64 (Int.tdiv (wrap64 ((wrap64 (t759+t760))+x6_1)) 10)) (wrap64 (x7_1+1)))=some r:=by first|(rw[hy761];with_reducible exact H)|(have H2_:=(Option.bind_some _ _).symm.trans H;rw[hy761];with_reducible exact H2_)|(have H2_:=(Option.bind_some _ _).symm.trans H;with_reducible exact H2_)|with_reducible exact H|(rw[hy761];exact H)|exact H
   have Ny761:=am_ hy761
   clear hy761
   have H':=am_ H
   clear H
   go_wp2_with (first|((with_reducible refine gate_callee (f:=38) rfl ?_);refine gl_ (some 29) Tryz.func38 #[.string a0,.int .i64 x7_1] ?_;(with_reducible refine(num_at.calls _ _ _ _ A12.out).mono ?_);rintro e w' ⟨rfl,⟨nd,rfl⟩⟩;refine⟨_,rfl,?_⟩)|((with_reducible refine gate_callee (f:=38) rfl ?_);refine gl_ (some 32) Tryz.func38 #[.string a1,.int .i64 x7_1] ?_;(with_reducible refine(num_at.calls _ _ _ _ A13.out).mono ?_);rintro e w' ⟨rfl,⟨nd,rfl⟩⟩;refine⟨_,rfl,?_⟩)|((with_reducible refine gate_builtin (b:= .append) (xs:= #[.tmp 36,.tmp 41]) rfl ?_);at_builtin;refine Kd.R_append (Kd.int .u8) (w0:=w) w.heap.size rfl (.tmp 36) (.tmp 41) 23 5 (.int .u8 0) 1 rfl Tryz.underlying23 info5 rfl (by decide) (by omega) u5 x5_1 ((48+(Int.tmod (wrap64 ((wrap64 (t759+t760))+x6_1)) 10))%256) [.int .u8 ((48+(Int.tmod (wrap64 ((wrap64 (t759+t760))+x6_1)) 10))%256)] (fun _=>True) (fun _=>False) rfl rfl ?aP (fun _ hk=>hk.elim) ?aF ?aO ?aB ?aS ?aL ?_;(case aP=>exact rfl);(case aB=>exact(bl_ HB).out);(case aF=>exact(fun _ _=>trivial));(case aO=>exact(kr_ HO_5));(case aS=>exact(below_size (bl_ HB).out));(case aL=>have:=LMc14.out;omega);intro v762 w15 ho hb hg hat;rw[← Ny761.out] at ho;have n0_:=am_ (hb);have n1_:=am_ (ho);clear HB;clear HO_5;revert n0_ n1_;intro HB HO763;clear ho hb hg hat))
   go_roundg kj7
   case measure=>have:=HK1.out;have:=HJ7.out;omega
   case rel=>exact⟨(y761),(wrap64 (Int.tdiv (wrap64 ((wrap64 (t759+t760))+x6_1)) 10)),(wrap64 (x7_1+1)),eq_,eq_,H',⟨by have:=HK1.out;have:=HJ7.out;omega⟩,⟨kdR_ HO763.out⟩,(bl_ HB)⟩
  replace c11:=Bool.eq_false_iff.mpr c11
  subst c11
  rw[if_neg (show ¬(false=true) by decide)] at H
  replace H:=Option.bind_eq_some_iff.mp H
  obtain⟨t764,A160,H⟩:=H
  have A16:=am_ A160
  clear A160
  obtain rfl:=Option.some.inj H
  obtain⟨Ao17,co17,eo17⟩:=Kd.R_slice HO_5.out
  subst eo17
  go_wp2_with (first|((with_reducible refine gate_callee (f:=39) rfl ?_);refine gl_ (some 46) Tryz.func39 #[.slice Ao17 x5_1.length co17] ?_;(with_reducible refine(num_text.calls _ _ _ _ _ _ ?side1 ?side2 A16.out).mono ?_);(case side1=>exact kc_ HO_5);(case side2=>exact kl_ HO_5);rintro e w18 ⟨rfl,hb⟩;refine⟨_,rfl,?_⟩;replace HO_5:=kb_ HO_5 hb;replace HB:=am_ (below_step (bl_ HB).out hb);(try clear hb);(try clear hi)))
  go_ret
  exact⟨ew_,(bl_ HB).out⟩
 replace c4:=Bool.eq_false_iff.mpr c4
 subst c4
 rw[if_neg (show ¬(false=true) by decide)] at H
 obtain rfl:=Option.some.inj H
 go_enter Tryz.func17,Tryz.ntmps17
 go_wp2_with (first|((with_reducible refine gate_dst (N:=11) rfl ?_);refine Kd.R_lit Kd.string _ 9 ?hg (N:=11) ?hd (xs:=([a0,a1]:List ByteArray)) (inner:=[.string a0,.string a1]) (ok:=fun _=>True) (okp:=fun _=>True) ?hr ?hp (fun _ hk=>hk) trivial (Below.refl _ _) (Nat.le_refl _) (by simp) ?_;(case hd=>rfl);(case hg=>rfl);(case hr=>first|(go_simp;done)|(go_simp;rfl));(case hp=>exact(Reps.one (show Kd.M Kd.string _ _ _ a0 [.string a0] from rfl) (Reps.one (show Kd.M Kd.string _ _ _ a1 [.string a1] from rfl) (Reps.none _ _))));intro v756 w19 ho20 hb hg_ hnew_;clear hg_ hnew_;(first|rw[← Ny755.out] at ho20|(simp only[Int.reduceToNat] at ho20;rw[← Ny755.out] at ho20));have HO757:=am_ (Kd.R_lower ho20 (below_size (bl_ HB).out));replace HB:=am_ (below_step (bl_ HB).out hb);clear hb ho20;obtain⟨Ao21,co21,eo21⟩:=Kd.R_slice HO757.out;subst eo21)|((with_reducible refine gate_callee (f:=37) rfl ?_);refine gl_ (some 12) Tryz.func37 #[.slice Ao21 y755.length co21] ?_;(with_reducible refine(num_all.calls _ _ _ _ _ _ ?side1 ?side2 A3.out).mono ?_);(case side1=>exact kc_ HO757);(case side2=>exact kl_ HO757);rintro e w' ⟨rfl,⟨nd,rfl⟩⟩;refine⟨_,rfl,?_⟩))
 go_ret
 exact⟨ew_,(bl_ HB).out⟩

def dec_both.f (a0_0:Bool) (a0_1:ByteArray) (a0_2:Int) (a1_0:Bool) (a1_1:ByteArray) (a1_2:Int):Option (ByteArray × ByteArray × Int):=(num_Zeros.f (wrap64 (a0_2-(mn a0_2 a1_2)))).bind fun t767=>(if a0_1.size+t767.size≤9223372036854775807 then ((num_Zeros.f (wrap64 (a1_2-(mn a0_2 a1_2)))).bind fun t768=>(if a1_1.size+t768.size≤9223372036854775807 then (some (a0_1++t767,a1_1++t768,mn a0_2 a1_2)) else (none))) else (none))
def dec_both.T2:Bool × List (List Nat × List Nat):=(true,[([],[]),([0],[0]),([],[]),([2],[2]),([],[]),([3,4],[3,4]),([5],[5]),([1,6],[1,6]),([],[]),([8],[8]),([],[]),([10],[10]),([],[]),([11,12],[11,12]),([13,6],[13]),([9,14],[9,14]),([],[]),([7,14,0,1,2,3,4,5,6,7],[7]),([15,17,0,1,2,3,4,5,6,7,8,9,10,11,12,13,14,15,17],[15]),([16,18,0,1,2,3,4,5,6,7,8,9,10,11,12,13,14,15,16,17,18],[16])])
def dec_both.B2:List Nat:=[0,1,0,4,0,28,60,127,0,256,0,1024,0,7168,15484,32636,0,31999,196607,524287]
theorem dec_both.tab2:rtab .any (opsOf Tryz.f89 2)=dec_both.T2:=by kernel_rfl
theorem dec_both.bits2:waitsOk dec_both.T2.2 dec_both.B2=true:=by kernel_rfl
theorem dec_both.calls (a0_0:Bool) (a0_1:ByteArray) (a0_2:Int) (a1_0:Bool) (a1_1:ByteArray) (a1_2:Int) (r1:ByteArray) (r2:ByteArray) (r3:Int) (w:World) (h:dec_both.f a0_0 a0_1 a0_2 a1_0 a1_1 a1_2=some (r1,r2,r3)) :
  Calls Tryz.prog 89 #[.agg #[.bool a0_0,.string a0_1,.int .i64 a0_2],.agg #[.bool a1_0,.string a1_1,.int .i64 a1_2]] w fun e w'=>e= .returned (.tuple #[.string r1,.string r2,.int .i64 r3])∧Below w.heap.size w w':=by
 have hu97:=Tryz.underlying97
 have HB:=am_ (Below.refl w.heap.size w)
 have H:=h
 clear h
 unfold dec_both.f at H
 obtain⟨ji3,hji3⟩:∃j_:Int,(mn a0_2 a1_2)=j_:=⟨_,rfl⟩
 replace H:((num_Zeros.f (wrap64 (a0_2-(ji3)))).bind fun t767=>(if a0_1.size+t767.size≤9223372036854775807 then ((num_Zeros.f (wrap64 (a1_2-(ji3)))).bind fun t768=>(if a1_1.size+t768.size≤9223372036854775807 then (some (a0_1++t767,a1_1++t768,ji3)) else (none))) else (none)))=some (r1,r2,r3):=by first|(rw[hji3] at H;exact H)|(simp only[hji3] at H ⊢;exact H)
 have hji3_:(if a1_2<a0_2 then a1_2 else a0_2)=ji3:=hji3
 replace H:=Option.bind_eq_some_iff.mp H
 obtain⟨t767,A40,H⟩:=H
 have A4:=am_ A40
 clear A40
 replace H:=ifn_ H
 obtain⟨c5,H⟩:=H
 have c5b0:=eq_true c5
 have c5b1:decide (a0_1.size+t767.size≤9223372036854775807)=true:=decide_eq_true c5
 try have c5b2:=eq_false (Nat.not_lt.2 c5)
 replace H:=Option.bind_eq_some_iff.mp H
 obtain⟨t768,A60,H⟩:=H
 have A6:=am_ A60
 clear A60
 replace H:=ifn_ H
 obtain⟨c7,H⟩:=H
 have c7b0:=eq_true c7
 have c7b1:decide (a1_1.size+t768.size≤9223372036854775807)=true:=decide_eq_true c7
 try have c7b2:=eq_false (Nat.not_lt.2 c7)
 simp only[Option.some.injEq,Prod.mk.injEq] at H
 obtain⟨rfl,rfl,rfl⟩:=H
 go_enter Tryz.func89,Tryz.ntmps89
 try go_wp2_with (first|((with_reducible refine gate_dst (N:=2) rfl ?_);refine be_ 2 #[.bool a0_0,.string a0_1,.int .i64 a0_2] 97 ?_;intro gb765 hg w8 hbox hb;have BK765:=am_ (hbox);have GW765:=sz_ HB hg;have GE765:=sz_ HB hg;replace HB:=am_ (below_step (bl_ HB).out hb);clear hb hbox hg)|((with_reducible refine gate_dst (N:=3) rfl ?_);refine be_ 3 #[.bool a1_0,.string a1_1,.int .i64 a1_2] 97 ?_;intro gb766 hg w9 hbox hb;have BK766:=am_ (hbox);have GW766:=sz_ HB hg;have GE766:=sz_ HB hg;have NB765_766:=na_ BK765 hg;have NB766_765:=nb_ BK765 hg;replace BK765:=bb_ BK765 hb;replace HB:=am_ (below_step (bl_ HB).out hb);clear hb hbox hg;have hnb10:=NB765_766.out;have hnc10:=NB766_765.out;obtain⟨hcz11_0,hcz11_1,hcz11_2,hfz11_0,hfz11_1,hfz11_2⟩:=bo3_ BK765;obtain⟨hcz12_0,hcz12_1,hcz12_2,hfz12_0,hfz12_1,hfz12_2⟩:=bo3_ BK766))
 replace BK765:=am_ (blk_drew BK765.out)
 replace BK766:=am_ (blk_drew BK766.out)
 replace HB:=am_ (below_drew1 HB.out)
 refine start_ (n:=20) (S:=fun w'=>w'.cell? ⟨gb765,0,none⟩=some (.bool a0_0)∧w'.cell? ⟨gb765,1,none⟩=some (.string a0_1)∧w'.cell? ⟨gb765,2,none⟩=some (.int .i64 a0_2)∧w'.cell? ⟨gb766,0,none⟩=some (.bool a1_0)∧w'.cell? ⟨gb766,1,none⟩=some (.string a1_1)∧w'.cell? ⟨gb766,2,none⟩=some (.int .i64 a1_2)) (ds:=[]) #[false,false,false,false,false,false,false,false,false,false,false,false,false,false,false,false,false,false,false,false] (by kernel_rfl) rfl rfl ⟨bc_ BK765 0,bc_ BK765 1,bc_ BK765 2,bc_ BK766 0,bc_ BK766 1,bc_ BK766 2⟩ (fun hHeld=>?_);refine with_tabW dec_both.tab2 dec_both.bits2 (fun HT_ HW_=>?_)
 generalize w9.drew=w13 at BK765 BK766 HB hHeld ⊢
 refine pu_ 0 13 (bm_ 20 1) HT_ ?_
 refine pu_ 2 15 (bm_ 20 5) HT_ ?_
 refine pu_ 4 17 (bm_ 20 21) HT_ ?_
 refine pu_ 8 21 (bm_ 20 277) HT_ ?_
 refine pu_ 10 23 (bm_ 20 1301) HT_ ?_
 refine pu_ 12 25 (bm_ 20 5397) HT_ ?_
 refine pu_ 16 29 (bm_ 20 70933) HT_ ?_
 refine tk_ 1 14 (bm_ 20 70935) HT_ HW_ hHeld rfl (by rintro w' ⟨s0,s1,s2,s3,s4,s5⟩;go_simp;with_reducible rfl) ?_
 refine tk_ 3 16 (bm_ 20 70943) HT_ HW_ hHeld rfl (by rintro w' ⟨s0,s1,s2,s3,s4,s5⟩;go_simp;with_reducible rfl) ?_
 refine pu_ 5 18 (bm_ 20 70975) HT_ ?_
 refine tk_ 9 22 (bm_ 20 71487) HT_ HW_ hHeld rfl (by rintro w' ⟨s0,s1,s2,s3,s4,s5⟩;go_simp;with_reducible rfl) ?_
 refine tk_ 11 24 (bm_ 20 73535) HT_ HW_ hHeld rfl (by rintro w' ⟨s0,s1,s2,s3,s4,s5⟩;go_simp;with_reducible rfl) ?_
 refine pu_ 13 26 (bm_ 20 81727) HT_ ?_
 refine one_ (i:=6) (N:=some 19) (bm_ 20 81791) rfl rfl (one_of HT_.out (by kernel_rfl)) (by decide) (fun K hK=>?_)
 refine goes_ Tryz.func24 (by kernel_rfl) rfl #[.int .i64 (wrap64 (a0_2-(ji3)))] (by rfl) rfl rfl (by (try simp only[List.map_toArray,List.map_cons,List.map_nil]);first|done|(simp only[hji3];rfl)|rfl|(simp only[List.length_drop,List.length_take];rfl)|(have z_:∀s_:ByteArray,s_.size≤9223372036854775807→ -(s_.size:Int)=wrap64 (-(s_.size:Int)):=(fun s_ h_=>by unfold wrap64;omega);rw[← z_ _ (by omega)];rfl)|(simp only[ByteArray.size_append];rfl)) ?_
 with_reducible refine(num_Zeros.calls _ _ _ A4.out).mono ?_
 rintro e w14 ⟨rfl,hb⟩
 refine⟨_,rfl,?_⟩
 replace BK765:=bb_ BK765 hb
 replace BK766:=bb_ BK766 hb
 replace HB:=am_ (below_step (bl_ HB).out hb)
 (try clear hb)
 (try clear hb2)
 (try clear hk)
 (try clear hi)
 refine hK.out _ _ ⟨bc_ BK765 0,bc_ BK765 1,bc_ BK765 2,bc_ BK766 0,bc_ BK766 1,bc_ BK766 2⟩ (fun hHeld=>?_)
 clear hK K
 refine nm_ 19 ?_
 refine pu_ 7 20 (bm_ 20 81919) HT_ ?_
 refine one_ (i:=14) (N:=some 27) (bm_ 20 98303) rfl rfl (one_of HT_.out (by kernel_rfl)) (by decide) (fun K hK=>?_)
 refine goes_ Tryz.func24 (by kernel_rfl) rfl #[.int .i64 (wrap64 (a1_2-(ji3)))] (by rfl) rfl rfl (by (try simp only[List.map_toArray,List.map_cons,List.map_nil]);first|done|(simp only[hji3];rfl)|rfl|(simp only[List.length_drop,List.length_take];rfl)|(have z_:∀s_:ByteArray,s_.size≤9223372036854775807→ -(s_.size:Int)=wrap64 (-(s_.size:Int)):=(fun s_ h_=>by unfold wrap64;omega);rw[← z_ _ (by omega)];rfl)|(simp only[ByteArray.size_append];rfl)) ?_
 with_reducible refine(num_Zeros.calls _ _ _ A6.out).mono ?_
 rintro e w15 ⟨rfl,hb⟩
 refine⟨_,rfl,?_⟩
 replace BK765:=bb_ BK765 hb
 replace BK766:=bb_ BK766 hb
 replace HB:=am_ (below_step (bl_ HB).out hb)
 (try clear hb)
 (try clear hb2)
 (try clear hk)
 (try clear hi)
 refine hK.out _ _ ⟨bc_ BK765 0,bc_ BK765 1,bc_ BK765 2,bc_ BK766 0,bc_ BK766 1,bc_ BK766 2⟩ (fun hHeld=>?_)
 clear hK K
 refine nm_ 27 ?_
 refine pu_ 15 28 (bm_ 20 131071) HT_ ?_
 refine pu_ 17 4 (bm_ 20 262143) HT_ ?_
 refine pu_ 18 5 (bm_ 20 524287) HT_ ?_
 refine pu_ 19 6 (bm_ 20 1048575) HT_ ?_
 refine done_ (done_of HT_.out (by kernel_rfl)) ?_
 try go_wp2
 go_ret3
 exact⟨by first|rfl|(simp[errW_none,errW_some] <;> rfl)|(simp only[← hji3];first|rfl|(simp[errW_none,errW_some] <;> rfl))|(simp[*,errW_none,errW_some] <;> first|rfl|exact given_isEmpty _|exact(given_isEmpty _).symm),by repeat(first|(with_reducible first|exact HB.out|apply below_alloc|apply pw_below_drewN|apply below_drew1|refine below_set ?_ GE765.out|refine below_set ?_ GE766.out)|exact HB.out)⟩

def cmp_Compare_int.f (a b:Int):Option Int:=some (Lib.compareInt a b)
theorem cmp_Compare_int.calls (a0 a1:Int) (r:Int) (w:World) (h:cmp_Compare_int.f a0 a1=some r) :
    Calls Tryz.prog 117 #[.int .i64 a0,.int .i64 a1] w fun e w'=>e= .returned (.int .i64 r)∧Drawn0 w w':=by
  obtain rfl:=Option.some.inj h
  refine(Tryz.cmp_Compare_int a0 a1 w).mono ?_
  rintro e w' ⟨rfl,rfl⟩
  exact⟨rfl,Drawn0.refl _⟩

def strings_Compare.f (a b:ByteArray):Option Int:=some (Lib.compareBytes a.data.toList b.data.toList)
theorem strings_Compare.calls (a0 a1:ByteArray) (r:Int) (w:World) (h:strings_Compare.f a0 a1=some r) :
    Calls Tryz.prog 118 #[.string a0,.string a1] w fun e w'=>e= .returned (.int .i64 r)∧Drawn0 w w':=by
  obtain rfl:=Option.some.inj h
  refine(Tryz.strings_Compare a0 a1 w).mono ?_
  rintro e w' ⟨rfl,rfl⟩
  exact⟨rfl,Drawn0.refl _⟩

def num_Cmp.f (k:Nat) (a0:ByteArray) (a1:ByteArray):Option (Int):=(num_all.f k (([a0,a1]:List ByteArray))).bind fun t772=>(if t772=true then ((num_Trim.f k a0).bind fun t773=>((num_Trim.f k a1).bind fun t774=>(if (t773.size:Int)=(t774.size:Int) then ((strings_Compare.f t773 t774).bind fun t775=>(some t775)) else ((cmp_Compare_int.f (t773.size:Int) (t774.size:Int)).bind fun t776=>(some t776))))) else (some 0))
theorem num_Cmp.calls (k:Nat) (a0:ByteArray) (a1:ByteArray) (r:Int) (w:World) (h:num_Cmp.f k a0 a1=some r) :
  Calls Tryz.prog 107 #[.string a0,.string a1] w fun e w'=>e= .returned (.int .i64 r)∧Below w.heap.size w w':=by
 have HB:=am_ (Below.refl w.heap.size w)
 have H:=h
 clear h
 unfold num_Cmp.f at H
 obtain⟨y769,hy769⟩:∃y_:List ByteArray,y_=(([a0,a1]:List ByteArray)):=⟨_,rfl⟩
 replace H:((num_all.f k y769).bind fun t772=>(if t772=true then ((num_Trim.f k a0).bind fun t773=>((num_Trim.f k a1).bind fun t774=>(if (t773.size:Int)=(t774.size:Int) then ((strings_Compare.f t773 t774).bind fun t775=>(some t775)) else ((cmp_Compare_int.f (t773.size:Int) (t774.size:Int)).bind fun t776=>(some t776))))) else (some 0)))=some r:=by first|(rw[hy769];with_reducible exact H)|(have H2_:=(Option.bind_some _ _).symm.trans H;rw[hy769];with_reducible exact H2_)|(have H2_:=(Option.bind_some _ _).symm.trans H;with_reducible exact H2_)|with_reducible exact H|(rw[hy769];exact H)|exact H
 have Ny769:=am_ hy769
 clear hy769
 replace H:=Option.bind_eq_some_iff.mp H
 obtain⟨t772,A30,H⟩:=H
 have A3:=am_ A30
 clear A30
 by_cases c4:t772=true
 ·subst c4
  rw[if_pos rfl] at H
  replace H:=Option.bind_eq_some_iff.mp H
  obtain⟨t773,A50,H⟩:=H
  have A5:=am_ A50
  clear A50
  replace H:=Option.bind_eq_some_iff.mp H
  obtain⟨t774,A60,H⟩:=H
  have A6:=am_ A60
  clear A60
  by_cases c7:(t773.size:Int)=(t774.size:Int)
  ·rw[if_pos c7] at H
   have c7b0:((t773.size:Int)==(t774.size:Int))=true:=beq_iff_eq.mpr c7
   have c7b1:((t773.size:Int) !=(t774.size:Int))=false:=bne_eq_false_iff_eq.mpr c7
   have c7b2:(t773.size==t774.size)=true:=by first|simpa using c7|(simp at c7 ⊢;omega)
   clear c7
   replace H:=Option.bind_eq_some_iff.mp H
   obtain⟨t775,A80,H⟩:=H
   have A8:=am_ A80
   clear A80
   obtain rfl:=Option.some.inj H
   go_enter Tryz.func107,Tryz.ntmps107
   go_wp2_with (first|((with_reducible refine gate_dst (N:=7) rfl ?_);refine Kd.R_lit Kd.string _ 9 ?hg (N:=7) ?hd (xs:=([a0,a1]:List ByteArray)) (inner:=[.string a0,.string a1]) (ok:=fun _=>True) (okp:=fun _=>True) ?hr ?hp (fun _ hk=>hk) trivial (Below.refl _ _) (Nat.le_refl _) (by simp) ?_;(case hd=>rfl);(case hg=>rfl);(case hr=>first|(go_simp;done)|(go_simp;rfl));(case hp=>exact(Reps.one (show Kd.M Kd.string _ _ _ a0 [.string a0] from rfl) (Reps.one (show Kd.M Kd.string _ _ _ a1 [.string a1] from rfl) (Reps.none _ _))));intro v770 w9 ho10 hb hg_ hnew_;clear hg_ hnew_;(first|rw[← Ny769.out] at ho10|(simp only[Int.reduceToNat] at ho10;rw[← Ny769.out] at ho10));have HO771:=am_ (Kd.R_lower ho10 (below_size (bl_ HB).out));replace HB:=am_ (below_step (bl_ HB).out hb);clear hb ho10;obtain⟨Ao11,co11,eo11⟩:=Kd.R_slice HO771.out;subst eo11)|((with_reducible refine gate_callee (f:=37) rfl ?_);refine gl_ (some 8) Tryz.func37 #[.slice Ao11 y769.length co11] ?_;(with_reducible refine(num_all.calls _ _ _ _ _ _ ?side1 ?side2 A3.out).mono ?_);(case side1=>exact kc_ HO771);(case side2=>exact kl_ HO771);rintro e w' ⟨rfl,⟨nd,rfl⟩⟩;refine⟨_,rfl,?_⟩)|((with_reducible refine gate_callee (f:=25) rfl ?_);refine gl_ (some 11) Tryz.func25 #[.string a0] ?_;(with_reducible refine(num_Trim.calls _ _ _ _ A5.out).mono ?_);rintro e w' ⟨rfl,⟨nd,rfl⟩⟩;refine⟨_,rfl,?_⟩)|((with_reducible refine gate_callee (f:=25) rfl ?_);refine gl_ (some 13) Tryz.func25 #[.string a1] ?_;(with_reducible refine(num_Trim.calls _ _ _ _ A6.out).mono ?_);rintro e w' ⟨rfl,⟨nd,rfl⟩⟩;refine⟨_,rfl,?_⟩)|((with_reducible refine gate_callee (f:=118) rfl ?_);refine gl_ (some 26) Tryz.func118 #[.string t773,.string t774] ?_;(with_reducible refine(strings_Compare.calls _ _ _ _ A8.out).mono ?_);rintro e w' ⟨rfl,⟨nd,rfl⟩⟩;refine⟨_,rfl,?_⟩))
   go_ret
   exact⟨ew_,(bl_ HB).out⟩
  rw[if_neg c7] at H
  have c7b0:((t773.size:Int)==(t774.size:Int))=false:=beq_eq_false_iff_ne.mpr c7
  have c7b1:((t773.size:Int) !=(t774.size:Int))=true:=bne_iff_ne.mpr c7
  have c7b2:(t773.size==t774.size)=false:=by first|simpa using c7|(simp at c7 ⊢;omega)
  replace H:=Option.bind_eq_some_iff.mp H
  obtain⟨t776,A120,H⟩:=H
  have A12:=am_ A120
  clear A120
  obtain rfl:=Option.some.inj H
  go_enter Tryz.func107,Tryz.ntmps107
  go_wp2_with (first|((with_reducible refine gate_dst (N:=7) rfl ?_);refine Kd.R_lit Kd.string _ 9 ?hg (N:=7) ?hd (xs:=([a0,a1]:List ByteArray)) (inner:=[.string a0,.string a1]) (ok:=fun _=>True) (okp:=fun _=>True) ?hr ?hp (fun _ hk=>hk) trivial (Below.refl _ _) (Nat.le_refl _) (by simp) ?_;(case hd=>rfl);(case hg=>rfl);(case hr=>first|(go_simp;done)|(go_simp;rfl));(case hp=>exact(Reps.one (show Kd.M Kd.string _ _ _ a0 [.string a0] from rfl) (Reps.one (show Kd.M Kd.string _ _ _ a1 [.string a1] from rfl) (Reps.none _ _))));intro v770 w13 ho14 hb hg_ hnew_;clear hg_ hnew_;(first|rw[← Ny769.out] at ho14|(simp only[Int.reduceToNat] at ho14;rw[← Ny769.out] at ho14));have HO771:=am_ (Kd.R_lower ho14 (below_size (bl_ HB).out));replace HB:=am_ (below_step (bl_ HB).out hb);clear hb ho14;obtain⟨Ao15,co15,eo15⟩:=Kd.R_slice HO771.out;subst eo15)|((with_reducible refine gate_callee (f:=37) rfl ?_);refine gl_ (some 8) Tryz.func37 #[.slice Ao15 y769.length co15] ?_;(with_reducible refine(num_all.calls _ _ _ _ _ _ ?side1 ?side2 A3.out).mono ?_);(case side1=>exact kc_ HO771);(case side2=>exact kl_ HO771);rintro e w' ⟨rfl,⟨nd,rfl⟩⟩;refine⟨_,rfl,?_⟩)|((with_reducible refine gate_callee (f:=25) rfl ?_);refine gl_ (some 11) Tryz.func25 #[.string a0] ?_;(with_reducible refine(num_Trim.calls _ _ _ _ A5.out).mono ?_);rintro e w' ⟨rfl,⟨nd,rfl⟩⟩;refine⟨_,rfl,?_⟩)|((with_reducible refine gate_callee (f:=25) rfl ?_);refine gl_ (some 13) Tryz.func25 #[.string a1] ?_;(with_reducible refine(num_Trim.calls _ _ _ _ A6.out).mono ?_);rintro e w' ⟨rfl,⟨nd,rfl⟩⟩;refine⟨_,rfl,?_⟩)|((with_reducible refine gate_callee (f:=117) rfl ?_);refine gl_ (some 23) Tryz.func117 #[.int .i64 (t773.size:Int),.int .i64 (t774.size:Int)] ?_;(with_reducible refine(cmp_Compare_int.calls _ _ _ _ A12.out).mono ?_);rintro e w' ⟨rfl,⟨nd,rfl⟩⟩;refine⟨_,rfl,?_⟩))
  go_ret
  exact⟨ew_,(bl_ HB).out⟩
 replace c4:=Bool.eq_false_iff.mpr c4
 subst c4
 rw[if_neg (show ¬(false=true) by decide)] at H
 obtain rfl:=Option.some.inj H
 go_enter Tryz.func107,Tryz.ntmps107
 go_wp2_with (first|((with_reducible refine gate_dst (N:=7) rfl ?_);refine Kd.R_lit Kd.string _ 9 ?hg (N:=7) ?hd (xs:=([a0,a1]:List ByteArray)) (inner:=[.string a0,.string a1]) (ok:=fun _=>True) (okp:=fun _=>True) ?hr ?hp (fun _ hk=>hk) trivial (Below.refl _ _) (Nat.le_refl _) (by simp) ?_;(case hd=>rfl);(case hg=>rfl);(case hr=>first|(go_simp;done)|(go_simp;rfl));(case hp=>exact(Reps.one (show Kd.M Kd.string _ _ _ a0 [.string a0] from rfl) (Reps.one (show Kd.M Kd.string _ _ _ a1 [.string a1] from rfl) (Reps.none _ _))));intro v770 w16 ho17 hb hg_ hnew_;clear hg_ hnew_;(first|rw[← Ny769.out] at ho17|(simp only[Int.reduceToNat] at ho17;rw[← Ny769.out] at ho17));have HO771:=am_ (Kd.R_lower ho17 (below_size (bl_ HB).out));replace HB:=am_ (below_step (bl_ HB).out hb);clear hb ho17;obtain⟨Ao18,co18,eo18⟩:=Kd.R_slice HO771.out;subst eo18)|((with_reducible refine gate_callee (f:=37) rfl ?_);refine gl_ (some 8) Tryz.func37 #[.slice Ao18 y769.length co18] ?_;(with_reducible refine(num_all.calls _ _ _ _ _ _ ?side1 ?side2 A3.out).mono ?_);(case side1=>exact kc_ HO771);(case side2=>exact kl_ HO771);rintro e w' ⟨rfl,⟨nd,rfl⟩⟩;refine⟨_,rfl,?_⟩))
 go_ret
 exact⟨ew_,(bl_ HB).out⟩

mutual
def num_Sub.j0:Nat→ByteArray→ByteArray→Bool→Option (ByteArray × Bool)
 | 0,_,_,_=>none
 | k+1,x0,x1,x20=>if x20=true then (some ((⟨#[]⟩:ByteArray),false)) else (num_Sub.l0 k x0 x1 ([]:List Int) 0 (x0.size:Int) 0)
def num_Sub.l0:Nat→ByteArray→ByteArray→List Int→Int→Int→Int→Option (ByteArray × Bool)
 | 0,_,_,_,_,_,_=>none
 | k+1,x0,x1,x6,x7,x22,x23=>if x23<x22 then ((num_at.f x0 x23).bind fun t783=>((num_at.f x1 x23).bind fun t784=>(if (wrap64 ((wrap64 (t783-t784))-x7))<0 then (if x6.length<140737488355328 then (num_Sub.l0 k x0 x1 (x6++[(48+(wrap64 ((wrap64 ((wrap64 (t783-t784))-x7))+10)))%256]) 1 x22 (wrap64 (x23+1))) else (none)) else (if x6.length<140737488355328 then (num_Sub.l0 k x0 x1 (x6++[(48+(wrap64 ((wrap64 (t783-t784))-x7)))%256]) 0 x22 (wrap64 (x23+1))) else (none))))) else ((num_text.f k x6).bind fun t782=>(some (t782,true)))
end
def num_Sub.f (k:Nat) (a0:ByteArray) (a1:ByteArray):Option (ByteArray × Bool):=(num_all.f k (([a0,a1]:List ByteArray))).bind fun t780=>(if t780=true then ((num_Cmp.f k a0 a1).bind fun t781=>(num_Sub.j0 k a0 a1 (decide (t781<0)))) else (num_Sub.j0 k a0 a1 true))
theorem num_Sub.calls (k:Nat) (a0:ByteArray) (a1:ByteArray) (r1:ByteArray) (r2:Bool) (w:World) (h:num_Sub.f k a0 a1=some (r1,r2)) :
  Calls Tryz.prog 90 #[.string a0,.string a1] w fun e w'=>e= .returned (.tuple #[.string r1,.bool r2])∧Below w.heap.size w w':=by
 have HB:=am_ (Below.refl w.heap.size w)
 have H:=h
 clear h
 unfold num_Sub.f at H
 have HC3:=am_ H
 clear H
 go_enter Tryz.func90,Tryz.ntmps90
 go_upto_region 1 with (fail)
 go_cut [20] (fun v20 wc=>∃(kq:Nat) (x20_2:Bool),v20= .bool x20_2∧Aside0 (num_Sub.j0 kq a0 a1 x20_2=some (r1,r2))∧Aside0 (kq≤k)∧Aside0 (Below w.heap.size w wc))
 case first =>
  have H:=HC3.out
  clear HC3
  obtain⟨y777,hy777⟩:∃y_:List ByteArray,y_=(([a0,a1]:List ByteArray)):=⟨_,rfl⟩
  replace H:((num_all.f k y777).bind fun t780=>(if t780=true then ((num_Cmp.f k a0 a1).bind fun t781=>(num_Sub.j0 k a0 a1 (decide (t781<0)))) else (num_Sub.j0 k a0 a1 true)))=some (r1,r2):=by first|(rw[hy777];with_reducible exact H)|(have H2_:=(Option.bind_some _ _).symm.trans H;rw[hy777];with_reducible exact H2_)|(have H2_:=(Option.bind_some _ _).symm.trans H;with_reducible exact H2_)|with_reducible exact H|(rw[hy777];exact H)|exact H
  have Ny777:=am_ hy777
  clear hy777
  replace H:=Option.bind_eq_some_iff.mp H
  obtain⟨t780,A40,H⟩:=H
  have A4:=am_ A40
  clear A40
  by_cases c5:t780=true
  ·subst c5
   rw[if_pos rfl] at H
   replace H:=Option.bind_eq_some_iff.mp H
   obtain⟨t781,A60,H⟩:=H
   have A6:=am_ A60
   clear A60
   have H':=am_ H
   clear H
   go_wp2_with (first|((with_reducible refine gate_dst (N:=12) rfl ?_);refine Kd.R_lit Kd.string _ 9 ?hg (N:=12) ?hd (xs:=([a0,a1]:List ByteArray)) (inner:=[.string a0,.string a1]) (ok:=fun _=>True) (okp:=fun _=>True) ?hr ?hp (fun _ hk=>hk) trivial (Below.refl _ _) (Nat.le_refl _) (by simp) ?_;(case hd=>rfl);(case hg=>rfl);(case hr=>first|(go_simp;done)|(go_simp;rfl));(case hp=>exact(Reps.one (show Kd.M Kd.string _ _ _ a0 [.string a0] from rfl) (Reps.one (show Kd.M Kd.string _ _ _ a1 [.string a1] from rfl) (Reps.none _ _))));intro v778 w7 ho8 hb hg_ hnew_;clear hg_ hnew_;(first|rw[← Ny777.out] at ho8|(simp only[Int.reduceToNat] at ho8;rw[← Ny777.out] at ho8));have HO779:=am_ (Kd.R_lower ho8 (below_size (bl_ HB).out));replace HB:=am_ (below_step (bl_ HB).out hb);clear hb ho8;obtain⟨Ao9,co9,eo9⟩:=Kd.R_slice HO779.out;subst eo9)|((with_reducible refine gate_callee (f:=37) rfl ?_);refine gl_ (some 13) Tryz.func37 #[.slice Ao9 y777.length co9] ?_;(with_reducible refine(num_all.calls _ _ _ _ _ _ ?side1 ?side2 A4.out).mono ?_);(case side1=>exact kc_ HO779);(case side2=>exact kl_ HO779);rintro e w' ⟨rfl,⟨nd,rfl⟩⟩;refine⟨_,rfl,?_⟩)|(go_at_call 107;(with_reducible refine(num_Cmp.calls _ _ _ _ _ A6.out).mono ?_);rintro e w10 ⟨rfl,hb⟩;replace HO779:=kb_ HO779 hb;replace HB:=am_ (below_step (bl_ HB).out hb);(try clear hb);(try clear hi)))
   go_meet
   case rel=>exact⟨_,(decide (t781<0)),eq_,H',⟨by first|omega|exact Nat.le_refl _⟩,(bl_ HB)⟩
  replace c5:=Bool.eq_false_iff.mpr c5
  subst c5
  rw[if_neg (show ¬(false=true) by decide)] at H
  have H':=am_ H
  clear H
  go_wp2_with (first|((with_reducible refine gate_dst (N:=12) rfl ?_);refine Kd.R_lit Kd.string _ 9 ?hg (N:=12) ?hd (xs:=([a0,a1]:List ByteArray)) (inner:=[.string a0,.string a1]) (ok:=fun _=>True) (okp:=fun _=>True) ?hr ?hp (fun _ hk=>hk) trivial (Below.refl _ _) (Nat.le_refl _) (by simp) ?_;(case hd=>rfl);(case hg=>rfl);(case hr=>first|(go_simp;done)|(go_simp;rfl));(case hp=>exact(Reps.one (show Kd.M Kd.string _ _ _ a0 [.string a0] from rfl) (Reps.one (show Kd.M Kd.string _ _ _ a1 [.string a1] from rfl) (Reps.none _ _))));intro v778 w11 ho12 hb hg_ hnew_;clear hg_ hnew_;(first|rw[← Ny777.out] at ho12|(simp only[Int.reduceToNat] at ho12;rw[← Ny777.out] at ho12));have HO779:=am_ (Kd.R_lower ho12 (below_size (bl_ HB).out));replace HB:=am_ (below_step (bl_ HB).out hb);clear hb ho12;obtain⟨Ao13,co13,eo13⟩:=Kd.R_slice HO779.out;subst eo13)|((with_reducible refine gate_callee (f:=37) rfl ?_);refine gl_ (some 13) Tryz.func37 #[.slice Ao13 y777.length co13] ?_;(with_reducible refine(num_all.calls _ _ _ _ _ _ ?side1 ?side2 A4.out).mono ?_);(case side1=>exact kc_ HO779);(case side2=>exact kl_ HO779);rintro e w' ⟨rfl,⟨nd,rfl⟩⟩;refine⟨_,rfl,?_⟩))
  go_meet
  case rel=>exact⟨_,(true),eq_,H',⟨by first|omega|exact Nat.le_refl _⟩,(bl_ HB)⟩
 clear HC3
 obtain⟨kq,x20_2,rfl,HA,HJ2,HB⟩:=hcut
 cases kq with
 | zero=>exact absurd HA.out (by simp[num_Sub.j0])
 | succ kj2=>?_
 have H:=HA.out
 clear HA
 simp only[num_Sub.j0] at H
 by_cases c14:x20_2=true
 ·subst c14
  rw[if_pos rfl] at H
  simp only[Option.some.injEq,Prod.mk.injEq] at H
  obtain⟨rfl,rfl⟩:=H
  go_wp2
  go_ret2
  exact⟨ew_,(bl_ HB).out⟩
 replace c14:=Bool.eq_false_iff.mpr c14
 subst c14
 rw[if_neg (show ¬(false=true) by decide)] at H
 have H':=am_ H
 clear H
 go_wp2
 go_loopg [6,7,23] kj2 (fun kq v6 v7 v23 w'=>∃(x6_2:List Int) (x7_2:Int) (x23_2:Int),v7= .int .i64 x7_2∧v23= .int .i64 x23_2∧Aside0 (num_Sub.l0 kq a0 a1 x6_2 x7_2 (a0.size:Int) x23_2=some (r1,r2))∧Aside0 (kq≤kj2)∧Aside0 (Kd.R (Kd.int .u8) 5 w' w.heap.size (fun _=>True) v6 x6_2)∧Aside0 (Below w.heap.size w w'))
 case atStart=>exact⟨(([]:List Int)),(0),(0),eq_,eq_,H',⟨Nat.le_refl _⟩,⟨by first|exact Kd.R_nil _ _ _ _ _|exact Kd.N_nil _ _ _ _ _|exact Kd.V_nil _ _ _ _ _|exact Kd.Q_nil _ _ _ _ _|exact Kd.S_nil _ _ _ _ _⟩,(bl_ HB)⟩
 clear H'
 obtain⟨x6_2,x7_2,x23_2,rfl,rfl,HA,HK2,HO_6,HB⟩:=hrel
 cases gk with
 | zero=>exact absurd HA.out (by simp[num_Sub.l0])
 | succ k2=>?_
 have H:=HA.out
 clear HA
 simp only[num_Sub.l0] at H
 by_cases c15:x23_2<(a0.size:Int)
 ·rw[if_pos c15] at H
  have c15b0:=decide_eq_true c15
  clear c15
  replace H:=Option.bind_eq_some_iff.mp H
  obtain⟨t783,A160,H⟩:=H
  have A16:=am_ A160
  clear A160
  replace H:=Option.bind_eq_some_iff.mp H
  obtain⟨t784,A170,H⟩:=H
  have A17:=am_ A170
  clear A170
  by_cases c18:(wrap64 ((wrap64 (t783-t784))-x7_2))<0
  ·rw[if_pos c18] at H
   have c18b0:=decide_eq_true c18
   clear c18
   replace H:=ifn_ H
   obtain⟨c19,H⟩:=H
   have LMc19:=am_ c19
   clear c19
   obtain⟨y785,hy785⟩:∃y_:List Int,y_=(x6_2++[(48+(wrap64 ((wrap64 ((wrap64 (t783-t784))-x7_2))+10)))%256]):=⟨_,rfl⟩
   replace H:(num_Sub.l0 k2 a0 a1 y785 1 (a0.size:Int) (wrap64 (x23_2+1)))=some (r1,r2):=by first|(rw[hy785];with_reducible exact H)|(have H2_:=(Option.bind_some _ _).symm.trans H;rw[hy785];with_reducible exact H2_)|(have H2_:=(Option.bind_some _ _).symm.trans H;with_reducible exact H2_)|with_reducible exact H|(rw[hy785];exact H)|exact H
   have Ny785:=am_ hy785
   clear hy785
   have H':=am_ H
   clear H
   go_wp2_with (first|((with_reducible refine gate_callee (f:=38) rfl ?_);refine gl_ (some 28) Tryz.func38 #[.string a0,.int .i64 x23_2] ?_;(with_reducible refine(num_at.calls _ _ _ _ A16.out).mono ?_);rintro e w' ⟨rfl,⟨nd,rfl⟩⟩;refine⟨_,rfl,?_⟩)|((with_reducible refine gate_callee (f:=38) rfl ?_);refine gl_ (some 31) Tryz.func38 #[.string a1,.int .i64 x23_2] ?_;(with_reducible refine(num_at.calls _ _ _ _ A17.out).mono ?_);rintro e w' ⟨rfl,⟨nd,rfl⟩⟩;refine⟨_,rfl,?_⟩)|((with_reducible refine gate_builtin (b:= .append) (xs:= #[.tmp 39,.tmp 43]) rfl ?_);at_builtin;refine Kd.R_append (Kd.int .u8) (w0:=w) w.heap.size rfl (.tmp 39) (.tmp 43) 23 5 (.int .u8 0) 1 rfl Tryz.underlying23 info5 rfl (by decide) (by omega) u6 x6_2 ((48+(wrap64 ((wrap64 ((wrap64 (t783-t784))-x7_2))+10)))%256) [.int .u8 ((48+(wrap64 ((wrap64 ((wrap64 (t783-t784))-x7_2))+10)))%256)] (fun _=>True) (fun _=>False) rfl rfl ?aP (fun _ hk=>hk.elim) ?aF ?aO ?aB ?aS ?aL ?_;(case aP=>exact rfl);(case aB=>exact(bl_ HB).out);(case aF=>exact(fun _ _=>trivial));(case aO=>exact(kr_ HO_6));(case aS=>exact(below_size (bl_ HB).out));(case aL=>have:=LMc19.out;omega);intro v786 w20 ho hb hg hat;rw[← Ny785.out] at ho;have n0_:=am_ (hb);have n1_:=am_ (ho);clear HB;clear HO_6;revert n0_ n1_;intro HB HO787;clear ho hb hg hat))
   go_roundg k2
   case measure=>have:=HJ2.out;have:=HK2.out;omega
   case rel=>exact⟨(y785),(1),(wrap64 (x23_2+1)),eq_,eq_,H',⟨by have:=HJ2.out;have:=HK2.out;omega⟩,⟨kdR_ HO787.out⟩,(bl_ HB)⟩
  rw[if_neg c18] at H
  have c18b0:=decide_eq_false c18
  clear c18
  replace H:=ifn_ H
  obtain⟨c21,H⟩:=H
  have LMc21:=am_ c21
  clear c21
  obtain⟨y788,hy788⟩:∃y_:List Int,y_=(x6_2++[(48+(wrap64 ((wrap64 (t783-t784))-x7_2)))%256]):=⟨_,rfl⟩
  replace H:(num_Sub.l0 k2 a0 a1 y788 0 (a0.size:Int) (wrap64 (x23_2+1)))=some (r1,r2):=by first|(rw[hy788];with_reducible exact H)|(have H2_:=(Option.bind_some _ _).symm.trans H;rw[hy788];with_reducible exact H2_)|(have H2_:=(Option.bind_some _ _).symm.trans H;with_reducible exact H2_)|with_reducible exact H|(rw[hy788];exact H)|exact H
  have Ny788:=am_ hy788
  clear hy788
  have H':=am_ H
  clear H
  go_wp2_with (first|((with_reducible refine gate_callee (f:=38) rfl ?_);refine gl_ (some 28) Tryz.func38 #[.string a0,.int .i64 x23_2] ?_;(with_reducible refine(num_at.calls _ _ _ _ A16.out).mono ?_);rintro e w' ⟨rfl,⟨nd,rfl⟩⟩;refine⟨_,rfl,?_⟩)|((with_reducible refine gate_callee (f:=38) rfl ?_);refine gl_ (some 31) Tryz.func38 #[.string a1,.int .i64 x23_2] ?_;(with_reducible refine(num_at.calls _ _ _ _ A17.out).mono ?_);rintro e w' ⟨rfl,⟨nd,rfl⟩⟩;refine⟨_,rfl,?_⟩)|((with_reducible refine gate_builtin (b:= .append) (xs:= #[.tmp 39,.tmp 43]) rfl ?_);at_builtin;refine Kd.R_append (Kd.int .u8) (w0:=w) w.heap.size rfl (.tmp 39) (.tmp 43) 23 5 (.int .u8 0) 1 rfl Tryz.underlying23 info5 rfl (by decide) (by omega) u6 x6_2 ((48+(wrap64 ((wrap64 (t783-t784))-x7_2)))%256) [.int .u8 ((48+(wrap64 ((wrap64 (t783-t784))-x7_2)))%256)] (fun _=>True) (fun _=>False) rfl rfl ?aP (fun _ hk=>hk.elim) ?aF ?aO ?aB ?aS ?aL ?_;(case aP=>exact rfl);(case aB=>exact(bl_ HB).out);(case aF=>exact(fun _ _=>trivial));(case aO=>exact(kr_ HO_6));(case aS=>exact(below_size (bl_ HB).out));(case aL=>have:=LMc21.out;omega);intro v789 w22 ho hb hg hat;rw[← Ny788.out] at ho;have n0_:=am_ (hb);have n1_:=am_ (ho);clear HB;clear HO_6;revert n0_ n1_;intro HB HO790;clear ho hb hg hat))
  go_roundg k2
  case measure=>have:=HJ2.out;have:=HK2.out;omega
  case rel=>exact⟨(y788),(0),(wrap64 (x23_2+1)),eq_,eq_,H',⟨by have:=HJ2.out;have:=HK2.out;omega⟩,⟨kdR_ HO790.out⟩,(bl_ HB)⟩
 rw[if_neg c15] at H
 have c15b0:=decide_eq_false c15
 clear c15
 replace H:=Option.bind_eq_some_iff.mp H
 obtain⟨t782,A230,H⟩:=H
 have A23:=am_ A230
 clear A230
 simp only[Option.some.injEq,Prod.mk.injEq] at H
 obtain⟨rfl,rfl⟩:=H
 obtain⟨Ao24,co24,eo24⟩:=Kd.R_slice HO_6.out
 subst eo24
 go_wp2_with (first|((with_reducible refine gate_callee (f:=39) rfl ?_);refine gl_ (some 47) Tryz.func39 #[.slice Ao24 x6_2.length co24] ?_;(with_reducible refine(num_text.calls _ _ _ _ _ _ ?side1 ?side2 A23.out).mono ?_);(case side1=>exact kc_ HO_6);(case side2=>exact kl_ HO_6);rintro e w25 ⟨rfl,hb⟩;refine⟨_,rfl,?_⟩;replace HO_6:=kb_ HO_6 hb;replace HB:=am_ (below_step (bl_ HB).out hb);(try clear hb);(try clear hi)))
 go_ret2
 exact⟨ew_,(bl_ HB).out⟩

end Go.Proofs.YtadagjgkanlmdaaGreatDoor.P
