import Derived.Test.YtadagjgkanlmdaaGreatDoorPx0
import Derived.Test.YtadagjgkanlmdaaGreatDoorPx1
import Derived.Test.YtadagjgkanlmdaaGreatDoorPx2
import Derived.Test.YtadagjgkanlmdaaGreatDoorPx3
import Derived.Test.YtadagjgkanlmdaaGreatDoorPx4
namespace Go.Proofs.YtadagjgkanlmdaaGreatDoor.P
open Go.RowKit Go.Proofs.YtadagjgkanlmdaaGreatDoorW.PrintWords Go.Proofs.YtadagjgkanlmdaaGreatDoorW.PrintLast Go.Proofs.YtadagjgkanlmdaaGreatDoorW.PrintMore
attribute [local go_sem] max2_int min2_int max_two min_two max_three min_three max_four min_four
set_option maxHeartbeats 64000000
set_option maxRecDepth 100000
set_option linter.unusedVariables false
set_option linter.unusedSimpArgs false

mutual
def rule_reader_rule.j0:Nat→Int→ByteArray→Int→Int→Bool→Bool→Bool→Bool→Bool→Bool→Option (Int × (List (List (S53))) × ByteArray × ByteArray × Int × Int × Bool × Bool × Bool × Bool × Bool × Bool)
 | 0,_,_,_,_,_,_,_,_,_,_=>none
 | k+1,x5,x1000,x1001,x1002,x1003,x1004,x1005,x1006,x1007,x1008=>if x5=5 then ((rule_reader_sample.f k x1000 x1001 x1002 x1003 x1004 x1005 x1006 x1007 x1008).bind fun bt457=>(some (x5,([]:List (List (S53))),bt457.1,bt457.2.1,bt457.2.2.1,bt457.2.2.2.1,bt457.2.2.2.2.1,bt457.2.2.2.2.2.1,bt457.2.2.2.2.2.2.1,bt457.2.2.2.2.2.2.2.1,bt457.2.2.2.2.2.2.2.2.1,bt457.2.2.2.2.2.2.2.2.2))) else ((rule_reader_all.f k x1000 x1001 x1002 x1003 x1004 x1005 x1006 x1007 x1008).bind fun bt467=>(if ([]:List (List (S53))).length<5864062014805 then (rule_reader_rule.l0 k bt467.2.1 bt467.2.2.1 bt467.2.2.2.1 bt467.2.2.2.2.1 bt467.2.2.2.2.2.1 bt467.2.2.2.2.2.2.1 bt467.2.2.2.2.2.2.2.1 bt467.2.2.2.2.2.2.2.2.1 bt467.2.2.2.2.2.2.2.2.2 x5 (([]:List (List (S53)))++[bt467.1]) (⟨#[]⟩:ByteArray)) else (none)))
def rule_reader_rule.l0:Nat→ByteArray→Int→Int→Bool→Bool→Bool→Bool→Bool→Bool→Int→List (List (S53))→ByteArray→Option (Int × (List (List (S53))) × ByteArray × ByteArray × Int × Int × Bool × Bool × Bool × Bool × Bool × Bool)
 | 0,_,_,_,_,_,_,_,_,_,_,_,_=>none
 | k+1,x1000,x1001,x1002,x1003,x1004,x1005,x1006,x1007,x1008,x457000,x457001,x457002=>(rule_reader_next.f k x1000 x1001 x1002 x1003 x1004 x1005 x1006 x1007 x1008 (⟨#[111,114]⟩:ByteArray)).bind fun bt482=>(if bt482.1=true then ((rule_reader_all.f k bt482.2.1 bt482.2.2.1 bt482.2.2.2.1 bt482.2.2.2.2.1 bt482.2.2.2.2.2.1 bt482.2.2.2.2.2.2.1 bt482.2.2.2.2.2.2.2.1 bt482.2.2.2.2.2.2.2.2.1 bt482.2.2.2.2.2.2.2.2.2).bind fun bt492=>(if x457001.length<5864062014805 then (rule_reader_rule.l0 k bt492.2.1 bt492.2.2.1 bt492.2.2.2.1 bt492.2.2.2.2.1 bt492.2.2.2.2.2.1 bt492.2.2.2.2.2.2.1 bt492.2.2.2.2.2.2.2.1 bt492.2.2.2.2.2.2.2.2.1 bt492.2.2.2.2.2.2.2.2.2 x457000 (x457001++[bt492.1]) x457002) else (none))) else ((rule_reader_sample.f k bt482.2.1 bt482.2.2.1 bt482.2.2.2.1 bt482.2.2.2.2.1 bt482.2.2.2.2.2.1 bt482.2.2.2.2.2.2.1 bt482.2.2.2.2.2.2.2.1 bt482.2.2.2.2.2.2.2.2.1 bt482.2.2.2.2.2.2.2.2.2).bind fun bt507=>(some (x457000,x457001,bt507.1,bt507.2.1,bt507.2.2.1,bt507.2.2.2.1,bt507.2.2.2.2.1,bt507.2.2.2.2.2.1,bt507.2.2.2.2.2.2.1,bt507.2.2.2.2.2.2.2.1,bt507.2.2.2.2.2.2.2.2.1,bt507.2.2.2.2.2.2.2.2.2))))
end
def rule_reader_rule.f (k:Nat) (s0_0:ByteArray) (s0_1:Int) (s0_2:Int) (s0_3:Bool) (s0_4:Bool) (s0_5:Bool) (s0_6:Bool) (s0_7:Bool) (s0_8:Bool):Option (Int × (List (List (S53))) × ByteArray × ByteArray × Int × Int × Bool × Bool × Bool × Bool × Bool × Bool):=(rule_reader_word.f k s0_0 s0_1 s0_2 s0_3 s0_4 s0_5 s0_6 s0_7 s0_8).bind fun bt435=>((rule_CatOf.f k bt435.1).bind fun bt445=>(if bt445.2=true then (if 0≤bt445.1 then (if bt445.1<6 then (if rdOf false [bt435.2.2.2.2.1,bt435.2.2.2.2.2.1,bt435.2.2.2.2.2.2.1,bt435.2.2.2.2.2.2.2.1,bt435.2.2.2.2.2.2.2.2.1,bt435.2.2.2.2.2.2.2.2.2] bt445.1=true then (none) else ((rule_reader_want.f k bt435.2.1 (wrap64 (bt435.2.2.1+(bt435.1.size:Int))) bt435.2.2.2.1 (if bt445.1=0 then true else bt435.2.2.2.2.1) (if bt445.1=1 then true else bt435.2.2.2.2.2.1) (if bt445.1=2 then true else bt435.2.2.2.2.2.2.1) (if bt445.1=3 then true else bt435.2.2.2.2.2.2.2.1) (if bt445.1=4 then true else bt435.2.2.2.2.2.2.2.2.1) (if bt445.1=5 then true else bt435.2.2.2.2.2.2.2.2.2) (⟨#[58]⟩:ByteArray)).bind fun bt447=>(rule_reader_rule.j0 k bt445.1 bt447.1 bt447.2.1 bt447.2.2.1 bt447.2.2.2.1 bt447.2.2.2.2.1 bt447.2.2.2.2.2.1 bt447.2.2.2.2.2.2.1 bt447.2.2.2.2.2.2.2.1 bt447.2.2.2.2.2.2.2.2))) else (none)) else (none)) else (none)))
def rule_reader_rule.T13:Bool × List (List Nat × List Nat):=(true,[([],[]),([0],[0]),([],[]),([2],[2]),([3],[3]),([1,4,3],[1,4]),([0,1,2,3,4,5],[]),([6,5,5,0,1,2,3,4,5],[5,6])])
def rule_reader_rule.B13:List Nat:=[0,1,0,4,12,31,63,127]
theorem rule_reader_rule.tab13:rtab .any (opsOf Tryz.f60 13)=rule_reader_rule.T13:=by kernel_rfl
theorem rule_reader_rule.bits13:waitsOk rule_reader_rule.T13.2 rule_reader_rule.B13=true:=by kernel_rfl
def rule_reader_rule.T15:Bool × List (List Nat × List Nat):=(true,[([],[]),([0],[0]),([],[]),([2],[2]),([3],[3]),([1,4,3],[1,4]),([0,1,2,3,4,5],[]),([6,5,5,0,1,2,3,4,5],[5,6])])
def rule_reader_rule.B15:List Nat:=[0,1,0,4,12,31,63,127]
theorem rule_reader_rule.tab15:rtab .any (opsOf Tryz.f60 15)=rule_reader_rule.T15:=by kernel_rfl
theorem rule_reader_rule.bits15:waitsOk rule_reader_rule.T15.2 rule_reader_rule.B15=true:=by kernel_rfl
theorem rule_reader_rule.calls (k:Nat) (g:Nat) (s0_0:ByteArray) (s0_1:Int) (s0_2:Int) (s0_3:Bool) (s0_4:Bool) (s0_5:Bool) (s0_6:Bool) (s0_7:Bool) (s0_8:Bool) (r1:Int) (r2:List (List (S53))) (r3:ByteArray) (r4:ByteArray) (r5:Int) (r6:Int) (r7:Bool) (r8:Bool) (r9:Bool) (r10:Bool) (r11:Bool) (r12:Bool) (w0 w:World) (hI:IsS91 w0 w g s0_0 s0_1 s0_2 s0_3 s0_4 s0_5 s0_6 s0_7 s0_8) (hB:Below w0.heap.size w0 w) (h:rule_reader_rule.f k s0_0 s0_1 s0_2 s0_3 s0_4 s0_5 s0_6 s0_7 s0_8=some (r1,r2,r3,r4,r5,r6,r7,r8,r9,r10,r11,r12)) :
  Calls Tryz.prog 60 #[.pointer (some ⟨g,0,none⟩)] w fun e w'=>∃v1_:Value,e= .returned (.agg #[.int .i64 r1,v1_,.string r3])∧Kd.N (Kd.slice 53 k53) 54 w' w.heap.size (fun k_=>(w.heap.size≤k_)) v1_ r2∧IsS91 w0 w' g r4 r5 r6 r7 r8 r9 r10 r11 r12∧Below w0.heap.size w0 w'∧KeepBut w w' g none:=by
 have hu41:=Tryz.underlying41
 have HI0:=am_ hI
 have HK:=am_ (KeepBut.refl w g none)
 have HL:=am_ hB.size
 clear hI
 have HW0:=am_ hB.size
 have HB:=am_ hB
 clear hB
 have H:=h
 clear h
 unfold rule_reader_rule.f at H
 replace H:=Option.bind_eq_some_iff.mp H
 obtain⟨⟨t435,t436,t437,t438,t439,t440,t441,t442,t443,t444⟩,A20,H⟩:=H
 dsimp only at H
 have A2:=am_ A20
 clear A20
 replace H:=Option.bind_eq_some_iff.mp H
 obtain⟨⟨t445,t446⟩,A30,H⟩:=H
 dsimp only at H
 have A3:=am_ A30
 clear A30
 by_cases c4:t446=true
 ·subst c4
  rw[if_pos rfl] at H
  replace H:=ifn_ H
  obtain⟨c5,H⟩:=H
  have c5b0:decide (0≤t445)=true:=decide_eq_true c5
  clear c5
  replace H:=ifn_ H
  obtain⟨c6,H⟩:=H
  have c6b0:decide (t445<6)=true:=decide_eq_true c6
  clear c6
  obtain⟨bq7,hbq7⟩:∃b_:Bool,b_=(rdOf false [t439,t440,t441,t442,t443,t444] t445):=⟨_,rfl⟩
  replace H:(if bq7=true then (none) else ((rule_reader_want.f k t436 (wrap64 (t437+(t435.size:Int))) t438 (if t445=0 then true else t439) (if t445=1 then true else t440) (if t445=2 then true else t441) (if t445=3 then true else t442) (if t445=4 then true else t443) (if t445=5 then true else t444) (⟨#[58]⟩:ByteArray)).bind fun bt447=>(rule_reader_rule.j0 k t445 bt447.1 bt447.2.1 bt447.2.2.1 bt447.2.2.2.1 bt447.2.2.2.2.1 bt447.2.2.2.2.2.1 bt447.2.2.2.2.2.2.1 bt447.2.2.2.2.2.2.2.1 bt447.2.2.2.2.2.2.2.2)))=some (r1,r2,r3,r4,r5,r6,r7,r8,r9,r10,r11,r12):=by rw[← hbq7] at H;exact H
  have Nbq7:=am_ hbq7
  clear hbq7
  by_cases c8:bq7=true
  ·subst c8
   rw[if_pos rfl] at H
   exact absurd H (by simp)
  replace c8:=Bool.eq_false_iff.mpr c8
  subst c8
  rw[if_neg (show ¬(false=true) by decide)] at H
  have HC9:=am_ H
  clear H
  go_enter Tryz.func60,Tryz.ntmps60
  go_upto_region 10 with (first|((with_reducible refine gate_dst (N:=2) rfl ?_);refine be_ 2 #[.int .i64 0,.slice none 0 0,.string (⟨#[]⟩:ByteArray)] 41 ?_;intro gb434 hg w10 hbox hb;have n0_:=am_ (IsS91.below (is91_ HI0) hb);have n1_:=am_ (KeepBut.trans (kp_ HK) (KeepBut.of_below hb g none) (.inl rfl));have n2_:=am_ (below_step (bs91_ HB HI0) hb);have n3_:=am_ (hbox);have n4_:=am_ ((by rw[hg];exact(keep_size (w:=w) (g:=g) (row:=none) (kp_ HK)):w.heap.size≤gb434));have n5_:=am_ ((Nat.le_trans HW0.out (by rw[hg];exact(keep_size (w:=w) (g:=g) (row:=none) (kp_ HK)):w.heap.size≤gb434):w0.heap.size≤gb434));have n6_:=am_ ((by rw[hg];exact Nat.ne_of_lt (IsS91.lt (show IsS91 w0 _ g s0_0 s0_1 s0_2 s0_3 s0_4 s0_5 s0_6 s0_7 s0_8 from is91_ HI0)):g≠gb434));have n7_:=am_ ((by rw[hg];exact Nat.ne_of_gt (IsS91.lt (show IsS91 w0 _ g s0_0 s0_1 s0_2 s0_3 s0_4 s0_5 s0_6 s0_7 s0_8 from is91_ HI0)):gb434≠g));clear HI0;clear HK;clear HB;revert n0_ n1_ n2_ n3_ n4_ n5_ n6_ n7_;intro HI0 HK HB BK434 GW434 GE434 NB0_434 NB434_0;clear hb hbox hg)|((with_reducible refine gate_callee (f:=83) rfl ?_);refine gl_ (some 9) Tryz.func83 #[.pointer (some ⟨g,0,none⟩)] ?_;(with_reducible refine(rule_reader_word.calls _ _ _ _ _ _ _ _ _ _ _ _ _ _ _ _ _ _ _ _ _ w0 _ ?side1 ?side2 A2.out).mono ?_);(case side1=>exact is91_ HI0);(case side2=>exact bs91_ HB HI0);rintro e w11 ⟨rfl,hi,hb,hk⟩;refine⟨_,rfl,?_⟩;have n0_:=am_ (KeepBut.blk hk (bk_ BK434).out NB434_0.out (by simp));have n1_:=am_ (KeepBut.trans (kp_ HK) hk (.inl rfl));have n2_:=am_ (hb);have n3_:=am_ (hi);clear BK434;clear HK;clear HB;clear HI0;revert n0_ n1_ n2_ n3_;intro BK434 HK HB HI0;(try clear hb);(try clear hk);(try clear hi);obtain⟨hcz12_0,hcz12_1,hcz12_2,hcz12_3,hcz12_4,hcz12_5,hcz12_6,hcz12_7,hcz12_8,hfz12_0,hfz12_1,hfz12_2,hfz12_3,hfz12_4,hfz12_5,hfz12_6,hfz12_7,hfz12_8⟩:=cs91_ HI0)|((with_reducible refine gate_callee (f:=84) rfl ?_);refine gl_ (some 16) Tryz.func84 #[.string t435] ?_;(with_reducible refine(rule_CatOf.calls _ _ _ _ _ A3.out).mono ?_);rintro e w13 ⟨rfl,hb⟩;refine⟨_,rfl,?_⟩;have n0_:=am_ (IsS91.below (is91_ HI0) hb);have n1_:=bb_ BK434 hb;have n2_:=am_ (KeepBut.trans (kp_ HK) (KeepBut.of_below hb g none) (.inl rfl));have n3_:=am_ (below_step (bs91_ HB HI0) hb);clear HI0;clear BK434;clear HK;clear HB;revert n0_ n1_ n2_ n3_;intro HI0 BK434 HK HB;(try clear hb);obtain⟨hcz14_0,hcz14_1,hcz14_2,hcz14_3,hcz14_4,hcz14_5,hcz14_6,hcz14_7,hcz14_8,hfz14_0,hfz14_1,hfz14_2,hfz14_3,hfz14_4,hfz14_5,hfz14_6,hfz14_7,hfz14_8⟩:=cs91_ HI0;have hpx15:0≤t445:=od_;have hqx15:t445<6:=od_;have hax15:=ax6_ t445 (od_) (od_);have hcx15:w13.cell? ⟨g,3+t445.toNat,none⟩=some (.bool (rdOf false [t439,t440,t441,t442,t443,t444] t445)):=(blk_cell HI0.out.1 (3+t445.toNat)).trans (by rcases hax15 with h_|h_|h_|h_|h_|h_ <;> (rw[h_];rfl));clear hax15;(try rw[← Nbq7.out] at hcx15);have hfx16:=blk_frozen HI0.out.1 (3+t445.toNat);have hqx16_0:0≤t445:=od_;have hqx16_1:t445<6:=od_;have hax16:=ax6_ t445 (od_) (od_);have hcx16:w13.cell? ⟨g,3+t445.toNat,none⟩=some (.bool (rdOf false [t439,t440,t441,t442,t443,t444] t445)):=(blk_cell HI0.out.1 (3+t445.toNat)).trans (by rcases hax16 with h_|h_|h_|h_|h_|h_ <;> (rw[h_];rfl));clear hax16)|((with_reducible refine gate_store (t:=4) (p:=37) rfl ?_);refine store_event (t:=4) (p:=37) (v:=?vo_w17) (w1:=(w13.setCell ⟨g,3+t445.toNat,none⟩ (.bool true))) ?hg ?ho ?hn ?hr ?_;(case ho=>rfl);(case hg=>rfl);(case hn=>rfl);(case hr=>first|(go_simp;done)|(go_simp;rfl));intro w17 hw;have n0_:Aside0 (w17.heap[gb434]? = some (.cells #[.int .i64 0,.slice none 0 0,.string (⟨#[]⟩:ByteArray)] 41 (0,0))):=⟨(by rw[hw];exact((bf_ BK434).out))⟩;have n1_:Aside0 (IsS91 w0 w17 g t436 t437 t438 (if t445=0 then true else t439) (if t445=1 then true else t440) (if t445=2 then true else t441) (if t445=3 then true else t442) (if t445=4 then true else t443) (if t445=5 then true else t444)):=⟨(by rw[hw];exact(is91_ HI0))⟩;have n2_:Aside0 (KeepBut w w17 g none):=⟨(by rw[hw];exact(kp_ HK))⟩;have n3_:Aside0 (Below w0.heap.size w0 w17):=⟨(by rw[hw];exact(bs91_ HB HI0))⟩;clear hw;clear BK434;clear HI0;clear HK;clear HB;revert n0_ n1_ n2_ n3_;intro BK434 HI0 HK HB;obtain⟨hcz18_0,hcz18_1,hcz18_2,hcz18_3,hcz18_4,hcz18_5,hcz18_6,hcz18_7,hcz18_8,hfz18_0,hfz18_1,hfz18_2,hfz18_3,hfz18_4,hfz18_5,hfz18_6,hfz18_7,hfz18_8⟩:=cs91_ HI0))
  (try simp only[Act.put,List.setIfInBounds_toArray,List.set_cons_zero,List.set_cons_succ])
  go_cut [] (fun wc=>∃(kq:Nat) (x1000_8:ByteArray) (x1001_8:Int) (x1002_8:Int) (x1003_8:Bool) (x1004_8:Bool) (x1005_8:Bool) (x1006_8:Bool) (x1007_8:Bool) (x1008_8:Bool),Aside0 (rule_reader_rule.j0 kq t445 x1000_8 x1001_8 x1002_8 x1003_8 x1004_8 x1005_8 x1006_8 x1007_8 x1008_8=some (r1,r2,r3,r4,r5,r6,r7,r8,r9,r10,r11,r12))∧Aside0 (kq≤k)∧Aside0 (wc.heap[gb434]? = some (.cells #[.int .i64 0,(.slice none 0 0),.string (⟨#[]⟩:ByteArray)] 41 (0,0)))∧Aside0 (IsS91 w0 wc g x1000_8 x1001_8 x1002_8 x1003_8 x1004_8 x1005_8 x1006_8 x1007_8 x1008_8)∧Aside0 (KeepBut w wc g none)∧Aside0 (Below w0.heap.size w0 wc))
  case first =>
   have H:=HC9.out
   clear HC9
   replace H:=Option.bind_eq_some_iff.mp H
   obtain⟨⟨t447,t448,t449,t450,t451,t452,t453,t454,t455⟩,A190,H⟩:=H
   dsimp only at H
   have A19:=am_ A190
   clear A190
   have H':=am_ H
   clear H
   go_wp2_with (first|((with_reducible refine gate_callee (f:=85) rfl ?_);refine gl_ (some 48) Tryz.func85 #[.pointer (some ⟨g,0,none⟩),.string (⟨#[58]⟩:ByteArray)] ?_;(with_reducible refine(rule_reader_want.calls _ _ _ _ _ _ _ _ _ _ _ _ _ _ _ _ _ _ _ _ _ w0 _ ?side1 ?side2 A19.out).mono ?_);(case side1=>exact is91_ HI0);(case side2=>exact bs91_ HB HI0);rintro e w20 ⟨rfl,hi,hb,hk⟩;refine⟨_,rfl,?_⟩;have n0_:=am_ (KeepBut.blk hk (g':=gb434) (o:= .cells #[.int .i64 0,.slice none 0 0,.string (⟨#[]⟩:ByteArray)] 41 (0,0)) ((bf_ BK434).out) NB434_0.out (by simp));have n1_:=am_ (KeepBut.trans (kp_ HK) hk (.inl rfl));have n2_:=am_ (hb);have n3_:=am_ (hi);clear BK434;clear HK;clear HB;clear HI0;revert n0_ n1_ n2_ n3_;intro BK434 HK HB HI0;(try clear hb);(try clear hk);(try clear hi)))
   go_meet
   case rel=>exact⟨_,(t447),(t448),(t449),(t450),(t451),(t452),(t453),(t454),(t455),H',⟨by first|omega|exact Nat.le_refl _⟩,(bk_ BK434),⟨is91_ HI0⟩,⟨kp_ HK⟩,⟨bs91_ HB HI0⟩⟩
  clear HC9
  obtain⟨kq,x1000_8,x1001_8,x1002_8,x1003_8,x1004_8,x1005_8,x1006_8,x1007_8,x1008_8,HA,HJ8,BK434,HI0,HK,HB⟩:=hcut
  cases kq with
  | zero=>exact absurd HA.out (by simp[rule_reader_rule.j0])
  | succ kj8=>?_
  have H:=HA.out
  clear HA
  simp only[rule_reader_rule.j0] at H
  by_cases c21:t445=5
  ·rw[if_pos c21] at H
   have c21b0:(t445==5)=true:=beq_iff_eq.mpr c21
   have c21b1:(t445 !=5)=false:=bne_eq_false_iff_eq.mpr c21
   clear c21
   replace H:=Option.bind_eq_some_iff.mp H
   obtain⟨⟨t457,t458,t459,t460,t461,t462,t463,t464,t465,t466⟩,A220,H⟩:=H
   dsimp only at H
   have A22:=am_ A220
   clear A220
   simp only[Option.some.injEq,Prod.mk.injEq] at H
   obtain⟨rfl,rfl,rfl,rfl,rfl,rfl,rfl,rfl,rfl,rfl,rfl,rfl⟩:=H
   go_wp2_with (first|((with_reducible refine gate_dst (N:=7) rfl ?_);refine be_ 7 #[.int .i64 0,.slice none 0 0,.string (⟨#[]⟩:ByteArray)] 41 ?_;intro gb456 hg w23 hbox hb;have n0_:=bb_ BK434 hb;have n1_:=am_ (IsS91.below (is91_ HI0) hb);have n2_:=am_ (KeepBut.trans (kp_ HK) (KeepBut.of_below hb g none) (.inl rfl));have n3_:=am_ (below_step (bs91_ HB HI0) hb);have n4_:=am_ (hbox);have n5_:=am_ ((by rw[hg];exact(keep_size (w:=w) (g:=g) (row:=none) (kp_ HK)):w.heap.size≤gb456));have n6_:=am_ ((Nat.le_trans HW0.out (by rw[hg];exact(keep_size (w:=w) (g:=g) (row:=none) (kp_ HK)):w.heap.size≤gb456):w0.heap.size≤gb456));have n7_:=na_ BK434 hg;have n8_:=nb_ BK434 hg;have n9_:=am_ ((by rw[hg];exact Nat.ne_of_lt (IsS91.lt (show IsS91 w0 _ g x1000_8 x1001_8 x1002_8 x1003_8 x1004_8 x1005_8 x1006_8 x1007_8 x1008_8 from is91_ HI0)):g≠gb456));have n10_:=am_ ((by rw[hg];exact Nat.ne_of_gt (IsS91.lt (show IsS91 w0 _ g x1000_8 x1001_8 x1002_8 x1003_8 x1004_8 x1005_8 x1006_8 x1007_8 x1008_8 from is91_ HI0)):gb456≠g));clear BK434;clear HI0;clear HK;clear HB;revert n0_ n1_ n2_ n3_ n4_ n5_ n6_ n7_ n8_ n9_ n10_;intro BK434 HI0 HK HB BK456 GW456 GE456 NB434_456 NB456_434 NB0_456 NB456_0;clear hb hbox hg;have hnb24:=NB456_434.out;have hnc24:=NB434_456.out;have hnb25:=NB456_0.out;have hnc25:=NB0_456.out;obtain⟨hcz26_0,hcz26_1,hcz26_2,hfz26_0,hfz26_1,hfz26_2⟩:=bo3_ BK456)|((with_reducible refine gate_callee (f:=88) rfl ?_);refine gl_ (some 70) Tryz.func88 #[.pointer (some ⟨g,0,none⟩)] ?_;(with_reducible refine(rule_reader_sample.calls _ _ _ _ _ _ _ _ _ _ _ _ _ _ _ _ _ _ _ _ _ w0 _ ?side1 ?side2 A22.out).mono ?_);(case side1=>exact is91_ HI0);(case side2=>exact bs91_ HB HI0);rintro e w27 ⟨rfl,hi,hb,hk⟩;refine⟨_,rfl,?_⟩;have n0_:=am_ (KeepBut.blk hk (g':=gb434) (o:= .cells #[.int .i64 0,.slice none 0 0,.string (⟨#[]⟩:ByteArray)] 41 (0,0)) ((bf_ BK434).out) NB434_0.out (by simp));have n1_:=am_ (KeepBut.blk hk (g':=gb456) (o:= .cells #[.int .i64 t445,.slice none 0 0,.string (⟨#[]⟩:ByteArray)] 41 (0,0)) ((bp_ BK456).out) NB456_0.out (by simp));have n2_:=am_ (KeepBut.trans (kp_ HK) hk (.inl rfl));have n3_:=am_ (hb);have n4_:=am_ (hi);clear BK434;clear BK456;clear HK;clear HB;clear HI0;revert n0_ n1_ n2_ n3_ n4_;intro BK434 BK456 HK HB HI0;(try clear hb);(try clear hk);(try clear hi);obtain⟨hcz28_0,hcz28_1,hcz28_2,hfz28_0,hfz28_1,hfz28_2⟩:=bo3_ BK456;have hnb29:=NB434_0.out;have hnc29:=NB0_434.out;obtain⟨hcz30_0,hcz30_1,hcz30_2,hfz30_0,hfz30_1,hfz30_2⟩:=bo3_ BK434))
   refine bodyPost_ret (results_cell_row rfl _ _ gb434 41 #[.int .i64 t445,.slice none 0 0,.string t457] (0,0) _ rfl ((bp_ BK434).out) Tryz.underlying41 rfl (by kernel_rfl)) rfl ?_
   exact⟨_,by first|rfl|(simp[errW_none,errW_some] <;> rfl)|(simp[*,errW_none,errW_some] <;> first|rfl|exact given_isEmpty _|exact(given_isEmpty _).symm),by first|exact Kd.R_nil _ _ _ _ _|exact Kd.N_nil _ _ _ _ _|exact Kd.V_nil _ _ _ _ _|exact Kd.Q_nil _ _ _ _ _|exact Kd.S_nil _ _ _ _ _,is91_ HI0,bs91_ HB HI0,kp_ HK⟩
  rw[if_neg c21] at H
  have c21b0:(t445==5)=false:=beq_eq_false_iff_ne.mpr c21
  have c21b1:(t445 !=5)=true:=bne_iff_ne.mpr c21
  replace H:=Option.bind_eq_some_iff.mp H
  obtain⟨⟨t467,t470,t471,t472,t473,t474,t475,t476,t477,t478⟩,A310,H⟩:=H
  dsimp only at H
  have A31:=am_ A310
  clear A310
  replace H:=ifn_ H
  obtain⟨c32,H⟩:=H
  have LMc32:=am_ c32
  clear c32
  obtain⟨y479,hy479⟩:∃y_:List (List (S53)),y_=(([]:List (List (S53)))++[t467]):=⟨_,rfl⟩
  replace H:(rule_reader_rule.l0 kj8 t470 t471 t472 t473 t474 t475 t476 t477 t478 t445 y479 (⟨#[]⟩:ByteArray))=some (r1,r2,r3,r4,r5,r6,r7,r8,r9,r10,r11,r12):=by first|(rw[hy479];with_reducible exact H)|(have H2_:=(Option.bind_some _ _).symm.trans H;rw[hy479];with_reducible exact H2_)|(have H2_:=(Option.bind_some _ _).symm.trans H;with_reducible exact H2_)|with_reducible exact H|(rw[hy479];exact H)|exact H
  have Ny479:=am_ hy479
  clear hy479
  have H':=am_ H
  clear H
  try go_wp2_with (first|((with_reducible refine gate_dst (N:=7) rfl ?_);refine be_ 7 #[.int .i64 0,.slice none 0 0,.string (⟨#[]⟩:ByteArray)] 41 ?_;intro gb456 hg w33 hbox hb;have n0_:=bb_ BK434 hb;have n1_:=am_ (IsS91.below (is91_ HI0) hb);have n2_:=am_ (KeepBut.trans (kp_ HK) (KeepBut.of_below hb g none) (.inl rfl));have n3_:=am_ (below_step (bs91_ HB HI0) hb);have n4_:=am_ (hbox);have n5_:=am_ ((by rw[hg];exact(keep_size (w:=w) (g:=g) (row:=none) (kp_ HK)):w.heap.size≤gb456));have n6_:=am_ ((Nat.le_trans HW0.out (by rw[hg];exact(keep_size (w:=w) (g:=g) (row:=none) (kp_ HK)):w.heap.size≤gb456):w0.heap.size≤gb456));have n7_:=na_ BK434 hg;have n8_:=nb_ BK434 hg;have n9_:=am_ ((by rw[hg];exact Nat.ne_of_lt (IsS91.lt (show IsS91 w0 _ g x1000_8 x1001_8 x1002_8 x1003_8 x1004_8 x1005_8 x1006_8 x1007_8 x1008_8 from is91_ HI0)):g≠gb456));have n10_:=am_ ((by rw[hg];exact Nat.ne_of_gt (IsS91.lt (show IsS91 w0 _ g x1000_8 x1001_8 x1002_8 x1003_8 x1004_8 x1005_8 x1006_8 x1007_8 x1008_8 from is91_ HI0)):gb456≠g));clear BK434;clear HI0;clear HK;clear HB;revert n0_ n1_ n2_ n3_ n4_ n5_ n6_ n7_ n8_ n9_ n10_;intro BK434 HI0 HK HB BK456 GW456 GE456 NB434_456 NB456_434 NB0_456 NB456_0;clear hb hbox hg;have hnb34:=NB456_434.out;have hnc34:=NB434_456.out;have hnb35:=NB456_0.out;have hnc35:=NB0_456.out;obtain⟨hcz36_0,hcz36_1,hcz36_2,hfz36_0,hfz36_1,hfz36_2⟩:=bo3_ BK456))
  obtain⟨w37,hWz1⟩:∃W_,W_=(((w33.setCell ⟨gb456,0,none⟩ (.int .i64 t445)).setCell ⟨gb456,1,none⟩ (.slice none 0 0)).setCell ⟨gb456,2,none⟩ (.string (⟨#[]⟩:ByteArray))):=⟨_,rfl⟩
  have n0_:=wh_ hWz1 (bf_ BK434)
  have n1_:Aside0 (w37.heap[gb456]? = some (.cells #[.int .i64 t445,.slice none 0 0,.string (⟨#[]⟩:ByteArray)] 41 (0,0))):=by rw[hWz1];exact⟨(bp_ BK456).out⟩
  have n2_:Aside0 (IsS91 w0 w37 g x1000_8 x1001_8 x1002_8 x1003_8 x1004_8 x1005_8 x1006_8 x1007_8 x1008_8):=by rw[hWz1];exact⟨is91_ HI0⟩
  have n3_:Aside0 (KeepBut w w37 g none):=by rw[hWz1];exact⟨kp_ HK⟩
  have n4_:Aside0 (Below w0.heap.size w0 w37):=by rw[hWz1];exact⟨bs91_ HB HI0⟩
  (try clear BK434)
  (try clear BK456)
  (try clear HI0)
  (try clear HK)
  (try clear HB)
  rw[← hWz1]
  clear hWz1
  revert n0_ n1_ n2_ n3_ n4_
  intro BK434 BK456 HI0 HK HB
  replace BK434:=am_ (blk_drew BK434.out)
  replace BK456:=am_ (blk_drew BK456.out)
  replace HI0:=am_ (IsS91.drew HI0.out)
  replace HK:=am_ (keep_drew HK.out)
  replace HB:=am_ (below_drew1 HB.out)
  refine start_ (n:=8) (S:=fun w'=>w'.cell? ⟨gb456,0,none⟩=some (.int .i64 t445)∧w'.cell? ⟨gb456,1,none⟩=some (.slice none 0 0)∧w'.cell? ⟨gb456,2,none⟩=some (.string (⟨#[]⟩:ByteArray))) (ds:=[7]) #[false,false,false,false,false,false,false,false] (by kernel_rfl) rfl rfl ⟨bc_ BK456 0,bc_ BK456 1,bc_ BK456 2⟩ (fun hHeld=>?_);refine with_tabW rule_reader_rule.tab13 rule_reader_rule.bits13 (fun HT_ HW_=>?_)
  generalize w37.drew=w38 at BK434 BK456 HI0 HK HB hHeld ⊢
  refine pu_ 0 53 #[true,false,false,false,false,false,false,false] HT_ ?_
  refine pu_ 2 55 #[true,false,true,false,false,false,false,false] HT_ ?_
  refine tk_ 1 54 #[true,true,true,false,false,false,false,false] HT_ HW_ hHeld rfl (by rintro w' ⟨s0,s1,s2⟩;go_simp;with_reducible rfl) ?_
  refine one_ (i:=3) (N:=some 56) #[true,true,true,true,false,false,false,false] rfl rfl (one_of HT_.out (by kernel_rfl)) (by decide) (fun K hK=>?_)
  refine gs_ Tryz.func86 #[.pointer (some ⟨g,0,none⟩)] ?_
  with_reducible refine(rule_reader_all.calls _ _ _ _ _ _ _ _ _ _ _ _ _ _ _ _ _ _ _ _ _ w0 _ ?side1 ?side2 A31.out).mono ?_
  (case side1=>exact is91_ HI0)
  (case side2=>exact bs91_ HB HI0)
  rintro e w39 ⟨v468,rfl,ho0,hi,hb,hk⟩
  refine⟨_,rfl,?_⟩
  have n0_:=am_ (KeepBut.blk hk (bk_ BK434).out NB434_0.out (by simp))
  have n1_:=am_ (KeepBut.blk hk (bk_ BK456).out NB456_0.out (by simp))
  have n2_:=am_ (Kd.N_lower (Kd.N_mono (ok':=fun k_=>(w.heap.size≤k_)∧k_≠gb434∧k_≠gb456∧k_≠g) ho0 (fun k_ hk_=>⟨(Nat.le_trans (keep_size (w:=w) (g:=g) (row:=none) (kp_ HK)) hk_),(Kd.freshB (bk_ BK434).out k_ hk_),(Kd.freshB (bk_ BK456).out k_ hk_),(IsS91.fresh (is91_ HI0) k_ hk_)⟩)) (keep_size (w:=w) (g:=g) (row:=none) (kp_ HK)))
  have n3_:=am_ (KeepBut.trans (kp_ HK) hk (.inl rfl))
  have n4_:=am_ (hb)
  have n5_:=am_ (hi)
  clear BK434
  clear BK456
  clear HK
  clear HB
  clear HI0
  revert n0_ n1_ n2_ n3_ n4_ n5_
  intro BK434 BK456 HO469 HK HB HI0
  (try clear hb)
  (try clear hb2)
  (try clear hk)
  (try clear hi)
  (try clear ho0)
  obtain⟨Ao41,co41,eo41⟩:=Kd.N_slice HO469.out
  (first|subst eo41|(injection eo41 with f1_ f2_ f3_;have f4_:=f1_.symm;have f5_:=f3_.symm;clear f1_ f2_ f3_;subst f4_;subst f5_))
  refine hK.out _ _ ⟨bc_ BK456 0,bc_ BK456 1,bc_ BK456 2⟩ (fun hHeld=>?_)
  clear hK K
  refine nm_ 56 ?_
  refine one_ (i:=4) (N:=some 57) #[true,true,true,true,true,false,false,false] rfl rfl (one_of HT_.out (by kernel_rfl)) (by decide) (fun K hK=>?_)
  refine value_ (w1:=?_) (v:=?_) (by rfl) rfl ?_ ?_
  rotate_left 2
  ·go_simp
   constructor
   ·rfl
   rfl
  refine hK.out _ _ ⟨(blk_cell (blk_alloc BK456.out _) 0).trans rfl,(blk_cell (blk_alloc BK456.out _) 1).trans rfl,(blk_cell (blk_alloc BK456.out _) 2).trans rfl⟩ (fun hHeld=>?_)
  clear hK K
  refine nm_ 57 ?_
  refine one_ (i:=5) (N:=some 58) #[true,true,true,true,true,true,false,false] rfl rfl (one_of HT_.out (by kernel_rfl)) (by decide) (fun K hK=>?_)
  refine Kd.N_append_step (Kd.slice 53 k53) w.heap.size (by rfl) (.tmp 54) (.tmp 57) 39 54 (.slice none 0 0) 24 rfl Tryz.underlying39 info54 rfl (by decide) (by omega) (.slice none 0 0) ([]:List (List (S53))) t467 [.slice Ao41 t467.length co41] (fun k_=>(w.heap.size≤k_)∧k_≠gb434∧k_≠gb456∧k_≠g) (fun k_=>((fun k_=>(w.heap.size≤k_)∧k_≠gb434∧k_≠gb456∧k_≠g)) k_∧some k_≠(.slice none 0 0:Value).ownBlock) rfl rfl ?aP (fun _ hk=>hk) ?aF ?aO (Below.refl _ _) ?aS ?aL ?_
  (case aP=>exact(Kd.FK_slice_mk (Kd.N_reads' (Kd.N_mono (ok':=(fun k_=>((fun k_=>(w.heap.size≤k_)∧k_≠gb434∧k_≠gb456∧k_≠g)) k_∧some k_≠(.slice none 0 0:Value).ownBlock)) (HO469.out) (fun k_ hk=>⟨⟨hk.1,⟨hk.2.1,⟨hk.2.2.1,hk.2.2.2⟩⟩⟩,(by simp[Value.ownBlock])⟩))).2.1 (Kd.N_F (Kd.N_mono (ok':=(fun k_=>((fun k_=>(w.heap.size≤k_)∧k_≠gb434∧k_≠gb456∧k_≠g)) k_∧some k_≠(.slice none 0 0:Value).ownBlock)) (HO469.out) (fun k_ hk=>⟨⟨hk.1,⟨hk.2.1,⟨hk.2.2.1,hk.2.2.2⟩⟩⟩,(by simp[Value.ownBlock])⟩)))))
  (case aF=>exact(fun k_ hk=>⟨(Nat.le_trans (keep_size (w:=w) (g:=g) (row:=none) (kp_ HK)) hk),Kd.freshB (bk_ BK434).out k_ hk,Kd.freshB (bk_ BK456).out k_ hk,IsS91.fresh (is91_ HI0) k_ hk⟩))
  (case aO=>exact((Kd.N_nil _ _ _ _ (fun k_=>(w.heap.size≤k_)∧k_≠gb434∧k_≠gb456∧k_≠g))))
  (case aS=>exact(keep_size (w:=w) (g:=g) (row:=none) (kp_ HK)))
  (case aL=>have:=LMc32.out;omega)
  intro v480 w40 ho hb hg hat
  rw[← Ny479.out] at ho
  have n0_:=am_ (blk_grown (bk_ BK434).out hg (by simp[Value.ownBlock]))
  have n1_:=am_ (IsS91.grown (is91_ HI0) hg (by simp[Value.ownBlock]))
  have n2_:=am_ (blk_grown (bk_ BK456).out hg (by simp[Value.ownBlock]))
  have n3_:=am_ (below_weaken (bs91_ HB HI0) HL.out hb)
  have n4_:=am_ (KeepBut.trans (kp_ HK) (KeepBut.of_grown hg g) (.inl (by simp[Value.ownBlock])))
  have n5_:=am_ (ho)
  clear BK434
  clear HI0
  clear BK456
  clear HB
  clear HK
  clear HO469
  revert n0_ n1_ n2_ n3_ n4_ n5_
  intro BK434 HI0 BK456 HB HK HO481
  clear ho hb hg hat
  obtain⟨Ao42,co42,eo42⟩:=Kd.N_slice HO481.out
  (first|subst eo42|(injection eo42 with f1_ f2_ f3_;have f4_:=f1_.symm;have f5_:=f3_.symm;clear f1_ f2_ f3_;subst f4_;subst f5_))
  refine hK.out _ _ ⟨bc_ BK456 0,bc_ BK456 1,bc_ BK456 2⟩ (fun hHeld=>?_)
  clear hK K
  refine nm_ 58 ?_
  refine pu_ 6 59 #[true,true,true,true,true,true,true,false] HT_ ?_
  refine last_ (i:=7) (N:=none) #[true,true,true,true,true,true,true,true] rfl rfl (one_of HT_.out (by kernel_rfl)) (by decide) (fun K hK=>?_)
  have hs43:w40.cell? ⟨gb456,1,none⟩=some (.slice none 0 0):=bc_ BK456 1
  have hfs43:=blk_frozen BK456.out 1
  have hns43_0:=NB434_456.out
  have hms43_0:=NB456_434.out
  refine skip_ (w1:=?_) (by rfl) rfl ?_ ?_
  rotate_left
  ·go_simp
   rfl
  refine hK.out _ _ ?_
  clear hK K
  refine done_ (done_of HT_.out (by kernel_rfl)) ?_
  try go_wp2
  go_loopg [] kj8 (fun kq w'=>∃(x1000_2:ByteArray) (x1001_2:Int) (x1002_2:Int) (x1003_2:Bool) (x1004_2:Bool) (x1005_2:Bool) (x1006_2:Bool) (x1007_2:Bool) (x1008_2:Bool) (x457001_2:List (List (S53))) (u457001:Value),Aside0 (rule_reader_rule.l0 kq x1000_2 x1001_2 x1002_2 x1003_2 x1004_2 x1005_2 x1006_2 x1007_2 x1008_2 t445 x457001_2 (⟨#[]⟩:ByteArray)=some (r1,r2,r3,r4,r5,r6,r7,r8,r9,r10,r11,r12))∧Aside0 (kq≤kj8)∧Aside0 (Kd.N (Kd.slice 53 k53) 54 w' w.heap.size (fun k_=>(w.heap.size≤k_)∧k_≠gb434∧k_≠gb456∧k_≠g) u457001 x457001_2)∧Aside0 (w'.heap[gb434]? = some (.cells #[.int .i64 0,(.slice none 0 0),.string (⟨#[]⟩:ByteArray)] 41 (0,0)))∧Aside0 (w'.heap[gb456]? = some (.cells #[.int .i64 t445,u457001,.string (⟨#[]⟩:ByteArray)] 41 (0,0)))∧Aside0 (IsS91 w0 w' g x1000_2 x1001_2 x1002_2 x1003_2 x1004_2 x1005_2 x1006_2 x1007_2 x1008_2)∧Aside0 (KeepBut w w' g none)∧Aside0 (Below w0.heap.size w0 w'))
  case atStart=>exact⟨(t470),(t471),(t472),(t473),(t474),(t475),(t476),(t477),(t478),(y479),(.slice Ao42 y479.length co42),H',⟨Nat.le_refl _⟩,⟨kdN_ (Kd.N_mono (Kd.N_far (Kd.N_mono HO481.out (fun k_ hk=>(⟨hk,hk.2.2.1⟩:_∧k_≠gb456))) (fun _ hk=>hk.2) _) (fun _ hk=>⟨hk.1.1,⟨hk.1.2.1,⟨hk.1.2.2.1,hk.1.2.2.2⟩⟩⟩))⟩,⟨(bf_ BK434).out⟩,⟨(bp_ BK456).out⟩,⟨is91_ HI0⟩,⟨kp_ HK⟩,⟨bs91_ HB HI0⟩⟩
  clear H'
  obtain⟨x1000_2,x1001_2,x1002_2,x1003_2,x1004_2,x1005_2,x1006_2,x1007_2,x1008_2,x457001_2,u457001,HA,HK2,HO_457001,BK434,BK456,HI0,HK,HB⟩:=hrel
  cases gk with
  | zero=>exact absurd HA.out (by simp[rule_reader_rule.l0])
  | succ k2=>?_
  have H:=HA.out
  clear HA
  simp only[rule_reader_rule.l0] at H
  replace H:=Option.bind_eq_some_iff.mp H
  obtain⟨⟨t482,t483,t484,t485,t486,t487,t488,t489,t490,t491⟩,A440,H⟩:=H
  dsimp only at H
  have A44:=am_ A440
  clear A440
  by_cases c45:t482=true
  ·subst c45
   rw[if_pos rfl] at H
   replace H:=Option.bind_eq_some_iff.mp H
   obtain⟨⟨t492,t495,t496,t497,t498,t499,t500,t501,t502,t503⟩,A460,H⟩:=H
   dsimp only at H
   have A46:=am_ A460
   clear A460
   replace H:=ifn_ H
   obtain⟨c47,H⟩:=H
   have LMc47:=am_ c47
   clear c47
   obtain⟨y504,hy504⟩:∃y_:List (List (S53)),y_=(x457001_2++[t492]):=⟨_,rfl⟩
   replace H:(rule_reader_rule.l0 k2 t495 t496 t497 t498 t499 t500 t501 t502 t503 t445 y504 (⟨#[]⟩:ByteArray))=some (r1,r2,r3,r4,r5,r6,r7,r8,r9,r10,r11,r12):=by first|(rw[hy504];with_reducible exact H)|(have H2_:=(Option.bind_some _ _).symm.trans H;rw[hy504];with_reducible exact H2_)|(have H2_:=(Option.bind_some _ _).symm.trans H;with_reducible exact H2_)|with_reducible exact H|(rw[hy504];exact H)|exact H
   have Ny504:=am_ hy504
   clear hy504
   have H':=am_ H
   clear H
   try go_wp2_with (first|((with_reducible refine gate_callee (f:=87) rfl ?_);refine gl_ (some 61) Tryz.func87 #[.pointer (some ⟨g,0,none⟩),.string (⟨#[111,114]⟩:ByteArray)] ?_;(with_reducible refine(rule_reader_next.calls _ _ _ _ _ _ _ _ _ _ _ _ _ _ _ _ _ _ _ _ _ _ w0 _ ?side1 ?side2 A44.out).mono ?_);(case side1=>exact is91_ HI0);(case side2=>exact bs91_ HB HI0);rintro e w48 ⟨rfl,hi,hb,hk⟩;refine⟨_,rfl,?_⟩;have n0_:=am_ (Kd.N_mono (Kd.N_keep (Kd.N_mono (ok:=fun k_=>(((w.heap.size≤k_))∧(k_≠gb434∧(k_≠gb456∧k_≠g)))) (krN_ HO_457001) (fun k_ hk_=>(⟨hk_,hk_.2.2.2⟩:_∧k_≠g))) hk (fun _ h=>h.2)) (fun _ h=>h.1));have n1_:=am_ (KeepBut.blk hk (bk_ BK434).out NB434_0.out (by simp));have n2_:=am_ (KeepBut.blk hk (bk_ BK456).out NB456_0.out (by simp));have n3_:=am_ (KeepBut.trans (kp_ HK) hk (.inl rfl));have n4_:=am_ (hb);have n5_:=am_ (hi);clear HO_457001;clear BK434;clear BK456;clear HK;clear HB;clear HI0;revert n0_ n1_ n2_ n3_ n4_ n5_;intro HO_457001 BK434 BK456 HK HB HI0;(try clear hb);(try clear hk);(try clear hi)))
   replace HO_457001:=am_ (Kd.N_drew HO_457001.out)
   replace BK434:=am_ (blk_drew BK434.out)
   replace BK456:=am_ (blk_drew BK456.out)
   replace HI0:=am_ (IsS91.drew HI0.out)
   replace HK:=am_ (keep_drew HK.out)
   replace HB:=am_ (below_drew1 HB.out)
   refine start_ (n:=8) (S:=fun w'=>w'.cell? ⟨gb456,0,none⟩=some (.int .i64 t445)∧w'.cell? ⟨gb456,1,none⟩=some (u457001)∧w'.cell? ⟨gb456,2,none⟩=some (.string (⟨#[]⟩:ByteArray))) (ds:=[7]) #[false,false,false,false,false,false,false,false] (by kernel_rfl) rfl rfl ⟨bc_ BK456 0,bc_ BK456 1,bc_ BK456 2⟩ (fun hHeld=>?_);refine with_tabW rule_reader_rule.tab15 rule_reader_rule.bits15 (fun HT_ HW_=>?_)
   generalize w48.drew=w49 at HO_457001 BK434 BK456 HI0 HK HB hHeld ⊢
   refine pu_ 0 62 #[true,false,false,false,false,false,false,false] HT_ ?_
   refine pu_ 2 64 #[true,false,true,false,false,false,false,false] HT_ ?_
   refine tk_ 1 63 #[true,true,true,false,false,false,false,false] HT_ HW_ hHeld rfl (by rintro w' ⟨s0,s1,s2⟩;go_simp;with_reducible rfl) ?_
   refine one_ (i:=3) (N:=some 65) #[true,true,true,true,false,false,false,false] rfl rfl (one_of HT_.out (by kernel_rfl)) (by decide) (fun K hK=>?_)
   refine gs_ Tryz.func86 #[.pointer (some ⟨g,0,none⟩)] ?_
   with_reducible refine(rule_reader_all.calls _ _ _ _ _ _ _ _ _ _ _ _ _ _ _ _ _ _ _ _ _ w0 _ ?side1 ?side2 A46.out).mono ?_
   (case side1=>exact is91_ HI0)
   (case side2=>exact bs91_ HB HI0)
   rintro e w50 ⟨v493,rfl,ho0,hi,hb,hk⟩
   refine⟨_,rfl,?_⟩
   have n0_:=am_ (Kd.N_mono (Kd.N_told (Kd.N_oldK (Kd.N_mono (ok:=fun k_=>(((w.heap.size≤k_))∧(k_≠gb434∧(k_≠gb456∧k_≠g)))) (krN_ HO_457001) (fun k_ hk_=>(⟨hk_,hk_.2.2.2⟩:_∧k_≠g))) hk) (Kd.N_base ho0)) (fun _ h_=>h_.1))
   have n1_:=am_ (KeepBut.blk hk (bk_ BK434).out NB434_0.out (by simp))
   have n2_:=am_ (KeepBut.blk hk (bk_ BK456).out NB456_0.out (by simp))
   have n3_:=am_ (Kd.N_lower (Kd.N_mono (ok':=fun k_=>(w.heap.size≤k_)∧some k_≠(u457001:Value).ownBlock∧k_≠gb434∧k_≠gb456∧k_≠g) ho0 (fun k_ hk_=>⟨(Nat.le_trans (keep_size (w:=w) (g:=g) (row:=none) (kp_ HK)) hk_),(Kd.fresh' (Kd.N_lt (krN_ HO_457001)) k_ hk_),(Kd.freshB (bk_ BK434).out k_ hk_),(Kd.freshB (bk_ BK456).out k_ hk_),(IsS91.fresh (is91_ HI0) k_ hk_)⟩)) (keep_size (w:=w) (g:=g) (row:=none) (kp_ HK)))
   have n4_:=am_ (KeepBut.trans (kp_ HK) hk (.inl rfl))
   have n5_:=am_ (hb)
   have n6_:=am_ (hi)
   clear HO_457001
   clear BK434
   clear BK456
   clear HK
   clear HB
   clear HI0
   revert n0_ n1_ n2_ n3_ n4_ n5_ n6_
   intro HO_457001 BK434 BK456 HO494 HK HB HI0
   (try clear hb)
   (try clear hb2)
   (try clear hk)
   (try clear hi)
   (try clear ho0)
   obtain⟨Ao52,co52,eo52⟩:=Kd.N_slice HO494.out
   (first|subst eo52|(injection eo52 with f1_ f2_ f3_;have f4_:=f1_.symm;have f5_:=f3_.symm;clear f1_ f2_ f3_;subst f4_;subst f5_))
   refine hK.out _ _ ⟨bc_ BK456 0,bc_ BK456 1,bc_ BK456 2⟩ (fun hHeld=>?_)
   clear hK K
   refine nm_ 65 ?_
   refine one_ (i:=4) (N:=some 66) #[true,true,true,true,true,false,false,false] rfl rfl (one_of HT_.out (by kernel_rfl)) (by decide) (fun K hK=>?_)
   refine value_ (w1:=?_) (v:=?_) (by rfl) rfl ?_ ?_
   rotate_left 2
   ·go_simp
    constructor
    ·rfl
    rfl
   refine hK.out _ _ ⟨(blk_cell (blk_alloc BK456.out _) 0).trans rfl,(blk_cell (blk_alloc BK456.out _) 1).trans rfl,(blk_cell (blk_alloc BK456.out _) 2).trans rfl⟩ (fun hHeld=>?_)
   clear hK K
   refine nm_ 66 ?_
   refine one_ (i:=5) (N:=some 67) #[true,true,true,true,true,true,false,false] rfl rfl (one_of HT_.out (by kernel_rfl)) (by decide) (fun K hK=>?_)
   refine Kd.N_append_step (Kd.slice 53 k53) w.heap.size (by rfl) (.tmp 63) (.tmp 66) 39 54 (.slice none 0 0) 24 rfl Tryz.underlying39 info54 rfl (by decide) (by omega) u457001 x457001_2 t492 [.slice Ao52 t492.length co52] (fun k_=>(w.heap.size≤k_)∧k_≠gb434∧k_≠gb456∧k_≠g) (fun k_=>((fun k_=>(w.heap.size≤k_)∧k_≠gb434∧k_≠gb456∧k_≠g)) k_∧some k_≠(u457001:Value).ownBlock) rfl rfl ?aP (fun _ hk=>hk) ?aF ?aO (Below.refl _ _) ?aS ?aL ?_
   (case aP=>exact(Kd.FK_slice_mk (Kd.N_reads' (Kd.N_mono (ok':=(fun k_=>((fun k_=>(w.heap.size≤k_)∧k_≠gb434∧k_≠gb456∧k_≠g)) k_∧some k_≠(u457001:Value).ownBlock)) (HO494.out) (fun k_ hk=>⟨⟨hk.1,⟨hk.2.2.1,⟨hk.2.2.2.1,hk.2.2.2.2⟩⟩⟩,hk.2.1⟩))).2.1 (Kd.N_F (Kd.N_mono (ok':=(fun k_=>((fun k_=>(w.heap.size≤k_)∧k_≠gb434∧k_≠gb456∧k_≠g)) k_∧some k_≠(u457001:Value).ownBlock)) (HO494.out) (fun k_ hk=>⟨⟨hk.1,⟨hk.2.2.1,⟨hk.2.2.2.1,hk.2.2.2.2⟩⟩⟩,hk.2.1⟩)))))
   (case aF=>exact(fun k_ hk=>⟨(Nat.le_trans (keep_size (w:=w) (g:=g) (row:=none) (kp_ HK)) hk),Kd.freshB (bk_ BK434).out k_ hk,Kd.freshB (bk_ BK456).out k_ hk,IsS91.fresh (is91_ HI0) k_ hk⟩))
   (case aO=>exact(kdN_ (Kd.N_mono HO_457001.out (fun _ hk=>⟨hk.1.1,⟨hk.1.2.1,⟨hk.1.2.2.1,hk.1.2.2.2⟩⟩⟩))))
   (case aS=>exact(keep_size (w:=w) (g:=g) (row:=none) (kp_ HK)))
   (case aL=>have:=LMc47.out;omega)
   intro v505 w51 ho hb hg hat
   rw[← Ny504.out] at ho
   have n0_:=am_ (blk_grown (bk_ BK434).out hg (Kd.N_ne HO_457001.out BK434.out (by decide)))
   have n1_:=am_ (blk_grown (bk_ BK456).out hg (Kd.N_ne HO_457001.out BK456.out (by decide)))
   have n2_:=am_ (IsS91.grown (is91_ HI0) hg (IsS91.own_neN HI0.out HO_457001.out (by decide)))
   have n3_:=am_ (below_weaken (bs91_ HB HI0) HL.out hb)
   have n4_:=am_ (KeepBut.trans (kp_ HK) (KeepBut.of_grown hg g) (Kd.N_base2 HO_457001.out))
   have n5_:=am_ (ho)
   clear BK434
   clear BK456
   clear HI0
   clear HB
   clear HK
   clear HO_457001
   clear HO494
   revert n0_ n1_ n2_ n3_ n4_ n5_
   intro BK434 BK456 HI0 HB HK HO506
   clear ho hb hg hat
   obtain⟨Ao53,co53,eo53⟩:=Kd.N_slice HO506.out
   (first|subst eo53|(injection eo53 with f1_ f2_ f3_;have f4_:=f1_.symm;have f5_:=f3_.symm;clear f1_ f2_ f3_;subst f4_;subst f5_))
   refine hK.out _ _ ⟨bc_ BK456 0,bc_ BK456 1,bc_ BK456 2⟩ (fun hHeld=>?_)
   clear hK K
   refine nm_ 67 ?_
   refine pu_ 6 68 #[true,true,true,true,true,true,true,false] HT_ ?_
   refine last_ (i:=7) (N:=none) #[true,true,true,true,true,true,true,true] rfl rfl (one_of HT_.out (by kernel_rfl)) (by decide) (fun K hK=>?_)
   have hs54:w51.cell? ⟨gb456,1,none⟩=some (u457001):=bc_ BK456 1
   have hfs54:=blk_frozen BK456.out 1
   have hns54_0:=NB434_456.out
   have hms54_0:=NB456_434.out
   refine skip_ (w1:=?_) (by rfl) rfl ?_ ?_
   rotate_left
   ·go_simp
    rfl
   refine hK.out _ _ ?_
   clear hK K
   refine done_ (done_of HT_.out (by kernel_rfl)) ?_
   try go_wp2
   go_roundg k2
   case measure=>have:=HJ8.out;have:=HK2.out;omega
   case rel=>exact⟨(t495),(t496),(t497),(t498),(t499),(t500),(t501),(t502),(t503),(y504),(.slice Ao53 y504.length co53),H',⟨by have:=HJ8.out;have:=HK2.out;omega⟩,⟨kdN_ (Kd.N_mono (Kd.N_far (Kd.N_mono HO506.out (fun k_ hk=>(⟨hk,hk.2.2.1⟩:_∧k_≠gb456))) (fun _ hk=>hk.2) _) (fun _ hk=>⟨hk.1.1,⟨hk.1.2.1,⟨hk.1.2.2.1,hk.1.2.2.2⟩⟩⟩))⟩,⟨(bf_ BK434).out⟩,⟨(bp_ BK456).out⟩,⟨is91_ HI0⟩,⟨kp_ HK⟩,⟨bs91_ HB HI0⟩⟩
  replace c45:=Bool.eq_false_iff.mpr c45
  subst c45
  rw[if_neg (show ¬(false=true) by decide)] at H
  replace H:=Option.bind_eq_some_iff.mp H
  obtain⟨⟨t507,t508,t509,t510,t511,t512,t513,t514,t515,t516⟩,A550,H⟩:=H
  dsimp only at H
  have A55:=am_ A550
  clear A550
  simp only[Option.some.injEq,Prod.mk.injEq] at H
  obtain⟨rfl,rfl,rfl,rfl,rfl,rfl,rfl,rfl,rfl,rfl,rfl,rfl⟩:=H
  go_wp2_with (first|((with_reducible refine gate_callee (f:=87) rfl ?_);refine gl_ (some 61) Tryz.func87 #[.pointer (some ⟨g,0,none⟩),.string (⟨#[111,114]⟩:ByteArray)] ?_;(with_reducible refine(rule_reader_next.calls _ _ _ _ _ _ _ _ _ _ _ _ _ _ _ _ _ _ _ _ _ _ w0 _ ?side1 ?side2 A44.out).mono ?_);(case side1=>exact is91_ HI0);(case side2=>exact bs91_ HB HI0);rintro e w56 ⟨rfl,hi,hb,hk⟩;refine⟨_,rfl,?_⟩;have n0_:=am_ (Kd.N_mono (Kd.N_keep (Kd.N_mono (ok:=fun k_=>(((w.heap.size≤k_))∧(k_≠gb434∧(k_≠gb456∧k_≠g)))) (krN_ HO_457001) (fun k_ hk_=>(⟨hk_,hk_.2.2.2⟩:_∧k_≠g))) hk (fun _ h=>h.2)) (fun _ h=>h.1));have n1_:=am_ (KeepBut.blk hk (bk_ BK434).out NB434_0.out (by simp));have n2_:=am_ (KeepBut.blk hk (bk_ BK456).out NB456_0.out (by simp));have n3_:=am_ (KeepBut.trans (kp_ HK) hk (.inl rfl));have n4_:=am_ (hb);have n5_:=am_ (hi);clear HO_457001;clear BK434;clear BK456;clear HK;clear HB;clear HI0;revert n0_ n1_ n2_ n3_ n4_ n5_;intro HO_457001 BK434 BK456 HK HB HI0;(try clear hb);(try clear hk);(try clear hi))|((with_reducible refine gate_callee (f:=88) rfl ?_);refine gl_ (some 70) Tryz.func88 #[.pointer (some ⟨g,0,none⟩)] ?_;(with_reducible refine(rule_reader_sample.calls _ _ _ _ _ _ _ _ _ _ _ _ _ _ _ _ _ _ _ _ _ w0 _ ?side1 ?side2 A55.out).mono ?_);(case side1=>exact is91_ HI0);(case side2=>exact bs91_ HB HI0);rintro e w57 ⟨rfl,hi,hb,hk⟩;refine⟨_,rfl,?_⟩;have n0_:=am_ (Kd.N_mono (Kd.N_keep (Kd.N_mono (ok:=fun k_=>(((w.heap.size≤k_))∧(k_≠gb434∧(k_≠gb456∧k_≠g)))) (krN_ HO_457001) (fun k_ hk_=>(⟨hk_,hk_.2.2.2⟩:_∧k_≠g))) hk (fun _ h=>h.2)) (fun _ h=>h.1));have n1_:=am_ (KeepBut.blk hk (bk_ BK434).out NB434_0.out (by simp));have n2_:=am_ (KeepBut.blk hk (bk_ BK456).out NB456_0.out (by simp));have n3_:=am_ (KeepBut.trans (kp_ HK) hk (.inl rfl));have n4_:=am_ (hb);have n5_:=am_ (hi);clear HO_457001;clear BK434;clear BK456;clear HK;clear HB;clear HI0;revert n0_ n1_ n2_ n3_ n4_ n5_;intro HO_457001 BK434 BK456 HK HB HI0;(try clear hb);(try clear hk);(try clear hi);have hnb58:=NB456_434.out;have hnc58:=NB434_456.out;have hnb59:=NB456_0.out;have hnc59:=NB0_456.out;obtain⟨hcz60_0,hcz60_1,hcz60_2,hfz60_0,hfz60_1,hfz60_2⟩:=bo3_ BK456;have hnb61:=NB434_0.out;have hnc61:=NB0_434.out;obtain⟨hcz62_0,hcz62_1,hcz62_2,hfz62_0,hfz62_1,hfz62_2⟩:=bo3_ BK434;obtain⟨Ao63,co63,eo63⟩:=Kd.N_slice HO_457001.out;subst eo63))
  refine bodyPost_ret (results_cell_row rfl _ _ gb434 41 #[.int .i64 t445,.slice Ao63 x457001_2.length co63,.string t507] (0,0) _ rfl ((bp_ BK434).out) Tryz.underlying41 rfl (by kernel_rfl)) rfl ?_
  exact⟨_,by first|rfl|(simp[errW_none,errW_some] <;> rfl)|(simp[*,errW_none,errW_some] <;> first|rfl|exact given_isEmpty _|exact(given_isEmpty _).symm),kdN_ (Kd.N_mono (Kd.N_far (Kd.N_far (Kd.N_far (Kd.N_far (Kd.N_mono (Kd.N_mono HO_457001.out (fun k_ hk=>(⟨hk,hk.2.2.1⟩:_∧k_≠gb456))) (fun k_ hk=>(⟨hk,hk.1.2.1⟩:_∧k_≠gb434))) (fun _ hk=>hk.1.2) (.string t507)) (fun _ hk=>hk.2) _) (fun _ hk=>hk.2) _) (fun _ hk=>hk.2) _) (fun _ hk=>hk.1.1.1)),is91_ HI0,bs91_ HB HI0,kp_ HK⟩
 replace c4:=Bool.eq_false_iff.mpr c4
 subst c4
 rw[if_neg (show ¬(false=true) by decide)] at H
 exact absurd H (by simp)

mutual
def rule_reader_rules.j2:Nat→List (S41)→ByteArray→Int→Int→Bool→Bool→Bool→Bool→Bool→Bool→Option ((List (S41)) × ByteArray × Int × Int × Bool × Bool × Bool × Bool × Bool × Bool)
 | 0,_,_,_,_,_,_,_,_,_,_=>none
 | k+1,x3,x1000,x1001,x1002,x1003,x1004,x1005,x1006,x1007,x1008=>(rule_reader_peek.f k x1000 x1001 x1002 x1003 x1004 x1005 x1006 x1007 x1008).bind fun bt554=>(if bt554.1=0 then (if bt554.2.2.1<(bt554.2.1.size:Int) then (none) else (some (x3,bt554.2.1,bt554.2.2.1,bt554.2.2.2.1,bt554.2.2.2.2.1,bt554.2.2.2.2.2.1,bt554.2.2.2.2.2.2.1,bt554.2.2.2.2.2.2.2.1,bt554.2.2.2.2.2.2.2.2.1,bt554.2.2.2.2.2.2.2.2.2))) else (none))
def rule_reader_rules.l0:Nat→List (S41)→ByteArray→Int→Int→Bool→Bool→Bool→Bool→Bool→Bool→Option ((List (S41)) × ByteArray × Int × Int × Bool × Bool × Bool × Bool × Bool × Bool)
 | 0,_,_,_,_,_,_,_,_,_,_=>none
 | k+1,x3,x1000,x1001,x1002,x1003,x1004,x1005,x1006,x1007,x1008=>(rule_reader_peek.f k x1000 x1001 x1002 x1003 x1004 x1005 x1006 x1007 x1008).bind fun bt517=>(if bt517.1=0 then (rule_reader_rules.j2 k x3 bt517.2.1 bt517.2.2.1 bt517.2.2.2.1 bt517.2.2.2.2.1 bt517.2.2.2.2.2.1 bt517.2.2.2.2.2.2.1 bt517.2.2.2.2.2.2.2.1 bt517.2.2.2.2.2.2.2.2.1 bt517.2.2.2.2.2.2.2.2.2) else ((rule_reader_rule.f k bt517.2.1 bt517.2.2.1 bt517.2.2.2.1 bt517.2.2.2.2.1 bt517.2.2.2.2.2.1 bt517.2.2.2.2.2.2.1 bt517.2.2.2.2.2.2.2.1 bt517.2.2.2.2.2.2.2.2.1 bt517.2.2.2.2.2.2.2.2.2).bind fun bt527=>(if x3.length<2932031007402 then (rule_reader_rules.j1 k (x3++[(⟨bt527.1,bt527.2.1,bt527.2.2.1⟩:S41)]) bt527.2.2.2.1 bt527.2.2.2.2.1 bt527.2.2.2.2.2.1 bt527.2.2.2.2.2.2.1 bt527.2.2.2.2.2.2.2.1 bt527.2.2.2.2.2.2.2.2.1 bt527.2.2.2.2.2.2.2.2.2.1 bt527.2.2.2.2.2.2.2.2.2.2.1 bt527.2.2.2.2.2.2.2.2.2.2.2) else (none))))
def rule_reader_rules.j1:Nat→List (S41)→ByteArray→Int→Int→Bool→Bool→Bool→Bool→Bool→Bool→Option ((List (S41)) × ByteArray × Int × Int × Bool × Bool × Bool × Bool × Bool × Bool)
 | 0,_,_,_,_,_,_,_,_,_,_=>none
 | k+1,x3,x1000,x1001,x1002,x1003,x1004,x1005,x1006,x1007,x1008=>(rule_reader_take.f k x1000 x1001 x1002 x1003 x1004 x1005 x1006 x1007 x1008 (⟨#[59]⟩:ByteArray)).bind fun bt544=>(if bt544.1=true then (rule_reader_rules.l0 k x3 bt544.2.1 bt544.2.2.1 bt544.2.2.2.1 bt544.2.2.2.2.1 bt544.2.2.2.2.2.1 bt544.2.2.2.2.2.2.1 bt544.2.2.2.2.2.2.2.1 bt544.2.2.2.2.2.2.2.2.1 bt544.2.2.2.2.2.2.2.2.2) else (rule_reader_rules.j2 k x3 bt544.2.1 bt544.2.2.1 bt544.2.2.2.1 bt544.2.2.2.2.1 bt544.2.2.2.2.2.1 bt544.2.2.2.2.2.2.1 bt544.2.2.2.2.2.2.2.1 bt544.2.2.2.2.2.2.2.2.1 bt544.2.2.2.2.2.2.2.2.2))
end
def rule_reader_rules.f (k:Nat) (s0_0:ByteArray) (s0_1:Int) (s0_2:Int) (s0_3:Bool) (s0_4:Bool) (s0_5:Bool) (s0_6:Bool) (s0_7:Bool) (s0_8:Bool):Option ((List (S41)) × ByteArray × Int × Int × Bool × Bool × Bool × Bool × Bool × Bool):=rule_reader_rules.l0 k ([]:List (S41)) s0_0 s0_1 s0_2 s0_3 s0_4 s0_5 s0_6 s0_7 s0_8
def rule_reader_rules.T5:Bool × List (List Nat × List Nat):=(true,[([],[]),([0],[0]),([1],[1]),([2,1],[2]),([3],[3]),([4,3],[3,4]),([5,3],[3,5]),([6,3],[3,6]),([3],[3]),([8,3],[3,8]),([9,3],[3,9]),([10,3],[3,10]),([11,3],[3,11]),([7,12,3],[3,7,12]),([3,13],[3,13])])
def rule_reader_rules.B5:List Nat:=[0,1,3,7,15,31,63,127,15,271,783,1807,3855,8191,16383]
theorem rule_reader_rules.tab5:rtab .any (opsOf Tryz.f36 5)=rule_reader_rules.T5:=by kernel_rfl
theorem rule_reader_rules.bits5:waitsOk rule_reader_rules.T5.2 rule_reader_rules.B5=true:=by kernel_rfl
theorem rule_reader_rules.calls (k:Nat) (g:Nat) (s0_0:ByteArray) (s0_1:Int) (s0_2:Int) (s0_3:Bool) (s0_4:Bool) (s0_5:Bool) (s0_6:Bool) (s0_7:Bool) (s0_8:Bool) (r1:List (S41)) (r2:ByteArray) (r3:Int) (r4:Int) (r5:Bool) (r6:Bool) (r7:Bool) (r8:Bool) (r9:Bool) (r10:Bool) (w0 w:World) (hI:IsS91 w0 w g s0_0 s0_1 s0_2 s0_3 s0_4 s0_5 s0_6 s0_7 s0_8) (hB:Below w0.heap.size w0 w) (h:rule_reader_rules.f k s0_0 s0_1 s0_2 s0_3 s0_4 s0_5 s0_6 s0_7 s0_8=some (r1,r2,r3,r4,r5,r6,r7,r8,r9,r10)) :
  Calls Tryz.prog 36 #[.pointer (some ⟨g,0,none⟩)] w fun e w'=>∃v0_:Value,e= .returned (v0_)∧Kd.N k41 41 w' w.heap.size (fun k_=>(w.heap.size≤k_)) v0_ r1∧IsS91 w0 w' g r2 r3 r4 r5 r6 r7 r8 r9 r10∧Below w0.heap.size w0 w'∧KeepBut w w' g none:=by
 have HI0:=am_ hI
 have HK:=am_ (KeepBut.refl w g none)
 have HL:=am_ hB.size
 clear hI
 have HW0:=am_ hB.size
 have HB:=am_ hB
 clear hB
 have H:=h
 clear h
 unfold rule_reader_rules.f at H
 have HC2:=am_ H
 clear H
 go_enter Tryz.func36,Tryz.ntmps36
 go_upto_block 0 with (fail)
 go_cut [3] (fun v3 wc=>∃(kq:Nat) (x3_1:List (S41)) (x1000_1:ByteArray) (x1001_1:Int) (x1002_1:Int) (x1003_1:Bool) (x1004_1:Bool) (x1005_1:Bool) (x1006_1:Bool) (x1007_1:Bool) (x1008_1:Bool),Aside0 (rule_reader_rules.j2 kq x3_1 x1000_1 x1001_1 x1002_1 x1003_1 x1004_1 x1005_1 x1006_1 x1007_1 x1008_1=some (r1,r2,r3,r4,r5,r6,r7,r8,r9,r10))∧Aside0 (kq≤k)∧Aside0 (Kd.N k41 41 wc w.heap.size (fun k_=>(w.heap.size≤k_)∧k_≠g) v3 x3_1)∧Aside0 (IsS91 w0 wc g x1000_1 x1001_1 x1002_1 x1003_1 x1004_1 x1005_1 x1006_1 x1007_1 x1008_1)∧Aside0 (KeepBut w wc g none)∧Aside0 (Below w0.heap.size w0 wc))
 case first =>
  have H:=HC2.out
  clear HC2
  have H':=am_ H
  clear H
  go_wp2
  go_loopg [3] k (fun kq v3 w'=>∃(x3_1:List (S41)) (x1000_1:ByteArray) (x1001_1:Int) (x1002_1:Int) (x1003_1:Bool) (x1004_1:Bool) (x1005_1:Bool) (x1006_1:Bool) (x1007_1:Bool) (x1008_1:Bool),Aside0 (rule_reader_rules.l0 kq x3_1 x1000_1 x1001_1 x1002_1 x1003_1 x1004_1 x1005_1 x1006_1 x1007_1 x1008_1=some (r1,r2,r3,r4,r5,r6,r7,r8,r9,r10))∧Aside0 (kq≤k)∧Aside0 (Kd.N k41 41 w' w.heap.size (fun k_=>(w.heap.size≤k_)∧k_≠g) v3 x3_1)∧Aside0 (IsS91 w0 w' g x1000_1 x1001_1 x1002_1 x1003_1 x1004_1 x1005_1 x1006_1 x1007_1 x1008_1)∧Aside0 (KeepBut w w' g none)∧Aside0 (Below w0.heap.size w0 w'))
  case atStart=>exact⟨(([]:List (S41))),(s0_0),(s0_1),(s0_2),(s0_3),(s0_4),(s0_5),(s0_6),(s0_7),(s0_8),H',⟨Nat.le_refl _⟩,⟨by first|exact Kd.R_nil _ _ _ _ _|exact Kd.N_nil _ _ _ _ _|exact Kd.V_nil _ _ _ _ _|exact Kd.Q_nil _ _ _ _ _|exact Kd.S_nil _ _ _ _ _⟩,⟨is91_ HI0⟩,⟨kp_ HK⟩,⟨bs91_ HB HI0⟩⟩
  clear H'
  obtain⟨x3_1,x1000_1,x1001_1,x1002_1,x1003_1,x1004_1,x1005_1,x1006_1,x1007_1,x1008_1,HA,HK1,HO_3,HI0,HK,HB⟩:=hrel
  cases gk with
  | zero=>exact absurd HA.out (by simp[rule_reader_rules.l0])
  | succ k1=>?_
  have H:=HA.out
  clear HA
  simp only[rule_reader_rules.l0] at H
  replace H:=Option.bind_eq_some_iff.mp H
  obtain⟨⟨t517,t518,t519,t520,t521,t522,t523,t524,t525,t526⟩,A30,H⟩:=H
  dsimp only at H
  have A3:=am_ A30
  clear A30
  by_cases c4:t517=0
  ·rw[if_pos c4] at H
   have c4b0:(t517==0)=true:=beq_iff_eq.mpr c4
   have c4b1:(t517 !=0)=false:=bne_eq_false_iff_eq.mpr c4
   clear c4
   (first|rw[c4b0]|(simp only[i64_w,i32_w];rw[c4b0])|skip)
   have H':=am_ H
   clear H
   go_wp2_with (first|((with_reducible refine gate_callee (f:=59) rfl ?_);refine gl_ (some 5) Tryz.func59 #[.pointer (some ⟨g,0,none⟩)] ?_;(with_reducible refine(rule_reader_peek.calls _ _ _ _ _ _ _ _ _ _ _ _ _ _ _ _ _ _ _ _ _ w0 _ ?side1 ?side2 A3.out).mono ?_);(case side1=>exact is91_ HI0);(case side2=>exact bs91_ HB HI0);rintro e w5 ⟨rfl,hi,hb,hk⟩;refine⟨_,rfl,?_⟩;replace HO_3:=am_ (Kd.N_mono (Kd.N_keep (Kd.N_mono (ok:=fun k_=>(((w.heap.size≤k_))∧k_≠g)) (krN_ HO_3) (fun k_ hk_=>(⟨hk_,hk_.2⟩:_∧k_≠g))) hk (fun _ h=>h.2)) (fun _ h=>h.1));replace HK:=am_ (KeepBut.trans (kp_ HK) hk (.inl rfl));replace HB:=am_ (hb);replace HI0:=am_ (hi);(try clear hb);(try clear hk);(try clear hi)))
   go_meet
   case rel=>exact⟨_,(x3_1),(t518),(t519),(t520),(t521),(t522),(t523),(t524),(t525),(t526),H',⟨by have:=HK1.out;first|omega|exact Nat.le_refl _⟩,⟨kdN_ HO_3.out⟩,⟨is91_ HI0⟩,⟨kp_ HK⟩,⟨bs91_ HB HI0⟩⟩
  rw[if_neg c4] at H
  have c4b0:(t517==0)=false:=beq_eq_false_iff_ne.mpr c4
  have c4b1:(t517 !=0)=true:=bne_iff_ne.mpr c4
  (first|rw[c4b0]|(simp only[i64_w,i32_w];rw[c4b0])|skip)
  have HC6:=am_ H
  clear H
  go_upto_region 3 with (first|((with_reducible refine gate_callee (f:=59) rfl ?_);refine gl_ (some 5) Tryz.func59 #[.pointer (some ⟨g,0,none⟩)] ?_;(with_reducible refine(rule_reader_peek.calls _ _ _ _ _ _ _ _ _ _ _ _ _ _ _ _ _ _ _ _ _ w0 _ ?side1 ?side2 A3.out).mono ?_);(case side1=>exact is91_ HI0);(case side2=>exact bs91_ HB HI0);rintro e w7 ⟨rfl,hi,hb,hk⟩;refine⟨_,rfl,?_⟩;replace HO_3:=am_ (Kd.N_mono (Kd.N_keep (Kd.N_mono (ok:=fun k_=>(((w.heap.size≤k_))∧k_≠g)) (krN_ HO_3) (fun k_ hk_=>(⟨hk_,hk_.2⟩:_∧k_≠g))) hk (fun _ h=>h.2)) (fun _ h=>h.1));replace HK:=am_ (KeepBut.trans (kp_ HK) hk (.inl rfl));replace HB:=am_ (hb);replace HI0:=am_ (hi);(try clear hb);(try clear hk);(try clear hi)))
  (try simp only[Act.put,List.setIfInBounds_toArray,List.set_cons_zero,List.set_cons_succ])
  go_cut [3] (fun v3 wc=>∃(kq:Nat) (x3_5:List (S41)) (x1000_5:ByteArray) (x1001_5:Int) (x1002_5:Int) (x1003_5:Bool) (x1004_5:Bool) (x1005_5:Bool) (x1006_5:Bool) (x1007_5:Bool) (x1008_5:Bool),Aside0 (rule_reader_rules.j1 kq x3_5 x1000_5 x1001_5 x1002_5 x1003_5 x1004_5 x1005_5 x1006_5 x1007_5 x1008_5=some (r1,r2,r3,r4,r5,r6,r7,r8,r9,r10))∧Aside0 (kq≤k1)∧Aside0 (Kd.N k41 41 wc w.heap.size (fun k_=>(w.heap.size≤k_)∧k_≠g) v3 x3_5)∧Aside0 (IsS91 w0 wc g x1000_5 x1001_5 x1002_5 x1003_5 x1004_5 x1005_5 x1006_5 x1007_5 x1008_5)∧Aside0 (KeepBut w wc g none)∧Aside0 (Below w0.heap.size w0 wc))
  case first =>
   have H:=HC6.out
   clear HC6
   replace H:=Option.bind_eq_some_iff.mp H
   obtain⟨⟨t527,t528,t531,t532,t533,t534,t535,t536,t537,t538,t539,t540⟩,A80,H⟩:=H
   dsimp only at H
   have A8:=am_ A80
   clear A80
   replace H:=ifn_ H
   obtain⟨c9,H⟩:=H
   have LMc9:=am_ c9
   clear c9
   obtain⟨y541,hy541⟩:∃y_:List (S41),y_=(x3_1++[(⟨t527,t528,t531⟩:S41)]):=⟨_,rfl⟩
   replace H:(rule_reader_rules.j1 k1 y541 t532 t533 t534 t535 t536 t537 t538 t539 t540)=some (r1,r2,r3,r4,r5,r6,r7,r8,r9,r10):=by first|(rw[hy541];with_reducible exact H)|(have H2_:=(Option.bind_some _ _).symm.trans H;rw[hy541];with_reducible exact H2_)|(have H2_:=(Option.bind_some _ _).symm.trans H;with_reducible exact H2_)|with_reducible exact H|(rw[hy541];exact H)|exact H
   have Ny541:=am_ hy541
   clear hy541
   have H':=am_ H
   clear H
   go_wp2_with (first|((with_reducible refine gate_callee (f:=60) rfl ?_);refine gl_ (some 9) Tryz.func60 #[.pointer (some ⟨g,0,none⟩)] ?_;(with_reducible refine(rule_reader_rule.calls _ _ _ _ _ _ _ _ _ _ _ _ _ _ _ _ _ _ _ _ _ _ _ w0 _ ?side1 ?side2 A8.out).mono ?_);(case side1=>exact is91_ HI0);(case side2=>exact bs91_ HB HI0);rintro e w10 ⟨v529,rfl,ho0,hi,hb,hk⟩;refine⟨_,rfl,?_⟩;have HO530:=am_ (Kd.N_lower (Kd.N_mono (ok':=fun k_=>(w.heap.size≤k_)∧some k_≠(u3:Value).ownBlock∧k_≠g) ho0 (fun k_ hk_=>⟨(Nat.le_trans (keep_size (w:=w) (g:=g) (row:=none) (kp_ HK)) hk_),(Kd.fresh' (Kd.N_lt (krN_ HO_3)) k_ hk_),(IsS91.fresh (is91_ HI0) k_ hk_)⟩)) (keep_size (w:=w) (g:=g) (row:=none) (kp_ HK)));replace HO_3:=am_ (Kd.N_mono (Kd.N_told (Kd.N_oldK (Kd.N_mono (ok:=fun k_=>(((w.heap.size≤k_))∧k_≠g)) (krN_ HO_3) (fun k_ hk_=>(⟨hk_,hk_.2⟩:_∧k_≠g))) hk) (Kd.N_base ho0)) (fun _ h_=>h_.1));replace HK:=am_ (KeepBut.trans (kp_ HK) hk (.inl rfl));replace HB:=am_ (hb);replace HI0:=am_ (hi);(try clear hb);(try clear hk);(try clear hi);(try clear ho0);obtain⟨Ao12,co12,eo12⟩:=Kd.N_slice HO530.out;subst eo12)|((with_reducible refine gate_builtin (b:= .append) (xs:= #[.tmp 7,.tmp 10]) rfl ?_);(try (refine gate_guard (by rfl) ?_;dsimp only));at_builtin;refine Kd.N_append k41 w.heap.size rfl (.tmp 7) (.tmp 10) 33 41 (.agg #[(.int .i64 0),(.slice none 0 0),(.string ⟨#[]⟩)]) 48 rfl Tryz.underlying33 info41 rfl (by decide) (by omega) u3 x3_1 (⟨t527,t528,t531⟩:S41) [.int .i64 t527,.slice Ao12 t528.length co12,.string t531] (fun k_=>(w.heap.size≤k_)∧k_≠g) (fun k_=>((fun k_=>(w.heap.size≤k_)∧k_≠g)) k_∧some k_≠(u3:Value).ownBlock) rfl rfl ?aP (fun _ hk=>hk) ?aF ?aO (Below.refl _ _) ?aS ?aL ?_;(case aP=>exact(k41_mkF _ _ (⟨t527,t528,t531⟩:S41) (Kd.N_reads' (Kd.N_mono (ok':=(fun k_=>((fun k_=>(w.heap.size≤k_)∧k_≠g)) k_∧some k_≠(u3:Value).ownBlock)) (HO530.out) (fun k_ hk=>⟨⟨hk.1,hk.2.2⟩,hk.2.1⟩))).2.1 (Kd.N_F (Kd.N_mono (ok':=(fun k_=>((fun k_=>(w.heap.size≤k_)∧k_≠g)) k_∧some k_≠(u3:Value).ownBlock)) (HO530.out) (fun k_ hk=>⟨⟨hk.1,hk.2.2⟩,hk.2.1⟩)))));(case aF=>exact(fun k_ hk=>⟨(Nat.le_trans (keep_size (w:=w) (g:=g) (row:=none) (kp_ HK)) hk),IsS91.fresh (is91_ HI0) k_ hk⟩));(case aO=>exact(kdN_ (Kd.N_mono HO_3.out (fun _ hk=>⟨hk.1.1,hk.1.2⟩))));(case aS=>exact(keep_size (w:=w) (g:=g) (row:=none) (kp_ HK)));(case aL=>have:=LMc9.out;omega);intro v542 w11 ho hb hg hat;rw[← Ny541.out] at ho;have n0_:=am_ (IsS91.grown (is91_ HI0) hg (IsS91.own_neN HI0.out HO_3.out (by decide)));have n1_:=am_ (below_weaken (bs91_ HB HI0) HL.out hb);have n2_:=am_ (KeepBut.trans (kp_ HK) (KeepBut.of_grown hg g) (Kd.N_base2 HO_3.out));have n3_:=am_ (ho);clear HI0;clear HB;clear HK;clear HO_3;clear HO530;revert n0_ n1_ n2_ n3_;intro HI0 HB HK HO543;clear ho hb hg hat))
   go_meet
   case rel=>exact⟨_,(y541),(t532),(t533),(t534),(t535),(t536),(t537),(t538),(t539),(t540),H',⟨by have:=HK1.out;first|omega|exact Nat.le_refl _⟩,⟨kdN_ HO543.out⟩,⟨is91_ HI0⟩,⟨kp_ HK⟩,⟨bs91_ HB HI0⟩⟩
  clear HC6
  obtain⟨kq,x3_5,x1000_5,x1001_5,x1002_5,x1003_5,x1004_5,x1005_5,x1006_5,x1007_5,x1008_5,HA,HJ5,HO_3,HI0,HK,HB⟩:=hcut
  cases kq with
  | zero=>exact absurd HA.out (by simp[rule_reader_rules.j1])
  | succ kj5=>?_
  have H:=HA.out
  clear HA
  simp only[rule_reader_rules.j1] at H
  replace H:=Option.bind_eq_some_iff.mp H
  obtain⟨⟨t544,t545,t546,t547,t548,t549,t550,t551,t552,t553⟩,A130,H⟩:=H
  dsimp only at H
  have A13:=am_ A130
  clear A130
  by_cases c14:t544=true
  ·subst c14
   rw[if_pos rfl] at H
   have H':=am_ H
   clear H
   go_wp2_with (first|((with_reducible refine gate_callee (f:=61) rfl ?_);refine gl_ (some 13) Tryz.func61 #[.pointer (some ⟨g,0,none⟩),.string (⟨#[59]⟩:ByteArray)] ?_;(with_reducible refine(rule_reader_take.calls _ _ _ _ _ _ _ _ _ _ _ _ _ _ _ _ _ _ _ _ _ _ w0 _ ?side1 ?side2 A13.out).mono ?_);(case side1=>exact is91_ HI0);(case side2=>exact bs91_ HB HI0);rintro e w15 ⟨rfl,hi,hb,hk⟩;refine⟨_,rfl,?_⟩;replace HO_3:=am_ (Kd.N_mono (Kd.N_keep (Kd.N_mono (ok:=fun k_=>(((w.heap.size≤k_))∧k_≠g)) (krN_ HO_3) (fun k_ hk_=>(⟨hk_,hk_.2⟩:_∧k_≠g))) hk (fun _ h=>h.2)) (fun _ h=>h.1));replace HK:=am_ (KeepBut.trans (kp_ HK) hk (.inl rfl));replace HB:=am_ (hb);replace HI0:=am_ (hi);(try clear hb);(try clear hk);(try clear hi)))
   go_roundg kj5
   case measure=>have:=HK1.out;have:=HJ5.out;omega
   case rel=>exact⟨(x3_5),(t545),(t546),(t547),(t548),(t549),(t550),(t551),(t552),(t553),H',⟨by have:=HK1.out;have:=HJ5.out;omega⟩,⟨kdN_ HO_3.out⟩,⟨is91_ HI0⟩,⟨kp_ HK⟩,⟨bs91_ HB HI0⟩⟩
  replace c14:=Bool.eq_false_iff.mpr c14
  subst c14
  rw[if_neg (show ¬(false=true) by decide)] at H
  have H':=am_ H
  clear H
  go_wp2_with (first|((with_reducible refine gate_callee (f:=61) rfl ?_);refine gl_ (some 13) Tryz.func61 #[.pointer (some ⟨g,0,none⟩),.string (⟨#[59]⟩:ByteArray)] ?_;(with_reducible refine(rule_reader_take.calls _ _ _ _ _ _ _ _ _ _ _ _ _ _ _ _ _ _ _ _ _ _ w0 _ ?side1 ?side2 A13.out).mono ?_);(case side1=>exact is91_ HI0);(case side2=>exact bs91_ HB HI0);rintro e w16 ⟨rfl,hi,hb,hk⟩;refine⟨_,rfl,?_⟩;replace HO_3:=am_ (Kd.N_mono (Kd.N_keep (Kd.N_mono (ok:=fun k_=>(((w.heap.size≤k_))∧k_≠g)) (krN_ HO_3) (fun k_ hk_=>(⟨hk_,hk_.2⟩:_∧k_≠g))) hk (fun _ h=>h.2)) (fun _ h=>h.1));replace HK:=am_ (KeepBut.trans (kp_ HK) hk (.inl rfl));replace HB:=am_ (hb);replace HI0:=am_ (hi);(try clear hb);(try clear hk);(try clear hi)))
  go_meet
  case rel=>exact⟨_,(x3_5),(t545),(t546),(t547),(t548),(t549),(t550),(t551),(t552),(t553),H',⟨by have:=HK1.out;have:=HJ5.out;first|omega|exact Nat.le_refl _⟩,⟨kdN_ HO_3.out⟩,⟨is91_ HI0⟩,⟨kp_ HK⟩,⟨bs91_ HB HI0⟩⟩
 clear HC2
 obtain⟨kq,x3_1,x1000_1,x1001_1,x1002_1,x1003_1,x1004_1,x1005_1,x1006_1,x1007_1,x1008_1,HA,HJ1,HO_3,HI0,HK,HB⟩:=hcut
 cases kq with
 | zero=>exact absurd HA.out (by simp[rule_reader_rules.j2])
 | succ kj1=>?_
 have H:=HA.out
 clear HA
 simp only[rule_reader_rules.j2] at H
 replace H:=Option.bind_eq_some_iff.mp H
 obtain⟨⟨t554,t555,t556,t557,t558,t559,t560,t561,t562,t563⟩,A170,H⟩:=H
 dsimp only at H
 have A17:=am_ A170
 clear A170
 by_cases c18:t554=0
 ·rw[if_pos c18] at H
  have c18b0:(t554==0)=true:=beq_iff_eq.mpr c18
  have c18b1:(t554 !=0)=false:=bne_eq_false_iff_eq.mpr c18
  clear c18
  by_cases c19:t556<(t555.size:Int)
  ·rw[if_pos c19] at H
   have c19b0:=decide_eq_true c19
   clear c19
   exact absurd H (by simp)
  rw[if_neg c19] at H
  have c19b0:=decide_eq_false c19
  clear c19
  simp only[Option.some.injEq,Prod.mk.injEq] at H
  obtain⟨rfl,rfl,rfl,rfl,rfl,rfl,rfl,rfl,rfl,rfl⟩:=H
  try go_wp2
  replace HO_3:=am_ (Kd.N_drew HO_3.out)
  replace HI0:=am_ (IsS91.drew HI0.out)
  replace HK:=am_ (keep_drew HK.out)
  replace HB:=am_ (below_drew1 HB.out)
  refine start_ (n:=15) (S:=fun w'=>True) (ds:=[]) #[false,false,false,false,false,false,false,false,false,false,false,false,false,false,false] (by kernel_rfl) rfl rfl trivial (fun hHeld=>?_);refine with_tabW rule_reader_rules.tab5 rule_reader_rules.bits5 (fun HT_ HW_=>?_)
  generalize wc.drew=w20 at HO_3 HI0 HK HB hHeld ⊢
  refine pu_ 0 15 (bm_ 15 1) HT_ ?_
  refine one_ (i:=1) (N:=some 16) (bm_ 15 3) rfl rfl (one_of HT_.out (by kernel_rfl)) (by decide) (fun K hK=>?_)
  refine gs_ Tryz.func59 #[.pointer (some ⟨g,0,none⟩)] ?_
  with_reducible refine(rule_reader_peek.calls _ _ _ _ _ _ _ _ _ _ _ _ _ _ _ _ _ _ _ _ _ w0 _ ?side1 ?side2 A17.out).mono ?_
  (case side1=>exact is91_ HI0)
  (case side2=>exact bs91_ HB HI0)
  rintro e w21 ⟨rfl,hi,hb,hk⟩
  refine⟨_,rfl,?_⟩
  replace HO_3:=am_ (Kd.N_mono (Kd.N_keep (Kd.N_mono (ok:=fun k_=>(((w.heap.size≤k_))∧k_≠g)) (krN_ HO_3) (fun k_ hk_=>(⟨hk_,hk_.2⟩:_∧k_≠g))) hk (fun _ h=>h.2)) (fun _ h=>h.1))
  replace HK:=am_ (KeepBut.trans (kp_ HK) hk (.inl rfl))
  replace HB:=am_ (hb)
  replace HI0:=am_ (hi)
  (try clear hb)
  (try clear hb2)
  (try clear hk)
  (try clear hi)
  refine hK.out _ _ trivial (fun hHeld=>?_)
  clear hK K
  refine nm_ 16 ?_
  clear hHeld
  refine restart0_ (S':=fun w'=>w'.cell? ⟨g,0,none⟩=some (.string t555)∧w'.cell? ⟨g,1,none⟩=some (.int .i64 t556)∧w'.cell? ⟨g,2,none⟩=some (.int .i64 t557)∧w'.cell? ⟨g,3,none⟩=some (.bool t558)∧w'.cell? ⟨g,4,none⟩=some (.bool t559)∧w'.cell? ⟨g,5,none⟩=some (.bool t560)∧w'.cell? ⟨g,6,none⟩=some (.bool t561)∧w'.cell? ⟨g,7,none⟩=some (.bool t562)∧w'.cell? ⟨g,8,none⟩=some (.bool t563)) [] ⟨(cellS91_0 HI0.out.1),(cellS91_1 HI0.out.1),(cellS91_2 HI0.out.1),(cellS91_3 HI0.out.1),(cellS91_4 HI0.out.1),(cellS91_5 HI0.out.1),(cellS91_6 HI0.out.1),(cellS91_7 HI0.out.1),(cellS91_8 HI0.out.1)⟩ (fun hHeld=>?_)
  refine pu_ 2 17 (bm_ 15 7) HT_ ?_
  refine pu_ 3 18 (bm_ 15 15) HT_ ?_
  refine pu_ 4 19 (bm_ 15 31) HT_ ?_
  refine pu_ 5 20 (bm_ 15 63) HT_ ?_
  refine pu_ 6 21 (bm_ 15 127) HT_ ?_
  refine pu_ 8 23 (bm_ 15 383) HT_ ?_
  refine pu_ 9 24 (bm_ 15 895) HT_ ?_
  refine pu_ 10 25 (bm_ 15 1919) HT_ ?_
  refine tk_ 7 22 (bm_ 15 2047) HT_ HW_ hHeld rfl (by rintro w' ⟨s0,s1,s2,s3,s4,s5,s6,s7,s8⟩;go_simp;with_reducible rfl) ?_
  refine tk_ 11 26 (bm_ 15 4095) HT_ HW_ hHeld rfl (by rintro w' ⟨s0,s1,s2,s3,s4,s5,s6,s7,s8⟩;go_simp;with_reducible rfl) ?_
  refine pu_ 12 27 (bm_ 15 8191) HT_ ?_
  refine pu_ 13 28 (bm_ 15 16383) HT_ ?_
  refine pu_ 14 29 (bm_ 15 32767) HT_ ?_
  refine done_ (done_of HT_.out (by kernel_rfl)) ?_
  try go_wp2
  go_ret
  exact⟨_,by first|rfl|(simp[errW_none,errW_some] <;> rfl)|(simp[*,errW_none,errW_some] <;> first|rfl|exact given_isEmpty _|exact(given_isEmpty _).symm),kdN_ (Kd.N_mono HO_3.out (fun _ hk=>hk.1)),is91_ HI0,bs91_ HB HI0,kp_ HK⟩
 rw[if_neg c18] at H
 have c18b0:(t554==0)=false:=beq_eq_false_iff_ne.mpr c18
 have c18b1:(t554 !=0)=true:=bne_iff_ne.mpr c18
 exact absurd H (by simp)

def rule_Parse.f (k:Nat) (s:ByteArray):Option (List S41 × Int × Int):=if 4000<s.size then some ([],4,0) else (rule_reader_rules.f k s 0 0 false false false false false false).bind fun t=>some (t.1,0,0)
theorem rule_Parse.idle (p2 p3 p4:Addr) (w:World):CallsD Tryz.prog 35 #[.pointer (some p2),.pointer (some p3),.pointer (some p4)] .returning w fun e u' w' =>
    e= .returned (.tuple #[])∧u'= .returning∧Below w.heap.size w w':=by
  refine callsD_of_wpS Tryz.func35 rfl fun c₀ cs hu=>?_
  apply wpS_seq
  apply wpS_region
  have hta:∀(W:World),(Instr.typeAssert .nilIface 20 87 true).run Tryz.prog W= .ok (.tuple #[.agg #[.int .i64 0,.int .i64 0],.bool false]) W:=fun W=>by rfl
  simp[wpOpsS,go_sem,recoverD,hu,Tryz.ntmps35,Exit.thenS,hta]
  apply wpS_seq
  apply wpS_region
  simp[wpOpsS,go_sem,Exit.thenS]
  refine wpS_cond (t:=false) (by rfl) ?_
  simp only[Bool.false_eq_true,if_false]
  refine wpS_of_wp (wp_skip ?_)
  cases c₀
  simp_all [bodyPostS,results,Tryz.results35]
  exact below_alloc (Below.refl _ _) _

set_option maxHeartbeats 4000000 in
theorem rule_Parse.calls (k:Nat) (a0:ByteArray) (r1:List S41) (r2 r3:Int) (w:World) (h:rule_Parse.f k a0=some (r1,r2,r3)) :
    Calls Tryz.prog 16 #[.string a0] w fun e w'=>∃v0_:Value,e= .returned (.tuple #[v0_,.int .i64 r2,.int .i64 r3])∧Kd.N k41 41 w' w.heap.size (fun k_=>(w.heap.size≤k_)) v0_ r1∧Below w.heap.size w w':=by
  unfold rule_Parse.f at h
  have hmf:∀(fn:Fn) (first cap:Array Value) (w:World),(Instr.makeFunc fn first cap).run Tryz.prog w= .ok (.func fn first cap) w:=fun _ _ _ _=>rfl
  have hu61:=Tryz.underlying91
  by_cases hs:4000<a0.size
  · rw[if_pos hs] at h
    simp only[Option.some.injEq,Prod.mk.injEq] at h
    obtain⟨rfl,rfl,rfl⟩:=h
    have h1:decide (4000<(a0.size:Int))=true:=decide_eq_true (by omega)
    go_enter_defers Tryz.func16,Tryz.ntmps16
    go_wp2
    simp only[bodyPostD,Leaves,results,Tryz.results16]
    refine⟨_,by simp[go_sem] <;> rfl,_,rfl,Kd.N_nil _ _ _ _ _,below_alloc (below_alloc (below_alloc (Below.refl _ _) _) _) _⟩
  · rw[if_neg hs] at h
    obtain⟨⟨t1,t2,t3,t4,t5,t6,t7,t8,t9,t10⟩,hr,h⟩:=Option.bind_eq_some_iff.mp h
    replace h:some (t1,(0:Int),(0:Int))=some (r1,r2,r3):=h
    simp only[Option.some.injEq,Prod.mk.injEq] at h
    obtain⟨rfl,rfl,rfl⟩:=h
    have h1:decide (4000<(a0.size:Int))=false:=decide_eq_false (by omega)
    generalize hW3:((w.alloc (Obj.cells #[Value.slice none 0 0] 33)).alloc (Obj.cells #[Value.int IntKind.i64 0] 60)).alloc (Obj.cells #[Value.int IntKind.i64 0] 3)=W3
    have hB3:Below w.heap.size w W3:=by subst hW3;exact below_alloc (below_alloc (below_alloc (Below.refl _ _) _) _) _
    have hb2:W3.heap[w.heap.size]? = some (.cells #[Value.slice none 0 0] 33 (0,0)):=by
      subst hW3;exact blk_alloc (blk_alloc (heap_alloc_new w _) _) _
    have hb3:W3.heap[w.heap.size+1]? = some (.cells #[Value.int IntKind.i64 0] 60 (0,0)):=by
      subst hW3;refine blk_alloc ?_ _
      have:=heap_alloc_new (w.alloc (Obj.cells #[Value.slice none 0 0] 33)) (Obj.cells #[Value.int IntKind.i64 0] 60)
      simpa using this
    have hb4:W3.heap[w.heap.size+1+1]? = some (.cells #[Value.int IntKind.i64 0] 3 (0,0)):=by
      subst hW3
      have:=heap_alloc_new ((w.alloc (Obj.cells #[Value.slice none 0 0] 33)).alloc (Obj.cells #[Value.int IntKind.i64 0] 60)) (Obj.cells #[Value.int IntKind.i64 0] 3)
      simpa using this
    have hsz:W3.heap.size=w.heap.size+3:=by subst hW3;simp
    have A:=am_ hr
    have hW3':=am_ hW3
    clear hr hW3
    go_enter_defers Tryz.func16,Tryz.ntmps16
    go_wp2_with (first|((with_reducible refine gate_dst (N:=11) rfl ?_);rw[hW3'.out];refine be_ 11 #[.string a0,.int .i64 0,.int .i64 0,.bool false,.bool false,.bool false,.bool false,.bool false,.bool false] 91 ?_;intro gb hg w5 hbox hb;have hI:IsS91 W3 w5 gb a0 0 0 false false false false false false:=⟨hbox,by omega⟩;have hB5:Below W3.heap.size W3 w5:=hb;rw[hsz] at hg;subst hg))
    refine(rule_reader_rules.calls k _ a0 0 0 false false false false false false _ _ _ _ _ _ _ _ _ _ W3 w5 hI hB5 A.out).mono ?_
    rintro e w6 ⟨v0,rfl,ho,hi,hb6,hk⟩
    obtain⟨A0,c0,rfl⟩:=Kd.N_slice ho
    have hc2:w6.heap[w.heap.size]? = some (.cells #[Value.slice none 0 0] 33 (0,0)):=blk_below hb2 hb6
    have hc3:w6.heap[w.heap.size+1]? = some (.cells #[Value.int IntKind.i64 0] 60 (0,0)):=blk_below hb3 hb6
    have hc4:w6.heap[w.heap.size+1+1]? = some (.cells #[Value.int IntKind.i64 0] 3 (0,0)):=blk_below hb4 hb6
    have e2:=blk_cell hc2 0
    have e3:=blk_cell hc3 0
    have e4:=blk_cell hc4 0
    have f2:=blk_frozen hc2 0
    have f3:=blk_frozen hc3 0
    have f4:=blk_frozen hc4 0
    go_wp2
    generalize hW7:(((w6.setCell ⟨w.heap.size,0,none⟩ (Value.slice A0 t1.length c0)).setCell ⟨w.heap.size+1,0,none⟩ (Value.int IntKind.i64 0)).setCell ⟨w.heap.size+1+1,0,none⟩ (Value.int IntKind.i64 0))=w7
    have hB7:Below w.heap.size w w7:=by
      subst hW7
      exact below_set (below_set (below_set (Below.trans hB3 (hb6.mono (by omega))) (Nat.le_refl _)) (by simp)) (by omega)
    have hN7:Kd.N k41 41 w7 w.heap.size (fun k_=>(w.heap.size≤k_)) (.slice A0 t1.length c0) t1:=by
      subst hW7
      have hz:=hB5.size
      exact Kd.N_lower (Kd.N_mono (Kd.N_far (Kd.N_far (Kd.N_far ho (fun k hk=>by simp;omega) _) (fun k hk=>by simp;omega) _) (fun k hk=>by simp;omega) _) (fun k hk=>by omega)) (by omega)
    have g2:w7.heap[w.heap.size]? = some (.cells #[Value.slice A0 t1.length c0] 33 (0,0)):=by
      subst hW7
      refine blk_far (blk_far ?_ (by simp) _) (by simp;omega) _
      simpa using blk_set hc2 0 (Value.slice A0 t1.length c0)
    have g3:w7.heap[w.heap.size+1]? = some (.cells #[Value.int IntKind.i64 0] 60 (0,0)):=by
      subst hW7
      refine blk_far ?_ (by simp) _
      simpa using blk_set (blk_far hc3 (by simp) _) 0 (Value.int IntKind.i64 0)
    have g4:w7.heap[w.heap.size+1+1]? = some (.cells #[Value.int IntKind.i64 0] 3 (0,0)):=by
      subst hW7
      simpa using blk_set (blk_far (blk_far hc4 (by simp;omega) _) (by simp) _) 0 (Value.int IntKind.i64 0)
    simp only[bodyPostD]
    refine leaves_cons (f:=35) (args:= #[.pointer (some ⟨w.heap.size,0,none⟩),.pointer (some ⟨w.heap.size+1,0,none⟩),.pointer (some ⟨w.heap.size+1+1,0,none⟩)]) (by simp) (by simp[go_sem]) ?_
    refine(rule_Parse.idle _ _ _ _).mono ?_
    rintro e u' w8 ⟨rfl,rfl,hb8⟩
    have i2:=blk_cell (blk_below g2 hb8) 0
    have i3:=blk_cell (blk_below g3 hb8) 0
    have i4:=blk_cell (blk_below g4 hb8) 0
    simp only[settle,Leaves,results,Tryz.results16]
    refine⟨_,by simp[go_sem,i2,i3,i4] <;> rfl,_,rfl,Kd.N_below hN7 hb8,hB7.trans (hb8.mono hB7.size)⟩

def strings_Repeat.f (a:ByteArray) (n:Int):Option ByteArray:=if 0≤n∧n≤9223372036854775807∧a.size*n.toNat≤140737488355328 then some ⟨(Lib.repeatL a.data.toList n.toNat).toArray⟩ else none
theorem strings_Repeat.calls (a0:ByteArray) (a1:Int) (r:ByteArray) (w:World) (h:strings_Repeat.f a0 a1=some r) :
    Calls Tryz.prog 47 #[.string a0,.int .i64 a1] w fun e w'=>e= .returned (.string r)∧Below w.heap.size w w':=by
  unfold strings_Repeat.f at h
  split at h
  · rename_i hc
    obtain rfl:=Option.some.inj h
    obtain⟨n,rfl⟩:∃n:Nat,a1=n:=⟨a1.toNat,by omega⟩
    exact Tryz.strings_Repeat a0 n w (by omega) (by simpa using hc.2.2)
  · cases h

def num_Zeros.f (a0:Int):Option (ByteArray):=(strings_Repeat.f (⟨#[48]⟩:ByteArray) (mn (mx a0 0) 60000)).bind fun t564=>(some t564)
theorem num_Zeros.calls (a0:Int) (r:ByteArray) (w:World) (h:num_Zeros.f a0=some r) :
    Calls Tryz.prog 24 #[.int .i64 a0] w fun e w'=>e= .returned (.string r)∧Below w.heap.size w w':=by
  have HB:=am_ (Below.refl w.heap.size w)
  have H:=h
  clear h
  unfold num_Zeros.f at H
  obtain⟨ji2,hji2⟩:∃j_:Int,(mx a0 0)=j_:=⟨_,rfl⟩
  replace H:((strings_Repeat.f (⟨#[48]⟩:ByteArray) (mn (ji2) 60000)).bind fun t564=>(some t564))=some r:=by first|(rw[hji2] at H;exact H)|(simp only[hji2] at H ⊢;exact H)
  (try (have hji2l:0≤ji2:=by (rw[← hji2];unfold mx;(repeat' split) <;> omega)))
  (try (have hji2m:0≤ji2:=by omega))
  have hji2_:(if a0<0 then 0 else a0)=ji2:=hji2
  obtain⟨ji3,hji3⟩:∃j_:Int,(mn (ji2) 60000)=j_:=⟨_,rfl⟩
  replace H:((strings_Repeat.f (⟨#[48]⟩:ByteArray) (ji3)).bind fun t564=>(some t564))=some r:=by first|(rw[hji3] at H;exact H)|(simp only[hji3] at H ⊢;exact H)
  have hji3_:(if 60000<(ji2) then 60000 else (ji2))=ji3:=hji3
  replace H:=Option.bind_eq_some_iff.mp H
  obtain⟨t564,A40,H⟩:=H
  have A4:=am_ A40
  clear A40
  obtain rfl:=Option.some.inj H
  go_enter Tryz.func24,Tryz.ntmps24
  go_wp2_with (first|((with_reducible refine gate_callee (f:=47) rfl ?_);refine goesL_ (some 6) rfl rfl Tryz.func47 (by kernel_rfl) rfl #[.string (⟨#[48]⟩:ByteArray),.int .i64 ji3] rfl (by (try simp only[List.map_toArray,List.map_cons,List.map_nil]);first|done|(simp only[hji3];rfl)|rfl|(simp only[List.length_drop,List.length_take];rfl)|(have z_:∀s_:ByteArray,s_.size≤9223372036854775807→ -(s_.size:Int)=wrap64 (-(s_.size:Int)):=(fun s_ h_=>by unfold wrap64;omega);rw[← z_ _ (by omega)];rfl)|(simp only[ByteArray.size_append];rfl)) ?_;(with_reducible refine(strings_Repeat.calls _ _ _ _ A4.out).mono ?_);rintro e w5 ⟨rfl,hb⟩;refine⟨_,rfl,?_⟩;replace HB:=am_ (below_step (bl_ HB).out hb);(try clear hb);(try clear hi)))
  go_ret
  exact⟨by first|rfl|(simp[errW_none,errW_some] <;> rfl)|(simp only[← hji2, ← hji3];first|rfl|(simp[errW_none,errW_some] <;> rfl))|(simp[*,errW_none,errW_some] <;> first|rfl|exact given_isEmpty _|exact(given_isEmpty _).symm),by repeat(first|(with_reducible first|exact HB.out|apply below_alloc|apply pw_below_drewN|apply below_drew1)|exact HB.out)⟩

def operand_Of.f (k:Nat) (a0_0:Bool) (a0_1:ByteArray) (a0_2:ByteArray) (a1:Int):Option (ByteArray × ByteArray × Int):=if (mn (mn (mx a1 0) 10000) (a0_2.size:Int))>0 then (if 0≤(mn (mn (mx a1 0) 10000) (a0_2.size:Int)) then (if (mn (mn (mx a1 0) 10000) (a0_2.size:Int))≤(a0_2.size:Int) then (if a0_1.size+(a0_2.extract 0 ((mn (mn (mx a1 0) 10000) (a0_2.size:Int)):Int).toNat).size≤9223372036854775807 then ((num_Zeros.f ((mn (mx a1 0) 10000)-(mn (mn (mx a1 0) 10000) (a0_2.size:Int)))).bind fun t567=>(if (a0_1++(a0_2.extract 0 ((mn (mn (mx a1 0) 10000) (a0_2.size:Int)):Int).toNat)).size+t567.size≤9223372036854775807 then ((num_Trim.f k ((a0_1++(a0_2.extract 0 ((mn (mn (mx a1 0) 10000) (a0_2.size:Int)):Int).toNat))++t567)).bind fun t568=>(some (t568,a0_2.extract ((mn (mn (mx a1 0) 10000) (a0_2.size:Int)):Int).toNat a0_2.size,mn (mx a1 0) 10000))) else (none))) else (none)) else (none)) else (none)) else ((num_Zeros.f (mn (mx a1 0) 10000)).bind fun t569=>(if a0_1.size+t569.size≤9223372036854775807 then ((num_Trim.f k (a0_1++t569)).bind fun t570=>(some (t570,a0_2,mn (mx a1 0) 10000))) else (none)))
theorem operand_Of.calls (k:Nat) (a0_0:Bool) (a0_1:ByteArray) (a0_2:ByteArray) (a1:Int) (r1:ByteArray) (r2:ByteArray) (r3:Int) (w:World) (h:operand_Of.f k a0_0 a0_1 a0_2 a1=some (r1,r2,r3)) :
  Calls Tryz.prog 10 #[.agg #[.bool a0_0,.string a0_1,.string a0_2],.int .i64 a1] w fun e w'=>e= .returned (.agg #[.string r1,.string r2,.int .i64 r3])∧Below w.heap.size w w':=by
 have hu30:=Tryz.underlying30
 have hu27:=Tryz.underlying27
 have HB:=am_ (Below.refl w.heap.size w)
 have H:=h
 clear h
 unfold operand_Of.f at H
 obtain⟨ji3,hji3⟩:∃j_:Int,(mx a1 0)=j_:=⟨_,rfl⟩
 replace H:(if (mn (mn (ji3) 10000) (a0_2.size:Int))>0 then (if 0≤(mn (mn (ji3) 10000) (a0_2.size:Int)) then (if (mn (mn (ji3) 10000) (a0_2.size:Int))≤(a0_2.size:Int) then (if a0_1.size+(a0_2.extract 0 ((mn (mn (ji3) 10000) (a0_2.size:Int)):Int).toNat).size≤9223372036854775807 then ((num_Zeros.f ((mn (ji3) 10000)-(mn (mn (ji3) 10000) (a0_2.size:Int)))).bind fun t567=>(if (a0_1++(a0_2.extract 0 ((mn (mn (ji3) 10000) (a0_2.size:Int)):Int).toNat)).size+t567.size≤9223372036854775807 then ((num_Trim.f k ((a0_1++(a0_2.extract 0 ((mn (mn (ji3) 10000) (a0_2.size:Int)):Int).toNat))++t567)).bind fun t568=>(some (t568,a0_2.extract ((mn (mn (ji3) 10000) (a0_2.size:Int)):Int).toNat a0_2.size,mn (ji3) 10000))) else (none))) else (none)) else (none)) else (none)) else ((num_Zeros.f (mn (ji3) 10000)).bind fun t569=>(if a0_1.size+t569.size≤9223372036854775807 then ((num_Trim.f k (a0_1++t569)).bind fun t570=>(some (t570,a0_2,mn (ji3) 10000))) else (none))))=some (r1,r2,r3):=by first|(rw[hji3] at H;exact H)|(simp only[hji3] at H ⊢;exact H)
 (try (have hji3l:0≤ji3:=by (rw[← hji3];unfold mx;(repeat' split) <;> omega)))
 (try (have hji3m:0≤ji3:=by omega))
 have hji3_:(if a1<0 then 0 else a1)=ji3:=hji3
 obtain⟨ji4,hji4⟩:∃j_:Int,(mn (ji3) 10000)=j_:=⟨_,rfl⟩
 replace H:(if (mn (ji4) (a0_2.size:Int))>0 then (if 0≤(mn (ji4) (a0_2.size:Int)) then (if (mn (ji4) (a0_2.size:Int))≤(a0_2.size:Int) then (if a0_1.size+(a0_2.extract 0 ((mn (ji4) (a0_2.size:Int)):Int).toNat).size≤9223372036854775807 then ((num_Zeros.f ((ji4)-(mn (ji4) (a0_2.size:Int)))).bind fun t567=>(if (a0_1++(a0_2.extract 0 ((mn (ji4) (a0_2.size:Int)):Int).toNat)).size+t567.size≤9223372036854775807 then ((num_Trim.f k ((a0_1++(a0_2.extract 0 ((mn (ji4) (a0_2.size:Int)):Int).toNat))++t567)).bind fun t568=>(some (t568,a0_2.extract ((mn (ji4) (a0_2.size:Int)):Int).toNat a0_2.size,ji4))) else (none))) else (none)) else (none)) else (none)) else ((num_Zeros.f (ji4)).bind fun t569=>(if a0_1.size+t569.size≤9223372036854775807 then ((num_Trim.f k (a0_1++t569)).bind fun t570=>(some (t570,a0_2,ji4))) else (none))))=some (r1,r2,r3):=by first|(rw[hji4] at H;exact H)|(simp only[hji4] at H ⊢;exact H)
 have hji4_:(if 10000<(ji3) then 10000 else (ji3))=ji4:=hji4
 obtain⟨ji5,hji5⟩:∃j_:Int,(mn (ji4) (a0_2.size:Int))=j_:=⟨_,rfl⟩
 replace H:(if (ji5)>0 then (if 0≤(ji5) then (if (ji5)≤(a0_2.size:Int) then (if a0_1.size+(a0_2.extract 0 ((ji5):Int).toNat).size≤9223372036854775807 then ((num_Zeros.f ((ji4)-(ji5))).bind fun t567=>(if (a0_1++(a0_2.extract 0 ((ji5):Int).toNat)).size+t567.size≤9223372036854775807 then ((num_Trim.f k ((a0_1++(a0_2.extract 0 ((ji5):Int).toNat))++t567)).bind fun t568=>(some (t568,a0_2.extract ((ji5):Int).toNat a0_2.size,ji4))) else (none))) else (none)) else (none)) else (none)) else ((num_Zeros.f (ji4)).bind fun t569=>(if a0_1.size+t569.size≤9223372036854775807 then ((num_Trim.f k (a0_1++t569)).bind fun t570=>(some (t570,a0_2,ji4))) else (none))))=some (r1,r2,r3):=by first|(rw[hji5] at H;exact H)|(simp only[hji5] at H ⊢;exact H)
 have hji5_:(if (a0_2.size:Int)<(ji4) then (a0_2.size:Int) else (ji4))=ji5:=hji5
 by_cases c6:(ji5)>0
 ·rw[if_pos c6] at H
  have c6b0:decide (0<(ji5))=true:=decide_eq_true c6
  clear c6
  replace H:=ifn_ H
  obtain⟨c7,H⟩:=H
  have c7b0:=eq_true c7
  have c7b1:decide (0≤(ji5))=true:=decide_eq_true c7
  clear c7
  replace H:=ifn_ H
  obtain⟨c8,H⟩:=H
  have c8b0:=eq_true c8
  have c8b1:decide ((ji5)≤(a0_2.size:Int))=true:=decide_eq_true c8
  clear c8
  replace H:=ifn_ H
  obtain⟨c9,H⟩:=H
  have c9b0:=eq_true c9
  have c9b1:decide (a0_1.size+(a0_2.extract 0 ((ji5):Int).toNat).size≤9223372036854775807)=true:=decide_eq_true c9
  try have c9b2:=eq_false (Nat.not_lt.2 c9)
  (try (have c9x0:=c9b0;simp only[ByteArray.size_extract,Nat.min_self,Nat.sub_zero] at c9x0))
  (try (have c9x1:=c9b1;simp only[ByteArray.size_extract,Nat.min_self,Nat.sub_zero] at c9x1))
  have c10b0:=eq_true (od_:0≤(ji5))
  have c11b0:=eq_true (od_:(ji5)≤(a0_2.size:Int))
  replace H:=Option.bind_eq_some_iff.mp H
  obtain⟨t567,A120,H⟩:=H
  have A12:=am_ A120
  clear A120
  replace H:=ifn_ H
  obtain⟨c13,H⟩:=H
  have c13b0:=eq_true c13
  have c13b1:decide ((a0_1++(a0_2.extract 0 ((ji5):Int).toNat)).size+t567.size≤9223372036854775807)=true:=decide_eq_true c13
  try (have c13b5:=c13b0;simp only[ByteArray.size_append,Int.natCast_add] at c13b5)
  try have c13b2:=eq_false (Nat.not_lt.2 c13)
  try have c13b3:(9223372036854775807<a0_1.size+(a0_2.extract 0 ((ji5):Int).toNat).size+t567.size)=False:=eq_false (Nat.not_lt.2 (by have h_:=c13;simp only[ByteArray.size_append] at h_;exact h_))
  try have c13b4:(a0_1.size+(a0_2.extract 0 ((ji5):Int).toNat).size+t567.size≤9223372036854775807)=True:=eq_true (by have h_:=c13;simp only[ByteArray.size_append] at h_;exact h_)
  (try (have c13x0:=c13b0;simp only[ByteArray.size_extract,Nat.min_self,Nat.sub_zero] at c13x0))
  (try (have c13x1:=c13b1;simp only[ByteArray.size_extract,Nat.min_self,Nat.sub_zero] at c13x1))
  replace H:=Option.bind_eq_some_iff.mp H
  obtain⟨t568,A140,H⟩:=H
  have A14:=am_ A140
  clear A140
  simp only[Option.some.injEq,Prod.mk.injEq] at H
  obtain⟨rfl,rfl,rfl⟩:=H
  go_enter Tryz.func10,Tryz.ntmps10
  go_wp2_with (first|((with_reducible refine gate_dst (N:=2) rfl ?_);refine be_ 2 #[.bool a0_0,.string a0_1,.string a0_2] 30 ?_;intro gb565 hg w15 hbox hb;have BK565:=am_ (hbox);have GW565:=sz_ HB hg;have GE565:=sz_ HB hg;replace HB:=am_ (below_step (bl_ HB).out hb);clear hb hbox hg)|((with_reducible refine gate_dst (N:=4) rfl ?_);refine be_ 4 #[.string (⟨#[]⟩:ByteArray),.string (⟨#[]⟩:ByteArray),.int .i64 0] 27 ?_;intro gb566 hg w16 hbox hb;have BK566:=am_ (hbox);have GW566:=sz_ HB hg;have GE566:=sz_ HB hg;have NB565_566:=na_ BK565 hg;have NB566_565:=nb_ BK565 hg;replace BK565:=bb_ BK565 hb;replace HB:=am_ (below_step (bl_ HB).out hb);clear hb hbox hg;have hnb17:=NB565_566.out;have hnc17:=NB566_565.out;obtain⟨hcz18_0,hcz18_1,hcz18_2,hfz18_0,hfz18_1,hfz18_2⟩:=bo3_ BK565)|(go_at_call 24;(with_reducible refine(num_Zeros.calls _ _ _ A12.out).mono ?_);rintro e w19 ⟨rfl,hb⟩;replace BK565:=bb_ BK565 hb;replace BK566:=bb_ BK566 hb;replace HB:=am_ (below_step (bl_ HB).out hb);(try clear hb);(try clear hi))|(go_at_call 25;(with_reducible refine(num_Trim.calls k ((a0_1++(a0_2.extract 0 ((ji5):Int).toNat))++t567) t568 _ A14.out).mono ?_);rintro e w' ⟨rfl,⟨nd,rfl⟩⟩;(try first|exact⟨rfl,_,World.drewN_drewN _ _ _⟩|exact⟨rfl,_,Eq.trans (World.drewN_drewN _ _ _) (congrArg (World.drewN _) (Nat.add_assoc _ _ _))⟩);obtain⟨hcz20_0,hcz20_1,hcz20_2,hfz20_0,hfz20_1,hfz20_2⟩:=bo3_ BK566))
  repeat(go_quiet (first|((with_reducible refine gate_dst (N:=2) rfl ?_);refine be_ 2 #[.bool a0_0,.string a0_1,.string a0_2] 30 ?_;intro gb565 hg w15 hbox hb;have BK565:=am_ (hbox);have GW565:=sz_ HB hg;have GE565:=sz_ HB hg;replace HB:=am_ (below_step (bl_ HB).out hb);clear hb hbox hg)|((with_reducible refine gate_dst (N:=4) rfl ?_);refine be_ 4 #[.string (⟨#[]⟩:ByteArray),.string (⟨#[]⟩:ByteArray),.int .i64 0] 27 ?_;intro gb566 hg w16 hbox hb;have BK566:=am_ (hbox);have GW566:=sz_ HB hg;have GE566:=sz_ HB hg;have NB565_566:=na_ BK565 hg;have NB566_565:=nb_ BK565 hg;replace BK565:=bb_ BK565 hb;replace HB:=am_ (below_step (bl_ HB).out hb);clear hb hbox hg;have hnb17:=NB565_566.out;have hnc17:=NB566_565.out;obtain⟨hcz18_0,hcz18_1,hcz18_2,hfz18_0,hfz18_1,hfz18_2⟩:=bo3_ BK565)|(go_at_call 24;(with_reducible refine(num_Zeros.calls _ _ _ A12.out).mono ?_);rintro e w19 ⟨rfl,hb⟩;replace BK565:=bb_ BK565 hb;replace BK566:=bb_ BK566 hb;replace HB:=am_ (below_step (bl_ HB).out hb);(try clear hb);(try clear hi))|(go_at_call 25;(with_reducible refine(num_Trim.calls k ((a0_1++(a0_2.extract 0 ((ji5):Int).toNat))++t567) t568 _ A14.out).mono ?_);rintro e w' ⟨rfl,⟨nd,rfl⟩⟩;(try first|exact⟨rfl,_,World.drewN_drewN _ _ _⟩|exact⟨rfl,_,Eq.trans (World.drewN_drewN _ _ _) (congrArg (World.drewN _) (Nat.add_assoc _ _ _))⟩);obtain⟨hcz20_0,hcz20_1,hcz20_2,hfz20_0,hfz20_1,hfz20_2⟩:=bo3_ BK566));try go_wp2_with (first|((with_reducible refine gate_dst (N:=2) rfl ?_);refine be_ 2 #[.bool a0_0,.string a0_1,.string a0_2] 30 ?_;intro gb565 hg w15 hbox hb;have BK565:=am_ (hbox);have GW565:=sz_ HB hg;have GE565:=sz_ HB hg;replace HB:=am_ (below_step (bl_ HB).out hb);clear hb hbox hg)|((with_reducible refine gate_dst (N:=4) rfl ?_);refine be_ 4 #[.string (⟨#[]⟩:ByteArray),.string (⟨#[]⟩:ByteArray),.int .i64 0] 27 ?_;intro gb566 hg w16 hbox hb;have BK566:=am_ (hbox);have GW566:=sz_ HB hg;have GE566:=sz_ HB hg;have NB565_566:=na_ BK565 hg;have NB566_565:=nb_ BK565 hg;replace BK565:=bb_ BK565 hb;replace HB:=am_ (below_step (bl_ HB).out hb);clear hb hbox hg;have hnb17:=NB565_566.out;have hnc17:=NB566_565.out;obtain⟨hcz18_0,hcz18_1,hcz18_2,hfz18_0,hfz18_1,hfz18_2⟩:=bo3_ BK565)|(go_at_call 24;(with_reducible refine(num_Zeros.calls _ _ _ A12.out).mono ?_);rintro e w19 ⟨rfl,hb⟩;replace BK565:=bb_ BK565 hb;replace BK566:=bb_ BK566 hb;replace HB:=am_ (below_step (bl_ HB).out hb);(try clear hb);(try clear hi))|(go_at_call 25;(with_reducible refine(num_Trim.calls k ((a0_1++(a0_2.extract 0 ((ji5):Int).toNat))++t567) t568 _ A14.out).mono ?_);rintro e w' ⟨rfl,⟨nd,rfl⟩⟩;(try first|exact⟨rfl,_,World.drewN_drewN _ _ _⟩|exact⟨rfl,_,Eq.trans (World.drewN_drewN _ _ _) (congrArg (World.drewN _) (Nat.add_assoc _ _ _))⟩);obtain⟨hcz20_0,hcz20_1,hcz20_2,hfz20_0,hfz20_1,hfz20_2⟩:=bo3_ BK566)))
  refine bodyPost_ret (results_cell_row rfl _ _ gb566 27 #[.string t568,.string (a0_2.extract ((ji5):Int).toNat a0_2.size),.int .i64 ji4] (0,0) _ rfl ((bp_ BK566).out) Tryz.underlying27 rfl (by kernel_rfl)) rfl ?_
  exact⟨by first|rfl|(simp[errW_none,errW_some] <;> rfl)|(simp only[← hji3, ← hji4, ← hji5];first|rfl|(simp[errW_none,errW_some] <;> rfl))|(simp[*,errW_none,errW_some] <;> first|rfl|exact given_isEmpty _|exact(given_isEmpty _).symm),by repeat(first|(with_reducible first|exact HB.out|apply below_alloc|apply pw_below_drewN|apply below_drew1|refine below_set ?_ GE565.out|refine below_set ?_ GE566.out)|exact HB.out)⟩
 rw[if_neg c6] at H
 have c6b0:decide (0<(ji5))=false:=decide_eq_false c6
 clear c6
 replace H:=Option.bind_eq_some_iff.mp H
 obtain⟨t569,A210,H⟩:=H
 have A21:=am_ A210
 clear A210
 replace H:=ifn_ H
 obtain⟨c22,H⟩:=H
 have c22b0:=eq_true c22
 have c22b1:decide (a0_1.size+t569.size≤9223372036854775807)=true:=decide_eq_true c22
 try have c22b2:=eq_false (Nat.not_lt.2 c22)
 replace H:=Option.bind_eq_some_iff.mp H
 obtain⟨t570,A230,H⟩:=H
 have A23:=am_ A230
 clear A230
 simp only[Option.some.injEq,Prod.mk.injEq] at H
 obtain⟨rfl,rfl,rfl⟩:=H
 go_enter Tryz.func10,Tryz.ntmps10
 go_wp2_with (first|((with_reducible refine gate_dst (N:=2) rfl ?_);refine be_ 2 #[.bool a0_0,.string a0_1,.string a0_2] 30 ?_;intro gb565 hg w24 hbox hb;have BK565:=am_ (hbox);have GW565:=sz_ HB hg;have GE565:=sz_ HB hg;replace HB:=am_ (below_step (bl_ HB).out hb);clear hb hbox hg)|((with_reducible refine gate_dst (N:=4) rfl ?_);refine be_ 4 #[.string (⟨#[]⟩:ByteArray),.string (⟨#[]⟩:ByteArray),.int .i64 0] 27 ?_;intro gb566 hg w25 hbox hb;have BK566:=am_ (hbox);have GW566:=sz_ HB hg;have GE566:=sz_ HB hg;have NB565_566:=na_ BK565 hg;have NB566_565:=nb_ BK565 hg;replace BK565:=bb_ BK565 hb;replace HB:=am_ (below_step (bl_ HB).out hb);clear hb hbox hg;have hnb26:=NB565_566.out;have hnc26:=NB566_565.out;obtain⟨hcz27_0,hcz27_1,hcz27_2,hfz27_0,hfz27_1,hfz27_2⟩:=bo3_ BK565)|(go_at_call 24;(with_reducible refine(num_Zeros.calls _ _ _ A21.out).mono ?_);rintro e w28 ⟨rfl,hb⟩;replace BK565:=bb_ BK565 hb;replace BK566:=bb_ BK566 hb;replace HB:=am_ (below_step (bl_ HB).out hb);(try clear hb);(try clear hi))|(go_at_call 25;(with_reducible refine(num_Trim.calls _ _ _ _ A23.out).mono ?_);rintro e w' ⟨rfl,⟨nd,rfl⟩⟩;(try first|exact⟨rfl,_,World.drewN_drewN _ _ _⟩|exact⟨rfl,_,Eq.trans (World.drewN_drewN _ _ _) (congrArg (World.drewN _) (Nat.add_assoc _ _ _))⟩);obtain⟨hcz29_0,hcz29_1,hcz29_2,hfz29_0,hfz29_1,hfz29_2⟩:=bo3_ BK566))
 repeat(go_quiet (first|((with_reducible refine gate_dst (N:=2) rfl ?_);refine be_ 2 #[.bool a0_0,.string a0_1,.string a0_2] 30 ?_;intro gb565 hg w24 hbox hb;have BK565:=am_ (hbox);have GW565:=sz_ HB hg;have GE565:=sz_ HB hg;replace HB:=am_ (below_step (bl_ HB).out hb);clear hb hbox hg)|((with_reducible refine gate_dst (N:=4) rfl ?_);refine be_ 4 #[.string (⟨#[]⟩:ByteArray),.string (⟨#[]⟩:ByteArray),.int .i64 0] 27 ?_;intro gb566 hg w25 hbox hb;have BK566:=am_ (hbox);have GW566:=sz_ HB hg;have GE566:=sz_ HB hg;have NB565_566:=na_ BK565 hg;have NB566_565:=nb_ BK565 hg;replace BK565:=bb_ BK565 hb;replace HB:=am_ (below_step (bl_ HB).out hb);clear hb hbox hg;have hnb26:=NB565_566.out;have hnc26:=NB566_565.out;obtain⟨hcz27_0,hcz27_1,hcz27_2,hfz27_0,hfz27_1,hfz27_2⟩:=bo3_ BK565)|(go_at_call 24;(with_reducible refine(num_Zeros.calls _ _ _ A21.out).mono ?_);rintro e w28 ⟨rfl,hb⟩;replace BK565:=bb_ BK565 hb;replace BK566:=bb_ BK566 hb;replace HB:=am_ (below_step (bl_ HB).out hb);(try clear hb);(try clear hi))|(go_at_call 25;(with_reducible refine(num_Trim.calls _ _ _ _ A23.out).mono ?_);rintro e w' ⟨rfl,⟨nd,rfl⟩⟩;(try first|exact⟨rfl,_,World.drewN_drewN _ _ _⟩|exact⟨rfl,_,Eq.trans (World.drewN_drewN _ _ _) (congrArg (World.drewN _) (Nat.add_assoc _ _ _))⟩);obtain⟨hcz29_0,hcz29_1,hcz29_2,hfz29_0,hfz29_1,hfz29_2⟩:=bo3_ BK566));try go_wp2_with (first|((with_reducible refine gate_dst (N:=2) rfl ?_);refine be_ 2 #[.bool a0_0,.string a0_1,.string a0_2] 30 ?_;intro gb565 hg w24 hbox hb;have BK565:=am_ (hbox);have GW565:=sz_ HB hg;have GE565:=sz_ HB hg;replace HB:=am_ (below_step (bl_ HB).out hb);clear hb hbox hg)|((with_reducible refine gate_dst (N:=4) rfl ?_);refine be_ 4 #[.string (⟨#[]⟩:ByteArray),.string (⟨#[]⟩:ByteArray),.int .i64 0] 27 ?_;intro gb566 hg w25 hbox hb;have BK566:=am_ (hbox);have GW566:=sz_ HB hg;have GE566:=sz_ HB hg;have NB565_566:=na_ BK565 hg;have NB566_565:=nb_ BK565 hg;replace BK565:=bb_ BK565 hb;replace HB:=am_ (below_step (bl_ HB).out hb);clear hb hbox hg;have hnb26:=NB565_566.out;have hnc26:=NB566_565.out;obtain⟨hcz27_0,hcz27_1,hcz27_2,hfz27_0,hfz27_1,hfz27_2⟩:=bo3_ BK565)|(go_at_call 24;(with_reducible refine(num_Zeros.calls _ _ _ A21.out).mono ?_);rintro e w28 ⟨rfl,hb⟩;replace BK565:=bb_ BK565 hb;replace BK566:=bb_ BK566 hb;replace HB:=am_ (below_step (bl_ HB).out hb);(try clear hb);(try clear hi))|(go_at_call 25;(with_reducible refine(num_Trim.calls _ _ _ _ A23.out).mono ?_);rintro e w' ⟨rfl,⟨nd,rfl⟩⟩;(try first|exact⟨rfl,_,World.drewN_drewN _ _ _⟩|exact⟨rfl,_,Eq.trans (World.drewN_drewN _ _ _) (congrArg (World.drewN _) (Nat.add_assoc _ _ _))⟩);obtain⟨hcz29_0,hcz29_1,hcz29_2,hfz29_0,hfz29_1,hfz29_2⟩:=bo3_ BK566)))
 refine bodyPost_ret (results_cell_row rfl _ _ gb566 27 #[.string t570,.string a0_2,.int .i64 ji4] (0,0) _ rfl ((bp_ BK566).out) Tryz.underlying27 rfl (by kernel_rfl)) rfl ?_
 exact⟨by first|rfl|(simp[errW_none,errW_some] <;> rfl)|(simp only[← hji3, ← hji4, ← hji5];first|rfl|(simp[errW_none,errW_some] <;> rfl))|(simp[*,errW_none,errW_some] <;> first|rfl|exact given_isEmpty _|exact(given_isEmpty _).symm),by repeat(first|(with_reducible first|exact HB.out|apply below_alloc|apply pw_below_drewN|apply below_drew1|refine below_set ?_ GE565.out|refine below_set ?_ GE566.out)|exact HB.out)⟩

def strings_IndexByte.f (a:ByteArray) (b:Int):Option Int:=some (Lib.indexByte a.data.toList b.toNat.toUInt8)
theorem strings_IndexByte.calls (a0:ByteArray) (a1:Int) (r:Int) (w:World) (h:strings_IndexByte.f a0 a1=some r) :
    Calls Tryz.prog 69 #[.string a0,.int .u8 a1] w fun e w'=>e= .returned (.int .i64 r)∧Drawn0 w w':=by
  obtain rfl:=Option.some.inj h
  refine(Tryz.strings_IndexByte a0 a1 w).mono ?_
  rintro e w' ⟨rfl,rfl⟩
  exact⟨rfl,Drawn0.refl _⟩

end Go.Proofs.YtadagjgkanlmdaaGreatDoor.P
