import Derived.Test.YtadagjgkanlmdaaGreatDoorPx0
import Derived.Test.YtadagjgkanlmdaaGreatDoorPx17
namespace Go.Proofs.YtadagjgkanlmdaaGreatDoor.P
open Go.RowKit Go.Proofs.YtadagjgkanlmdaaGreatDoorW.PrintWords Go.Proofs.YtadagjgkanlmdaaGreatDoorW.PrintLast Go.Proofs.YtadagjgkanlmdaaGreatDoorW.PrintMore
attribute [local go_sem] max2_int min2_int max_two min_two max_three min_three max_four min_four
set_option maxHeartbeats 64000000
set_option maxRecDepth 100000
set_option linter.unusedVariables false
set_option linter.unusedSimpArgs false

mutual
def florinlaw07_Pick.l0:Nat→List (S41)→Int→ByteArray→ByteArray→Int→Option (Int)
 | 0,_,_,_,_,_=>none
 | k+1,x0,x5,x914000,x914001,x914002=>if x5<5 then (florinlaw07_Pick.l1 k x0 x5 x0 (x0.length:Int) 0 x914000 x914001 x914002) else (some 5)
def florinlaw07_Pick.l1:Nat→List (S41)→Int→List (S41)→Int→Int→ByteArray→ByteArray→Int→Option (Int)
 | 0,_,_,_,_,_,_,_,_=>none
 | k+1,x0,x5,x12,x13,x14,x914000,x914001,x914002=>if x14<x13 then (if 0≤x14 then (if x14<(x12.length:Int) then (if ((rd_T41 x12 x14).f0)=x5 then ((florinlaw07_Meets.f k ((rd_T41 x12 x14).f0) ((rd_T41 x12 x14).f1) ((rd_T41 x12 x14).f2) x914000 x914001 x914002).bind fun t916=>(if t916=true then (some x5) else (florinlaw07_Pick.l1 k x0 x5 x12 x13 (wrap64 (x14+1)) x914000 x914001 x914002))) else (florinlaw07_Pick.l1 k x0 x5 x12 x13 (wrap64 (x14+1)) x914000 x914001 x914002)) else (none)) else (none)) else (florinlaw07_Pick.l0 k x0 (wrap64 (x5+1)) x914000 x914001 x914002)
end
def florinlaw07_Pick.f (k:Nat) (l0:List (S41)) (a1_0:ByteArray) (a1_1:ByteArray) (a1_2:Int):Option (Int):=florinlaw07_Pick.l0 k l0 0 a1_0 a1_1 a1_2
theorem florinlaw07_Pick.calls (k:Nat) (A0:Option Addr) (c0:Nat) (l0:List (S41)) (a1_0:ByteArray) (a1_1:ByteArray) (a1_2:Int) (r:Int) (w:World) (hr0:Kd.C k41 w A0 l0.length l0) (hc0:l0.length≤c0) (h:florinlaw07_Pick.f k l0 a1_0 a1_1 a1_2=some r) :
  Calls Tryz.prog 22 #[.slice A0 l0.length c0,.agg #[.string a1_0,.string a1_1,.int .i64 a1_2]] w fun e w'=>e= .returned (.int .i64 r)∧Below w.heap.size w w':=by
 have hu27:=Tryz.underlying27
 have hu41:=Tryz.underlying41
 have HR0:=am_ hr0
 have HC0:=am_ hc0
 clear hr0 hc0
 have HB:=am_ (Below.refl w.heap.size w)
 have H:=h
 clear h
 unfold florinlaw07_Pick.f at H
 have H':=am_ H
 clear H
 go_enter Tryz.func22,Tryz.ntmps22
 go_wp2_with (first|((with_reducible refine gate_dst (N:=3) rfl ?_);refine be_ 3 #[.string a1_0,.string a1_1,.int .i64 a1_2] 27 ?_;intro gb913 hg w3 hbox hb;have BK913:=am_ (hbox);have GW913:=sz_ HB hg;have GE913:=sz_ HB hg;replace HB:=am_ (below_step (bl_ HB).out hb);clear hb hbox hg))
 go_loopg [5] k (fun kq v5 w'=>∃(x5_1:Int),v5= .int .i64 x5_1∧Aside0 (florinlaw07_Pick.l0 kq l0 x5_1 a1_0 a1_1 a1_2=some r)∧Aside0 (kq≤k)∧Aside0 (w'.heap[gb913]? = some (.cells #[.string a1_0,.string a1_1,.int .i64 a1_2] 27 (0,0)))∧Aside0 (Below w.heap.size w w'))
 case atStart=>exact⟨(0),eq_,H',⟨Nat.le_refl _⟩,(bk_ BK913),(bl_ HB)⟩
 clear H'
 obtain⟨x5_1,rfl,HA,HK1,BK913,HB⟩:=hrel
 cases gk with
 | zero=>exact absurd HA.out (by simp[florinlaw07_Pick.l0])
 | succ k1=>?_
 have H:=HA.out
 clear HA
 simp only[florinlaw07_Pick.l0] at H
 by_cases c4:x5_1<5
 ·rw[if_pos c4] at H
  have c4b0:=decide_eq_true c4
  clear c4
  have H':=am_ H
  clear H
  go_wp2
  go_loopg [14] k1 (fun kq v14 w'=>∃(x14_2:Int),v14= .int .i64 x14_2∧Aside0 (florinlaw07_Pick.l1 kq l0 x5_1 l0 (l0.length:Int) x14_2 a1_0 a1_1 a1_2=some r)∧Aside0 (kq≤k1)∧Aside0 (w'.heap[gb913]? = some (.cells #[.string a1_0,.string a1_1,.int .i64 a1_2] 27 (0,0)))∧Aside0 (Below w.heap.size w w'))
  case atStart=>exact⟨(0),eq_,H',⟨Nat.le_refl _⟩,(bk_ BK913),(bl_ HB)⟩
  clear H'
  obtain⟨x14_2,rfl,HA,HK2,BK913,HB⟩:=hrel
  cases gk with
  | zero=>exact absurd HA.out (by simp[florinlaw07_Pick.l1])
  | succ k2=>?_
  have H:=HA.out
  clear HA
  simp only[florinlaw07_Pick.l1] at H
  by_cases c5:x14_2<(l0.length:Int)
  ·rw[if_pos c5] at H
   have c5b0:=decide_eq_true c5
   clear c5
   replace H:=ifn_ H
   obtain⟨c6,H⟩:=H
   have c6b0:decide (0≤x14_2)=true:=decide_eq_true c6
   clear c6
   replace H:=ifn_ H
   obtain⟨c7,H⟩:=H
   have c7b0:decide (x14_2<(l0.length:Int))=true:=decide_eq_true c7
   clear c7
   by_cases c8:((rd_T41 l0 x14_2).f0)=x5_1
   ·rw[if_pos c8] at H
    have c8b0:(((rd_T41 l0 x14_2).f0)==x5_1)=true:=beq_iff_eq.mpr c8
    have c8b1:(((rd_T41 l0 x14_2).f0) !=x5_1)=false:=bne_eq_false_iff_eq.mpr c8
    clear c8
    replace H:=Option.bind_eq_some_iff.mp H
    obtain⟨t916,A90,H⟩:=H
    have A9:=am_ A90
    clear A90
    by_cases c10:t916=true
    ·subst c10
     rw[if_pos rfl] at H
     obtain rfl:=Option.some.inj H
     have p914:0≤(x14_2:Int):=od_
     have q914:x14_2<(l0.length:Int):=od_
     obtain⟨ad914,A914_1,c914_1,e914,hx914_0,hx914_1,hx914_2,hl914_1,hi914_1⟩:=at_T41 HR0.out x14_2 p914 q914
     cases e914
     replace hx914_0:=hbc_ HB hx914_0
     replace hx914_1:=hbc_ HB hx914_1
     replace hx914_2:=hbc_ HB hx914_2
     have HR914_1:=am_ hi914_1
     have HC914_1:=am_ hl914_1
     clear hi914_1 hl914_1
     replace p914:=eq_true p914
     replace q914:=eq_true q914
     go_wp2_with (first|((with_reducible refine gate_dst (N:=7) rfl ?_);refine be_ 7 #[.int .i64 0,.slice none 0 0,.string (⟨#[]⟩:ByteArray)] 41 ?_;intro gb915 hg w11 hbox hb;have BK915:=am_ (hbox);have GW915:=sz_ HB hg;have GE915:=sz_ HB hg;have NB913_915:=na_ BK913 hg;have NB915_913:=nb_ BK913 hg;replace BK913:=bb_ BK913 hb;replace HB:=am_ (below_step (bl_ HB).out hb);clear hb hbox hg;have hnb12:=NB915_913.out;have hnc12:=NB913_915.out;obtain⟨hcz13_0,hcz13_1,hcz13_2,hfz13_0,hfz13_1,hfz13_2⟩:=bo3_ BK915;obtain⟨hcz14_0,hcz14_1,hcz14_2,hfz14_0,hfz14_1,hfz14_2⟩:=bo3_ BK913)|(go_at_call 21;(with_reducible refine(florinlaw07_Meets.calls _ _ _ _ _ _ _ _ _ _ _ ?side1 ?side2 A9.out).mono ?_);(case side1=>exact Kd.C_below HR914_1.out (bl_ HB).out);(case side2=>exact HC914_1.out);rintro e w15 ⟨rfl,hb⟩;have n0_:=bz_ BK913 hb;have n1_:=am_ (blk_below (g:=gb915) (o:= .cells #[.int .i64 ((rd_T41 l0 x14_2).f0),.slice A914_1 ((rd_T41 l0 x14_2).f1).length c914_1,.string ((rd_T41 l0 x14_2).f2)] 41 (0,0)) ((bp_ BK915).out) hb);have n2_:=am_ (below_step (bl_ HB).out hb);clear BK913;clear BK915;clear HB;revert n0_ n1_ n2_;intro BK913 BK915 HB;(try clear hb);(try clear hi)))
     go_ret
     exact⟨ew_,(bl_ HB).out⟩
    replace c10:=Bool.eq_false_iff.mpr c10
    subst c10
    rw[if_neg (show ¬(false=true) by decide)] at H
    have H':=am_ H
    clear H
    have p914:0≤(x14_2:Int):=od_
    have q914:x14_2<(l0.length:Int):=od_
    obtain⟨ad914,A914_1,c914_1,e914,hx914_0,hx914_1,hx914_2,hl914_1,hi914_1⟩:=at_T41 HR0.out x14_2 p914 q914
    cases e914
    replace hx914_0:=hbc_ HB hx914_0
    replace hx914_1:=hbc_ HB hx914_1
    replace hx914_2:=hbc_ HB hx914_2
    have HR914_1:=am_ hi914_1
    have HC914_1:=am_ hl914_1
    clear hi914_1 hl914_1
    replace p914:=eq_true p914
    replace q914:=eq_true q914
    go_wp2_with (first|((with_reducible refine gate_dst (N:=7) rfl ?_);refine be_ 7 #[.int .i64 0,.slice none 0 0,.string (⟨#[]⟩:ByteArray)] 41 ?_;intro gb915 hg w16 hbox hb;have BK915:=am_ (hbox);have GW915:=sz_ HB hg;have GE915:=sz_ HB hg;have NB913_915:=na_ BK913 hg;have NB915_913:=nb_ BK913 hg;replace BK913:=bb_ BK913 hb;replace HB:=am_ (below_step (bl_ HB).out hb);clear hb hbox hg;have hnb17:=NB915_913.out;have hnc17:=NB913_915.out;obtain⟨hcz18_0,hcz18_1,hcz18_2,hfz18_0,hfz18_1,hfz18_2⟩:=bo3_ BK915;obtain⟨hcz19_0,hcz19_1,hcz19_2,hfz19_0,hfz19_1,hfz19_2⟩:=bo3_ BK913)|(go_at_call 21;(with_reducible refine(florinlaw07_Meets.calls _ _ _ _ _ _ _ _ _ _ _ ?side1 ?side2 A9.out).mono ?_);(case side1=>exact Kd.C_below HR914_1.out (bl_ HB).out);(case side2=>exact HC914_1.out);rintro e w20 ⟨rfl,hb⟩;have n0_:=bz_ BK913 hb;have n1_:=am_ (blk_below (g:=gb915) (o:= .cells #[.int .i64 ((rd_T41 l0 x14_2).f0),.slice A914_1 ((rd_T41 l0 x14_2).f1).length c914_1,.string ((rd_T41 l0 x14_2).f2)] 41 (0,0)) ((bp_ BK915).out) hb);have n2_:=am_ (below_step (bl_ HB).out hb);clear BK913;clear BK915;clear HB;revert n0_ n1_ n2_;intro BK913 BK915 HB;(try clear hb);(try clear hi)))
    go_roundg k2
    case measure=>have:=HK1.out;have:=HK2.out;omega
    case rel=>exact⟨(wrap64 (x14_2+1)),eq_,H',⟨by have:=HK1.out;have:=HK2.out;omega⟩,(bk_ BK913),(bl_ HB)⟩
   rw[if_neg c8] at H
   have c8b0:(((rd_T41 l0 x14_2).f0)==x5_1)=false:=beq_eq_false_iff_ne.mpr c8
   have c8b1:(((rd_T41 l0 x14_2).f0) !=x5_1)=true:=bne_iff_ne.mpr c8
   have H':=am_ H
   clear H
   have p914:0≤(x14_2:Int):=od_
   have q914:x14_2<(l0.length:Int):=od_
   obtain⟨ad914,A914_1,c914_1,e914,hx914_0,hx914_1,hx914_2,hl914_1,hi914_1⟩:=at_T41 HR0.out x14_2 p914 q914
   cases e914
   replace hx914_0:=hbc_ HB hx914_0
   replace hx914_1:=hbc_ HB hx914_1
   replace hx914_2:=hbc_ HB hx914_2
   have HR914_1:=am_ hi914_1
   have HC914_1:=am_ hl914_1
   clear hi914_1 hl914_1
   replace p914:=eq_true p914
   replace q914:=eq_true q914
   go_wp2_with (first|((with_reducible refine gate_dst (N:=7) rfl ?_);refine be_ 7 #[.int .i64 0,.slice none 0 0,.string (⟨#[]⟩:ByteArray)] 41 ?_;intro gb915 hg w21 hbox hb;have BK915:=am_ (hbox);have GW915:=sz_ HB hg;have GE915:=sz_ HB hg;have NB913_915:=na_ BK913 hg;have NB915_913:=nb_ BK913 hg;replace BK913:=bb_ BK913 hb;replace HB:=am_ (below_step (bl_ HB).out hb);clear hb hbox hg;have hnb22:=NB915_913.out;have hnc22:=NB913_915.out;obtain⟨hcz23_0,hcz23_1,hcz23_2,hfz23_0,hfz23_1,hfz23_2⟩:=bo3_ BK915))
   go_roundg k2
   case measure=>have:=HK1.out;have:=HK2.out;omega
   case rel=>exact⟨(wrap64 (x14_2+1)),eq_,H',⟨by have:=HK1.out;have:=HK2.out;omega⟩,⟨(bf_ BK913).out⟩,(bl_ HB)⟩
  rw[if_neg c5] at H
  have c5b0:=decide_eq_false c5
  clear c5
  have H':=am_ H
  clear H
  go_wp2
  go_roundg k2
  case measure=>have:=HK1.out;have:=HK2.out;omega
  case rel=>exact⟨(wrap64 (x5_1+1)),eq_,H',⟨by have:=HK1.out;have:=HK2.out;omega⟩,(bk_ BK913),(bl_ HB)⟩
 rw[if_neg c4] at H
 have c4b0:=decide_eq_false c4
 clear c4
 obtain rfl:=Option.some.inj H
 go_wp2
 go_ret
 exact⟨ew_,(bl_ HB).out⟩

end Go.Proofs.YtadagjgkanlmdaaGreatDoor.P
