import Derived.Test.YtadagjgkanlmdaaGreatDoorPx0
import Derived.Test.YtadagjgkanlmdaaGreatDoorPx16
namespace Go.Proofs.YtadagjgkanlmdaaGreatDoor.P
open Go.RowKit Go.Proofs.YtadagjgkanlmdaaGreatDoorW.PrintWords Go.Proofs.YtadagjgkanlmdaaGreatDoorW.PrintLast Go.Proofs.YtadagjgkanlmdaaGreatDoorW.PrintMore
attribute [local go_sem] max2_int min2_int max_two min_two max_three min_three max_four min_four
set_option maxHeartbeats 64000000
set_option maxRecDepth 100000
set_option linter.unusedVariables false
set_option linter.unusedSimpArgs false

mutual
def florinlaw07_Meets.l0:Nat→Bool→List (List (S53))→Int→Int→ByteArray→ByteArray→Int→Option (Bool)
 | 0,_,_,_,_,_,_,_=>none
 | k+1,x5,x15,x16,x17,x909000,x909001,x909002=>if x17<x16 then (if 0≤x17 then (if x17<(x15.length:Int) then (florinlaw07_Meets.l1 k x5 true x15 x16 x17 (rd_L7 x15 x17) ((rd_L7 x15 x17).length:Int) 0 x909000 x909001 x909002) else (none)) else (none)) else (some x5)
def florinlaw07_Meets.l1:Nat→Bool→Bool→List (List (S53))→Int→Int→List (S53)→Int→Int→ByteArray→ByteArray→Int→Option (Bool)
 | 0,_,_,_,_,_,_,_,_,_,_,_=>none
 | k+1,x5,x8,x15,x16,x17,x21,x22,x23,x909000,x909001,x909002=>if x23<x22 then (if 0≤x23 then (if x23<(x21.length:Int) then (if x8=true then ((florinlaw07_Holds.f k ((rd_T53 x21 x23).f0) ((rd_T53 x21 x23).f1) ((rd_T53 x21 x23).f2) ((rd_T53 x21 x23).f3) x909000 x909001 x909002).bind fun t912=>(florinlaw07_Meets.l1 k x5 t912 x15 x16 x17 x21 x22 (wrap64 (x23+1)) x909000 x909001 x909002)) else (florinlaw07_Meets.l1 k x5 false x15 x16 x17 x21 x22 (wrap64 (x23+1)) x909000 x909001 x909002)) else (none)) else (none)) else (if x5=true then (florinlaw07_Meets.l0 k true x15 x16 (wrap64 (x17+1)) x909000 x909001 x909002) else (florinlaw07_Meets.l0 k x8 x15 x16 (wrap64 (x17+1)) x909000 x909001 x909002))
end
def florinlaw07_Meets.f (k:Nat) (a0_0:Int) (l0_1:List (List (S53))) (a0_2:ByteArray) (a1_0:ByteArray) (a1_1:ByteArray) (a1_2:Int):Option (Bool):=florinlaw07_Meets.l0 k (a0_0==5) l0_1 (l0_1.length:Int) 0 a1_0 a1_1 a1_2
theorem florinlaw07_Meets.calls (k:Nat) (a0_0:Int) (A0_1:Option Addr) (c0_1:Nat) (l0_1:List (List (S53))) (a0_2:ByteArray) (a1_0:ByteArray) (a1_1:ByteArray) (a1_2:Int) (r:Bool) (w:World) (hr0_1:Kd.C (Kd.slice 53 k53) w A0_1 l0_1.length l0_1) (hc0_1:l0_1.length≤c0_1) (h:florinlaw07_Meets.f k a0_0 l0_1 a0_2 a1_0 a1_1 a1_2=some r) :
  Calls Tryz.prog 21 #[.agg #[.int .i64 a0_0,.slice A0_1 l0_1.length c0_1,.string a0_2],.agg #[.string a1_0,.string a1_1,.int .i64 a1_2]] w fun e w'=>e= .returned (.bool r)∧Below w.heap.size w w':=by
 have hu41:=Tryz.underlying41
 have hu27:=Tryz.underlying27
 have hu53:=Tryz.underlying53
 have HR0_1:=am_ hr0_1
 have HC0_1:=am_ hc0_1
 clear hr0_1 hc0_1
 have HB:=am_ (Below.refl w.heap.size w)
 have H:=h
 clear h
 unfold florinlaw07_Meets.f at H
 have H':=am_ H
 clear H
 go_enter Tryz.func21,Tryz.ntmps21
 go_wp2_with (first|((with_reducible refine gate_dst (N:=2) rfl ?_);refine be_ 2 #[.int .i64 a0_0,.slice A0_1 l0_1.length c0_1,.string a0_2] 41 ?_;intro gb907 hg w3 hbox hb;have BK907:=am_ (hbox);have GW907:=sz_ HB hg;have GE907:=sz_ HB hg;replace HB:=am_ (below_step (bl_ HB).out hb);clear hb hbox hg)|((with_reducible refine gate_dst (N:=3) rfl ?_);refine be_ 3 #[.string a1_0,.string a1_1,.int .i64 a1_2] 27 ?_;intro gb908 hg w4 hbox hb;have BK908:=am_ (hbox);have GW908:=sz_ HB hg;have GE908:=sz_ HB hg;have NB907_908:=na_ BK907 hg;have NB908_907:=nb_ BK907 hg;replace BK907:=bb_ BK907 hb;replace HB:=am_ (below_step (bl_ HB).out hb);clear hb hbox hg;have hnb5:=NB907_908.out;have hnc5:=NB908_907.out;obtain⟨hcz6_0,hcz6_1,hcz6_2,hfz6_0,hfz6_1,hfz6_2⟩:=bo3_ BK907))
 go_loopg [5,17] k (fun kq v5 v17 w'=>∃(x5_1:Bool) (x17_1:Int),v5= .bool x5_1∧v17= .int .i64 x17_1∧Aside0 (florinlaw07_Meets.l0 kq x5_1 l0_1 (l0_1.length:Int) x17_1 a1_0 a1_1 a1_2=some r)∧Aside0 (kq≤k)∧Aside0 (w'.heap[gb907]? = some (.cells #[.int .i64 a0_0,(.slice A0_1 l0_1.length c0_1),.string a0_2] 41 (0,0)))∧Aside0 (w'.heap[gb908]? = some (.cells #[.string a1_0,.string a1_1,.int .i64 a1_2] 27 (0,0)))∧Aside0 (Below w.heap.size w w'))
 case atStart=>exact⟨((a0_0==5)),(0),eq_,eq_,H',⟨Nat.le_refl _⟩,(bk_ BK907),(bk_ BK908),(bl_ HB)⟩
 clear H'
 obtain⟨x5_1,x17_1,rfl,rfl,HA,HK1,BK907,BK908,HB⟩:=hrel
 cases gk with
 | zero=>exact absurd HA.out (by simp[florinlaw07_Meets.l0])
 | succ k1=>?_
 have H:=HA.out
 clear HA
 simp only[florinlaw07_Meets.l0] at H
 by_cases c7:x17_1<(l0_1.length:Int)
 ·rw[if_pos c7] at H
  have c7b0:=decide_eq_true c7
  clear c7
  replace H:=ifn_ H
  obtain⟨c8,H⟩:=H
  have c8b0:decide (0≤x17_1)=true:=decide_eq_true c8
  clear c8
  replace H:=ifn_ H
  obtain⟨c9,H⟩:=H
  have c9b0:decide (x17_1<(l0_1.length:Int))=true:=decide_eq_true c9
  clear c9
  have H':=am_ H
  clear H
  have p909:0≤(x17_1:Int):=od_
  have q909:x17_1<(l0_1.length:Int):=od_
  obtain⟨ad909,A909_0,c909_0,e909,hx909_0,hl909_0,hi909_0⟩:=at_L7 HR0_1.out x17_1 p909 q909
  cases e909
  replace hx909_0:=hbc_ HB hx909_0
  have HR909_0:=am_ hi909_0
  have HC909_0:=am_ hl909_0
  clear hi909_0 hl909_0
  replace p909:=eq_true p909
  replace q909:=eq_true q909
  go_wp2
  go_loopg [8,23] k1 (fun kq v8 v23 w'=>∃(x8_2:Bool) (x23_2:Int),v8= .bool x8_2∧v23= .int .i64 x23_2∧Aside0 (florinlaw07_Meets.l1 kq x5_1 x8_2 l0_1 (l0_1.length:Int) x17_1 (rd_L7 l0_1 x17_1) ((rd_L7 l0_1 x17_1).length:Int) x23_2 a1_0 a1_1 a1_2=some r)∧Aside0 (kq≤k1)∧Aside0 (w'.heap[gb907]? = some (.cells #[.int .i64 a0_0,(.slice (some ad909) l0_1.length c0_1),.string a0_2] 41 (0,0)))∧Aside0 (w'.heap[gb908]? = some (.cells #[.string a1_0,.string a1_1,.int .i64 a1_2] 27 (0,0)))∧Aside0 (Below w.heap.size w w'))
  case atStart=>exact⟨(true),(0),eq_,eq_,H',⟨Nat.le_refl _⟩,(bk_ BK907),(bk_ BK908),(bl_ HB)⟩
  clear H'
  obtain⟨x8_2,x23_2,rfl,rfl,HA,HK2,BK907,BK908,HB⟩:=hrel
  cases gk with
  | zero=>exact absurd HA.out (by simp[florinlaw07_Meets.l1])
  | succ k2=>?_
  have H:=HA.out
  clear HA
  simp only[florinlaw07_Meets.l1] at H
  by_cases c10:x23_2<((rd_L7 l0_1 x17_1).length:Int)
  ·rw[if_pos c10] at H
   have c10b0:=decide_eq_true c10
   clear c10
   replace H:=ifn_ H
   obtain⟨c11,H⟩:=H
   have c11b0:decide (0≤x23_2)=true:=decide_eq_true c11
   clear c11
   replace H:=ifn_ H
   obtain⟨c12,H⟩:=H
   have c12b0:decide (x23_2<((rd_L7 l0_1 x17_1).length:Int))=true:=decide_eq_true c12
   clear c12
   by_cases c13:x8_2=true
   ·subst c13
    rw[if_pos rfl] at H
    replace H:=Option.bind_eq_some_iff.mp H
    obtain⟨t912,A140,H⟩:=H
    have A14:=am_ A140
    clear A140
    have H':=am_ H
    clear H
    have p910:0≤(x23_2:Int):=od_
    have q910:x23_2<((rd_L7 l0_1 x17_1).length:Int):=od_
    obtain⟨ad910,A910_3,c910_3,e910,hx910_0,hx910_1,hx910_2,hx910_3,hl910_3,hi910_3⟩:=at_T53 HR909_0.out x23_2 p910 q910
    cases e910
    replace hx910_0:=hbc_ HB hx910_0
    replace hx910_1:=hbc_ HB hx910_1
    replace hx910_2:=hbc_ HB hx910_2
    replace hx910_3:=hbc_ HB hx910_3
    have HR910_3:=am_ hi910_3
    have HC910_3:=am_ hl910_3
    clear hi910_3 hl910_3
    replace p910:=eq_true p910
    replace q910:=eq_true q910
    go_wp2_with (first|((with_reducible refine gate_dst (N:=10) rfl ?_);refine be_ 10 #[.int .u8 0,.int .i64 0,.bool false,.slice none 0 0] 53 ?_;intro gb911 hg w15 hbox hb;have BK911:=am_ (hbox);have GW911:=sz_ HB hg;have GE911:=sz_ HB hg;have NB907_911:=na_ BK907 hg;have NB911_907:=nb_ BK907 hg;have NB908_911:=na_ BK908 hg;have NB911_908:=nb_ BK908 hg;replace BK907:=bb_ BK907 hb;replace BK908:=bb_ BK908 hb;replace HB:=am_ (below_step (bl_ HB).out hb);clear hb hbox hg;have hnb16:=NB911_907.out;have hnc16:=NB907_911.out;have hnb17:=NB911_908.out;have hnc17:=NB908_911.out;obtain⟨hcz18_0,hcz18_1,hcz18_2,hcz18_3,hfz18_0,hfz18_1,hfz18_2,hfz18_3⟩:=bo4_ BK911;have hnb19:=NB908_907.out;have hnc19:=NB907_908.out;obtain⟨hcz20_0,hcz20_1,hcz20_2,hfz20_0,hfz20_1,hfz20_2⟩:=bo3_ BK908)|(go_at_call 20;(with_reducible refine(florinlaw07_Holds.calls _ _ _ _ _ _ _ _ _ _ _ _ ?side1 ?side2 A14.out).mono ?_);(case side1=>exact Kd.C_below HR910_3.out (bl_ HB).out);(case side2=>exact HC910_3.out);rintro e w21 ⟨rfl,hb⟩;have n0_:=bz_ BK907 hb;have n1_:=bz_ BK908 hb;have n2_:=am_ (blk_below (g:=gb911) (o:= .cells #[.int .u8 ((rd_T53 (rd_L7 l0_1 x17_1) x23_2).f0),.int .i64 ((rd_T53 (rd_L7 l0_1 x17_1) x23_2).f1),.bool ((rd_T53 (rd_L7 l0_1 x17_1) x23_2).f2),.slice A910_3 ((rd_T53 (rd_L7 l0_1 x17_1) x23_2).f3).length c910_3] 53 (0,0)) ((bp_ BK911).out) hb);have n3_:=am_ (below_step (bl_ HB).out hb);clear BK907;clear BK908;clear BK911;clear HB;revert n0_ n1_ n2_ n3_;intro BK907 BK908 BK911 HB;(try clear hb);(try clear hi)))
    go_roundg k2
    case measure=>have:=HK1.out;have:=HK2.out;omega
    case rel=>exact⟨(t912),(wrap64 (x23_2+1)),eq_,eq_,H',⟨by have:=HK1.out;have:=HK2.out;omega⟩,(bk_ BK907),(bk_ BK908),(bl_ HB)⟩
   replace c13:=Bool.eq_false_iff.mpr c13
   subst c13
   rw[if_neg (show ¬(false=true) by decide)] at H
   have H':=am_ H
   clear H
   have p910:0≤(x23_2:Int):=od_
   have q910:x23_2<((rd_L7 l0_1 x17_1).length:Int):=od_
   obtain⟨ad910,A910_3,c910_3,e910,hx910_0,hx910_1,hx910_2,hx910_3,hl910_3,hi910_3⟩:=at_T53 HR909_0.out x23_2 p910 q910
   cases e910
   replace hx910_0:=hbc_ HB hx910_0
   replace hx910_1:=hbc_ HB hx910_1
   replace hx910_2:=hbc_ HB hx910_2
   replace hx910_3:=hbc_ HB hx910_3
   have HR910_3:=am_ hi910_3
   have HC910_3:=am_ hl910_3
   clear hi910_3 hl910_3
   replace p910:=eq_true p910
   replace q910:=eq_true q910
   go_wp2_with (first|((with_reducible refine gate_dst (N:=10) rfl ?_);refine be_ 10 #[.int .u8 0,.int .i64 0,.bool false,.slice none 0 0] 53 ?_;intro gb911 hg w22 hbox hb;have BK911:=am_ (hbox);have GW911:=sz_ HB hg;have GE911:=sz_ HB hg;have NB907_911:=na_ BK907 hg;have NB911_907:=nb_ BK907 hg;have NB908_911:=na_ BK908 hg;have NB911_908:=nb_ BK908 hg;replace BK907:=bb_ BK907 hb;replace BK908:=bb_ BK908 hb;replace HB:=am_ (below_step (bl_ HB).out hb);clear hb hbox hg;have hnb23:=NB911_907.out;have hnc23:=NB907_911.out;have hnb24:=NB911_908.out;have hnc24:=NB908_911.out;obtain⟨hcz25_0,hcz25_1,hcz25_2,hcz25_3,hfz25_0,hfz25_1,hfz25_2,hfz25_3⟩:=bo4_ BK911))
   go_roundg k2
   case measure=>have:=HK1.out;have:=HK2.out;omega
   case rel=>exact⟨(false),(wrap64 (x23_2+1)),eq_,eq_,H',⟨by have:=HK1.out;have:=HK2.out;omega⟩,⟨(bf_ BK907).out⟩,⟨(bf_ BK908).out⟩,(bl_ HB)⟩
  rw[if_neg c10] at H
  have c10b0:=decide_eq_false c10
  clear c10
  by_cases c26:x5_1=true
  ·subst c26
   rw[if_pos rfl] at H
   have H':=am_ H
   clear H
   go_wp2
   go_roundg k2
   case measure=>have:=HK1.out;have:=HK2.out;omega
   case rel=>exact⟨(true),(wrap64 (x17_1+1)),eq_,eq_,H',⟨by have:=HK1.out;have:=HK2.out;omega⟩,(bk_ BK907),(bk_ BK908),(bl_ HB)⟩
  replace c26:=Bool.eq_false_iff.mpr c26
  subst c26
  rw[if_neg (show ¬(false=true) by decide)] at H
  have H':=am_ H
  clear H
  go_wp2
  go_roundg k2
  case measure=>have:=HK1.out;have:=HK2.out;omega
  case rel=>exact⟨(x8_2),(wrap64 (x17_1+1)),eq_,eq_,H',⟨by have:=HK1.out;have:=HK2.out;omega⟩,(bk_ BK907),(bk_ BK908),(bl_ HB)⟩
 rw[if_neg c7] at H
 have c7b0:=decide_eq_false c7
 clear c7
 obtain rfl:=Option.some.inj H
 go_wp2
 go_ret
 exact⟨ew_,(bl_ HB).out⟩

end Go.Proofs.YtadagjgkanlmdaaGreatDoor.P
