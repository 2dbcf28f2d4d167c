import Derived.Test.YtadagjgkanlmdaaGreatDoorPx0
namespace Go.Proofs.YtadagjgkanlmdaaGreatDoor.P
open Go.RowKit Go.Proofs.YtadagjgkanlmdaaGreatDoorW.PrintWords Go.Proofs.YtadagjgkanlmdaaGreatDoorW.PrintLast Go.Proofs.YtadagjgkanlmdaaGreatDoorW.PrintMore
attribute [local go_sem] max2_int min2_int max_two min_two max_three min_three max_four min_four
set_option maxHeartbeats 64000000
set_option maxRecDepth 100000
set_option linter.unusedVariables false
set_option linter.unusedSimpArgs false

mutual
def florinlaw06_Few.l0:Nat→List (S50)→Int→Int→Option (Bool)
 | 0,_,_,_=>none
 | k+1,x12,x13,x14=>if x14<x13 then (if 0≤x14 then (if x14<(x12.length:Int) then (if (((rd_T50 x12 x14).f3).length:Int)>4 then (some false) else (florinlaw06_Few.l1 k x12 x13 x14 ((rd_T50 x12 x14).f3) (((rd_T50 x12 x14).f3).length:Int) 0)) else (none)) else (none)) else (some true)
def florinlaw06_Few.l1:Nat→List (S50)→Int→Int→List (List (S46))→Int→Int→Option (Bool)
 | 0,_,_,_,_,_,_=>none
 | k+1,x12,x13,x14,x23,x24,x25=>if x25<x24 then (if 0≤x25 then (if x25<(x23.length:Int) then (if ((rd_L14 x23 x25).length:Int)>4 then (some false) else (florinlaw06_Few.l2 k x12 x13 x14 x23 x24 x25 (rd_L14 x23 x25) ((rd_L14 x23 x25).length:Int) 0)) else (none)) else (none)) else (florinlaw06_Few.l0 k x12 x13 (wrap64 (x14+1)))
def florinlaw06_Few.l2:Nat→List (S50)→Int→Int→List (List (S46))→Int→Int→List (S46)→Int→Int→Option (Bool)
 | 0,_,_,_,_,_,_,_,_,_=>none
 | k+1,x12,x13,x14,x23,x24,x25,x32,x33,x34=>if x34<x33 then (if 0≤x34 then (if x34<(x32.length:Int) then (if (((rd_T46 x32 x34).f4).length:Int)>5 then (some false) else (florinlaw06_Few.l2 k x12 x13 x14 x23 x24 x25 x32 x33 (wrap64 (x34+1)))) else (none)) else (none)) else (florinlaw06_Few.l1 k x12 x13 x14 x23 x24 (wrap64 (x25+1)))
end
def florinlaw06_Few.f (k:Nat) (l0:List (S50)):Option (Bool):=if (l0.length:Int)>8 then (some false) else (florinlaw06_Few.l0 k l0 (l0.length:Int) 0)
theorem florinlaw06_Few.calls (k:Nat) (A0:Option Addr) (c0:Nat) (l0:List (S50)) (r:Bool) (w:World) (hr0:Kd.C k50 w A0 l0.length l0) (hc0:l0.length≤c0) (h:florinlaw06_Few.f k l0=some r) :
  Calls Tryz.prog 9 #[.slice A0 l0.length c0] w fun e w'=>e= .returned (.bool r)∧Below w.heap.size w w':=by
 have hu50:=Tryz.underlying50
 have hu46:=Tryz.underlying46
 have HR0:=am_ hr0
 have HC0:=am_ hc0
 clear hr0 hc0
 have HB:=am_ (Below.refl w.heap.size w)
 have H:=h
 clear h
 unfold florinlaw06_Few.f at H
 by_cases c2:(l0.length:Int)>8
 ·rw[if_pos c2] at H
  have c2b0:decide (8<(l0.length:Int))=true:=decide_eq_true c2
  have c2b1:decide (8<l0.length)=true:=decide_eq_true (by omega)
  clear c2
  obtain rfl:=Option.some.inj H
  go_enter Tryz.func9,Tryz.ntmps9
  go_wp2
  go_ret
  exact⟨ew_,(bl_ HB).out⟩
 rw[if_neg c2] at H
 have c2b0:decide (8<(l0.length:Int))=false:=decide_eq_false c2
 have c2b1:decide (8<l0.length)=false:=decide_eq_false (by omega)
 clear c2
 have H':=am_ H
 clear H
 go_enter Tryz.func9,Tryz.ntmps9
 go_wp2
 go_loopg [14] k (fun kq v14 w'=>∃(x14_1:Int),v14= .int .i64 x14_1∧Aside0 (florinlaw06_Few.l0 kq l0 (l0.length:Int) x14_1=some r)∧Aside0 (kq≤k)∧Aside0 (Below w.heap.size w w'))
 case atStart=>exact⟨(0),eq_,H',⟨Nat.le_refl _⟩,(bl_ HB)⟩
 clear H'
 obtain⟨x14_1,rfl,HA,HK1,HB⟩:=hrel
 cases gk with
 | zero=>exact absurd HA.out (by simp[florinlaw06_Few.l0])
 | succ k1=>?_
 have H:=HA.out
 clear HA
 simp only[florinlaw06_Few.l0] at H
 by_cases c3:x14_1<(l0.length:Int)
 ·rw[if_pos c3] at H
  have c3b0:=decide_eq_true c3
  clear c3
  replace H:=ifn_ H
  obtain⟨c4,H⟩:=H
  have c4b0:decide (0≤x14_1)=true:=decide_eq_true c4
  clear c4
  replace H:=ifn_ H
  obtain⟨c5,H⟩:=H
  have c5b0:decide (x14_1<(l0.length:Int))=true:=decide_eq_true c5
  clear c5
  by_cases c6:(((rd_T50 l0 x14_1).f3).length:Int)>4
  ·rw[if_pos c6] at H
   have c6b0:decide (4<(((rd_T50 l0 x14_1).f3).length:Int))=true:=decide_eq_true c6
   have c6b1:decide (4<((rd_T50 l0 x14_1).f3).length)=true:=decide_eq_true (by omega)
   clear c6
   obtain rfl:=Option.some.inj H
   have p617:0≤(x14_1:Int):=od_
   have q617:x14_1<(l0.length:Int):=od_
   obtain⟨ad617,A617_3,c617_3,e617,hx617_0,hx617_1,hx617_2,hx617_3,hl617_3,hi617_3⟩:=at_T50 HR0.out x14_1 p617 q617
   cases e617
   replace hx617_0:=hbc_ HB hx617_0
   replace hx617_1:=hbc_ HB hx617_1
   replace hx617_2:=hbc_ HB hx617_2
   replace hx617_3:=hbc_ HB hx617_3
   have HR617_3:=am_ hi617_3
   have HC617_3:=am_ hl617_3
   clear hi617_3 hl617_3
   replace p617:=eq_true p617
   replace q617:=eq_true q617
   go_wp2_with (first|((with_reducible refine gate_dst (N:=4) rfl ?_);refine be_ 4 #[.int .i64 0,.int .i64 0,.int .i64 0,.slice none 0 0] 50 ?_;intro gb618 hg w7 hbox hb;have BK618:=am_ (hbox);have GW618:=sz_ HB hg;have GE618:=sz_ HB hg;replace HB:=am_ (below_step (bl_ HB).out hb);clear hb hbox hg;obtain⟨hcz8_0,hcz8_1,hcz8_2,hcz8_3,hfz8_0,hfz8_1,hfz8_2,hfz8_3⟩:=bo4_ BK618))
   go_ret
   exact⟨ew_,(bl_ HB).out⟩
  rw[if_neg c6] at H
  have c6b0:decide (4<(((rd_T50 l0 x14_1).f3).length:Int))=false:=decide_eq_false c6
  have c6b1:decide (4<((rd_T50 l0 x14_1).f3).length)=false:=decide_eq_false (by omega)
  clear c6
  have H':=am_ H
  clear H
  have p617:0≤(x14_1:Int):=od_
  have q617:x14_1<(l0.length:Int):=od_
  obtain⟨ad617,A617_3,c617_3,e617,hx617_0,hx617_1,hx617_2,hx617_3,hl617_3,hi617_3⟩:=at_T50 HR0.out x14_1 p617 q617
  cases e617
  replace hx617_0:=hbc_ HB hx617_0
  replace hx617_1:=hbc_ HB hx617_1
  replace hx617_2:=hbc_ HB hx617_2
  replace hx617_3:=hbc_ HB hx617_3
  have HR617_3:=am_ hi617_3
  have HC617_3:=am_ hl617_3
  clear hi617_3 hl617_3
  replace p617:=eq_true p617
  replace q617:=eq_true q617
  go_wp2_with (first|((with_reducible refine gate_dst (N:=4) rfl ?_);refine be_ 4 #[.int .i64 0,.int .i64 0,.int .i64 0,.slice none 0 0] 50 ?_;intro gb618 hg w9 hbox hb;have BK618:=am_ (hbox);have GW618:=sz_ HB hg;have GE618:=sz_ HB hg;replace HB:=am_ (below_step (bl_ HB).out hb);clear hb hbox hg;obtain⟨hcz10_0,hcz10_1,hcz10_2,hcz10_3,hfz10_0,hfz10_1,hfz10_2,hfz10_3⟩:=bo4_ BK618))
  go_loopg [25] k1 (fun kq v25 w'=>∃(x25_2:Int),v25= .int .i64 x25_2∧Aside0 (florinlaw06_Few.l1 kq l0 (l0.length:Int) x14_1 ((rd_T50 l0 x14_1).f3) (((rd_T50 l0 x14_1).f3).length:Int) x25_2=some r)∧Aside0 (kq≤k1)∧Aside0 (w'.heap[gb618]? = some (.cells #[.int .i64 ((rd_T50 l0 x14_1).f0),.int .i64 ((rd_T50 l0 x14_1).f1),.int .i64 ((rd_T50 l0 x14_1).f2),(.slice A617_3 ((rd_T50 l0 x14_1).f3).length c617_3)] 50 (0,0)))∧Aside0 (Below w.heap.size w w'))
  case atStart=>exact⟨(0),eq_,H',⟨Nat.le_refl _⟩,⟨(bp_ BK618).out⟩,(bl_ HB)⟩
  clear H'
  obtain⟨x25_2,rfl,HA,HK2,BK618,HB⟩:=hrel
  cases gk with
  | zero=>exact absurd HA.out (by simp[florinlaw06_Few.l1])
  | succ k2=>?_
  have H:=HA.out
  clear HA
  simp only[florinlaw06_Few.l1] at H
  by_cases c11:x25_2<(((rd_T50 l0 x14_1).f3).length:Int)
  ·rw[if_pos c11] at H
   have c11b0:=decide_eq_true c11
   clear c11
   replace H:=ifn_ H
   obtain⟨c12,H⟩:=H
   have c12b0:decide (0≤x25_2)=true:=decide_eq_true c12
   clear c12
   replace H:=ifn_ H
   obtain⟨c13,H⟩:=H
   have c13b0:decide (x25_2<(((rd_T50 l0 x14_1).f3).length:Int))=true:=decide_eq_true c13
   clear c13
   by_cases c14:((rd_L14 ((rd_T50 l0 x14_1).f3) x25_2).length:Int)>4
   ·rw[if_pos c14] at H
    have c14b0:decide (4<((rd_L14 ((rd_T50 l0 x14_1).f3) x25_2).length:Int))=true:=decide_eq_true c14
    have c14b1:decide (4<(rd_L14 ((rd_T50 l0 x14_1).f3) x25_2).length)=true:=decide_eq_true (by omega)
    clear c14
    obtain rfl:=Option.some.inj H
    have p619:0≤(x25_2:Int):=od_
    have q619:x25_2<(((rd_T50 l0 x14_1).f3).length:Int):=od_
    obtain⟨ad619,A619_0,c619_0,e619,hx619_0,hl619_0,hi619_0⟩:=at_L14 HR617_3.out x25_2 p619 q619
    cases e619
    replace hx619_0:=hbc_ HB hx619_0
    have HR619_0:=am_ hi619_0
    have HC619_0:=am_ hl619_0
    clear hi619_0 hl619_0
    replace p619:=eq_true p619
    replace q619:=eq_true q619
    go_wp2
    go_ret
    exact⟨ew_,(bl_ HB).out⟩
   rw[if_neg c14] at H
   have c14b0:decide (4<((rd_L14 ((rd_T50 l0 x14_1).f3) x25_2).length:Int))=false:=decide_eq_false c14
   have c14b1:decide (4<(rd_L14 ((rd_T50 l0 x14_1).f3) x25_2).length)=false:=decide_eq_false (by omega)
   clear c14
   have H':=am_ H
   clear H
   have p619:0≤(x25_2:Int):=od_
   have q619:x25_2<(((rd_T50 l0 x14_1).f3).length:Int):=od_
   obtain⟨ad619,A619_0,c619_0,e619,hx619_0,hl619_0,hi619_0⟩:=at_L14 HR617_3.out x25_2 p619 q619
   cases e619
   replace hx619_0:=hbc_ HB hx619_0
   have HR619_0:=am_ hi619_0
   have HC619_0:=am_ hl619_0
   clear hi619_0 hl619_0
   replace p619:=eq_true p619
   replace q619:=eq_true q619
   go_wp2
   go_loopg [34] k2 (fun kq v34 w'=>∃(x34_3:Int),v34= .int .i64 x34_3∧Aside0 (florinlaw06_Few.l2 kq l0 (l0.length:Int) x14_1 ((rd_T50 l0 x14_1).f3) (((rd_T50 l0 x14_1).f3).length:Int) x25_2 (rd_L14 ((rd_T50 l0 x14_1).f3) x25_2) ((rd_L14 ((rd_T50 l0 x14_1).f3) x25_2).length:Int) x34_3=some r)∧Aside0 (kq≤k2)∧Aside0 (w'.heap[gb618]? = some (.cells #[.int .i64 ((rd_T50 l0 x14_1).f0),.int .i64 ((rd_T50 l0 x14_1).f1),.int .i64 ((rd_T50 l0 x14_1).f2),(.slice (some ad619) ((rd_T50 l0 x14_1).f3).length c617_3)] 50 (0,0)))∧Aside0 (Below w.heap.size w w'))
   case atStart=>exact⟨(0),eq_,H',⟨Nat.le_refl _⟩,(bk_ BK618),(bl_ HB)⟩
   clear H'
   obtain⟨x34_3,rfl,HA,HK3,BK618,HB⟩:=hrel
   cases gk with
   | zero=>exact absurd HA.out (by simp[florinlaw06_Few.l2])
   | succ k3=>?_
   have H:=HA.out
   clear HA
   simp only[florinlaw06_Few.l2] at H
   by_cases c15:x34_3<((rd_L14 ((rd_T50 l0 x14_1).f3) x25_2).length:Int)
   ·rw[if_pos c15] at H
    have c15b0:=decide_eq_true c15
    clear c15
    replace H:=ifn_ H
    obtain⟨c16,H⟩:=H
    have c16b0:decide (0≤x34_3)=true:=decide_eq_true c16
    clear c16
    replace H:=ifn_ H
    obtain⟨c17,H⟩:=H
    have c17b0:decide (x34_3<((rd_L14 ((rd_T50 l0 x14_1).f3) x25_2).length:Int))=true:=decide_eq_true c17
    clear c17
    by_cases c18:(((rd_T46 (rd_L14 ((rd_T50 l0 x14_1).f3) x25_2) x34_3).f4).length:Int)>5
    ·rw[if_pos c18] at H
     have c18b0:decide (5<(((rd_T46 (rd_L14 ((rd_T50 l0 x14_1).f3) x25_2) x34_3).f4).length:Int))=true:=decide_eq_true c18
     have c18b1:decide (5<((rd_T46 (rd_L14 ((rd_T50 l0 x14_1).f3) x25_2) x34_3).f4).length)=true:=decide_eq_true (by omega)
     clear c18
     obtain rfl:=Option.some.inj H
     have p620:0≤(x34_3:Int):=od_
     have q620:x34_3<((rd_L14 ((rd_T50 l0 x14_1).f3) x25_2).length:Int):=od_
     obtain⟨ad620,A620_4,c620_4,e620,hx620_0,hx620_1,hx620_2,hx620_3,hx620_4,hl620_4,hi620_4⟩:=at_T46 HR619_0.out x34_3 p620 q620
     cases e620
     replace hx620_0:=hbc_ HB hx620_0
     replace hx620_1:=hbc_ HB hx620_1
     replace hx620_2:=hbc_ HB hx620_2
     replace hx620_3:=hbc_ HB hx620_3
     replace hx620_4:=hbc_ HB hx620_4
     have HR620_4:=am_ hi620_4
     have HC620_4:=am_ hl620_4
     clear hi620_4 hl620_4
     replace p620:=eq_true p620
     replace q620:=eq_true q620
     go_wp2_with (first|((with_reducible refine gate_dst (N:=8) rfl ?_);refine be_ 8 #[.int .i64 0,.int .i64 0,.int .i64 0,.bool false,.slice none 0 0] 46 ?_;intro gb621 hg w19 hbox hb;have BK621:=am_ (hbox);have GW621:=sz_ HB hg;have GE621:=sz_ HB hg;have NB618_621:=na_ BK618 hg;have NB621_618:=nb_ BK618 hg;replace BK618:=bb_ BK618 hb;replace HB:=am_ (below_step (bl_ HB).out hb);clear hb hbox hg;have hnb20:=NB621_618.out;have hnc20:=NB618_621.out;obtain⟨hcz21_0,hcz21_1,hcz21_2,hcz21_3,hcz21_4,hfz21_0,hfz21_1,hfz21_2,hfz21_3,hfz21_4⟩:=bo5_ BK621))
     go_ret
     exact⟨ew_,(bl_ HB).out⟩
    rw[if_neg c18] at H
    have c18b0:decide (5<(((rd_T46 (rd_L14 ((rd_T50 l0 x14_1).f3) x25_2) x34_3).f4).length:Int))=false:=decide_eq_false c18
    have c18b1:decide (5<((rd_T46 (rd_L14 ((rd_T50 l0 x14_1).f3) x25_2) x34_3).f4).length)=false:=decide_eq_false (by omega)
    clear c18
    have H':=am_ H
    clear H
    have p620:0≤(x34_3:Int):=od_
    have q620:x34_3<((rd_L14 ((rd_T50 l0 x14_1).f3) x25_2).length:Int):=od_
    obtain⟨ad620,A620_4,c620_4,e620,hx620_0,hx620_1,hx620_2,hx620_3,hx620_4,hl620_4,hi620_4⟩:=at_T46 HR619_0.out x34_3 p620 q620
    cases e620
    replace hx620_0:=hbc_ HB hx620_0
    replace hx620_1:=hbc_ HB hx620_1
    replace hx620_2:=hbc_ HB hx620_2
    replace hx620_3:=hbc_ HB hx620_3
    replace hx620_4:=hbc_ HB hx620_4
    have HR620_4:=am_ hi620_4
    have HC620_4:=am_ hl620_4
    clear hi620_4 hl620_4
    replace p620:=eq_true p620
    replace q620:=eq_true q620
    go_wp2_with (first|((with_reducible refine gate_dst (N:=8) rfl ?_);refine be_ 8 #[.int .i64 0,.int .i64 0,.int .i64 0,.bool false,.slice none 0 0] 46 ?_;intro gb621 hg w22 hbox hb;have BK621:=am_ (hbox);have GW621:=sz_ HB hg;have GE621:=sz_ HB hg;have NB618_621:=na_ BK618 hg;have NB621_618:=nb_ BK618 hg;replace BK618:=bb_ BK618 hb;replace HB:=am_ (below_step (bl_ HB).out hb);clear hb hbox hg;have hnb23:=NB621_618.out;have hnc23:=NB618_621.out;obtain⟨hcz24_0,hcz24_1,hcz24_2,hcz24_3,hcz24_4,hfz24_0,hfz24_1,hfz24_2,hfz24_3,hfz24_4⟩:=bo5_ BK621))
    go_roundg k3
    case measure=>have:=HK1.out;have:=HK2.out;have:=HK3.out;omega
    case rel=>exact⟨(wrap64 (x34_3+1)),eq_,H',⟨by have:=HK1.out;have:=HK2.out;have:=HK3.out;omega⟩,⟨(bf_ BK618).out⟩,(bl_ HB)⟩
   rw[if_neg c15] at H
   have c15b0:=decide_eq_false c15
   clear c15
   have H':=am_ H
   clear H
   go_wp2
   go_roundg k3
   case measure=>have:=HK1.out;have:=HK2.out;have:=HK3.out;omega
   case rel=>exact⟨(wrap64 (x25_2+1)),eq_,H',⟨by have:=HK1.out;have:=HK2.out;have:=HK3.out;omega⟩,(bk_ BK618),(bl_ HB)⟩
  rw[if_neg c11] at H
  have c11b0:=decide_eq_false c11
  clear c11
  have H':=am_ H
  clear H
  go_wp2
  go_roundg k2
  case measure=>have:=HK1.out;have:=HK2.out;omega
  case rel=>exact⟨(wrap64 (x14_1+1)),eq_,H',⟨by have:=HK1.out;have:=HK2.out;omega⟩,(bl_ HB)⟩
 rw[if_neg c3] at H
 have c3b0:=decide_eq_false c3
 clear c3
 obtain rfl:=Option.some.inj H
 go_wp2
 go_ret
 exact⟨ew_,(bl_ HB).out⟩

end Go.Proofs.YtadagjgkanlmdaaGreatDoor.P
