-- written by a program of this session (wip/p2)
import Derived.Test.YtbhhfpjiacfofaaDoorPx0
import Derived.Test.YtbhhfpjiacfofaaDoorPx1
namespace Go.Proofs.YtbhhfpjiacfofaaDoor.P
open Go.RowKit Go.Proofs.YtbhhfpjiacfofaaDoorW.PrintWords Go.Proofs.YtbhhfpjiacfofaaDoorW.PrintLast Go.Proofs.YtbhhfpjiacfofaaDoorW.PrintMore
attribute [local go_sem] max2_int min2_int max_two min_two max_three min_three max_four min_four   -- for this text's walks alone
set_option linter.unusedVariables false
set_option linter.unusedSimpArgs false

attribute [local go_sem high] eqA37
/-! ### florinlaw08_Same: function 10 -/
mutual
def florinlaw08_Same.l0:Nat→List (S35)→List (S35)→Int→Int→Option (Bool)
 | 0,_,_,_,_=>none
 | k+1,x0,x1,x13,x14=>if x14<x13 then (if 0≤x14 then (if x14<(x0.length:Int) then (if x14<(x1.length:Int) then (if (((rd_T35 x0 x14).f0) !=((rd_T35 x1 x14).f0))=true then (florinlaw08_Same.j1 k x0 x1 x14 x13 x14 true) else (if (((rd_T35 x0 x14).f2) !=((rd_T35 x1 x14).f2))=true then (florinlaw08_Same.j1 k x0 x1 x14 x13 x14 true) else (florinlaw08_Same.j1 k x0 x1 x14 x13 x14 ((((rd_T35 x0 x14).f1).length:Int) !=(((rd_T35 x1 x14).f1).length:Int))))) else (none)) else (none)) else (none)) else (some true)
def florinlaw08_Same.j1:Nat→List (S35)→List (S35)→Int→Int→Int→Bool→Option (Bool)
 | 0,_,_,_,_,_,_=>none
 | k+1,x0,x1,x5,x13,x14,x55=>if x55=true then (some false) else (if 0≤x5 then (if x5<(x0.length:Int) then (florinlaw08_Same.l1 k x0 x1 x5 x13 x14 (((rd_T35 x0 x5).f1).length:Int) 0) else (none)) else (none))
def florinlaw08_Same.l1:Nat→List (S35)→List (S35)→Int→Int→Int→Int→Int→Option (Bool)
 | 0,_,_,_,_,_,_,_=>none
 | k+1,x0,x1,x5,x13,x14,x61,x62=>if x62<x61 then (if 0≤x5 then (if x5<(x0.length:Int) then (if 0≤x62 then (if x62<(((rd_T35 x0 x5).f1).length:Int) then (if x5<(x1.length:Int) then (if x62<(((rd_T35 x1 x5).f1).length:Int) then (if (!((((rd_T37 ((rd_T35 x0 x5).f1) x62).f0).toList)==(((rd_T37 ((rd_T35 x1 x5).f1) x62).f0).toList))||(!((((rd_T37 ((rd_T35 x0 x5).f1) x62).f1).toList)==(((rd_T37 ((rd_T35 x1 x5).f1) x62).f1).toList))))=true then (some false) else (florinlaw08_Same.l1 k x0 x1 x5 x13 x14 x61 (wrap64 (x62+1)))) else (none)) else (none)) else (none)) else (none)) else (none)) else (none)) else (florinlaw08_Same.l0 k x0 x1 x13 (wrap64 (x14+1)))
end
def florinlaw08_Same.f (k:Nat) (l0:List (S35)) (l1:List (S35)):Option (Bool):=if (l0.length:Int)=(l1.length:Int) then (florinlaw08_Same.l0 k l0 l1 (l0.length:Int) 0) else (some false)
set_option maxHeartbeats 64000000 in
set_option maxRecDepth 100000 in
theorem florinlaw08_Same.calls (k:Nat) (A0:Option Addr) (c0:Nat) (l0:List (S35)) (A1:Option Addr) (c1:Nat) (l1:List (S35)) (r:Bool) (w:World) (hr0:Kd.C k35 w A0 l0.length l0) (hc0:l0.length≤c0) (hr1:Kd.C k35 w A1 l1.length l1) (hc1:l1.length≤c1) (h:florinlaw08_Same.f k l0 l1=some r) :
  Calls Tryd.prog 10 #[.slice A0 l0.length c0,.slice A1 l1.length c1] w fun e w'=>e= .returned (.bool r)∧Drawn0 w w':=by
 have hu37:=Tryd.underlying37
 have HR0:=Aside0.mk hr0
 have HC0:=Aside0.mk hc0
 clear hr0 hc0
 have HR1:=Aside0.mk hr1
 have HC1:=Aside0.mk hc1
 clear hr1 hc1
 have H:=h
 clear h
 unfold florinlaw08_Same.f at H
 by_cases c3:(l0.length:Int)=(l1.length:Int)
 ·rw[if_pos c3] at H
  have c3b0:((l0.length:Int)==(l1.length:Int))=true:=beq_iff_eq.mpr c3
  have c3b1:((l0.length:Int) !=(l1.length:Int))=false:=bne_eq_false_iff_eq.mpr c3
  have c3b2:(l0.length==l1.length)=true:=by first|simpa using c3|(simp at c3 ⊢;omega)
  clear c3
  have H':=Aside0.mk H
  clear H
  go_enter Tryd.func10,Tryd.ntmps10
  go_wp2
  repeat(go_quiet (fail);try go_wp2)
  go_loopg [14] k (fun kq v14 w'=>∃(x14_1:Int),v14= .int .i64 x14_1∧Aside0 (florinlaw08_Same.l0 kq l0 l1 (l0.length:Int) x14_1=some r)∧Aside0 (kq≤k)∧Drawn0 w w')
  case atStart=>exact⟨(0),eq_,H',⟨Nat.le_refl _⟩,by repeat(first|exact Drawn0.refl _|apply Drawn0.step)⟩
  clear H'
  obtain⟨x14_1,rfl,HA,HK1,⟨m1,rfl⟩⟩:=hrel
  cases gk with
  | zero=>exact absurd HA.out (by simp[florinlaw08_Same.l0])
  | succ k1=>?_
  have H:=HA.out
  clear HA
  simp only[florinlaw08_Same.l0] at H
  by_cases c4:x14_1<(l0.length:Int)
  ·rw[if_pos c4] at H
   have c4b0:=decide_eq_true c4
   clear c4
   have HC5:=Aside0.mk H
   clear H
   go_upto_region 6 with (fail)
   repeat(go_quiet (fail);go_upto_region 6 with (fail))
   go_cut [55] (fun v55 wc=>∃(kq:Nat) (x55_4:Bool),v55= .bool x55_4∧Aside0 (florinlaw08_Same.j1 kq l0 l1 x14_1 (l0.length:Int) x14_1 x55_4=some r)∧Aside0 (kq≤k1)∧Drawn0 w wc)
   case first =>
    have H:=HC5.out
    clear HC5
    replace H:=ifn_ H
    obtain⟨c6,H⟩:=H
    have c6b0:decide (0≤x14_1)=true:=decide_eq_true c6
    clear c6
    (first|rw[c6b0]|(simp only[i64_w,i32_w];rw[c6b0])|skip)
    replace H:=ifn_ H
    obtain⟨c7,H⟩:=H
    have c7b0:decide (x14_1<(l0.length:Int))=true:=decide_eq_true c7
    clear c7
    replace H:=ifn_ H
    obtain⟨c8,H⟩:=H
    have c8b0:decide (x14_1<(l1.length:Int))=true:=decide_eq_true c8
    clear c8
    by_cases c9:(((rd_T35 l0 x14_1).f0) !=((rd_T35 l1 x14_1).f0))=true
    ·rw[if_pos c9] at H
     have c9b0:(((rd_T35 l0 x14_1).f0) !=((rd_T35 l1 x14_1).f0))=true:=c9
     (try (have c9b1:decide (((rd_T35 l0 x14_1).f0)=((rd_T35 l1 x14_1).f0))=false:=by simpa using c9))
     (try (have c9b2:(((rd_T35 l0 x14_1).f0)==((rd_T35 l1 x14_1).f0))=false:=by simpa using c9))
     (try (have c9b3:¬(((rd_T35 l0 x14_1).f0)=((rd_T35 l1 x14_1).f0)):=by simpa using c9))
     clear c9
     have H':=Aside0.mk H
     clear H
     have p425:0≤(x14_1:Int):=od_
     have q425:x14_1<(l0.length:Int):=od_
     obtain⟨ad425,A425_1,c425_1,e425,hx425_0,hx425_1,hx425_2,hl425_1,hi425_1⟩:=at_T35 HR0.out x14_1 p425 q425
     cases e425
     have HR425_1:=Aside0.mk hi425_1
     have HC425_1:=Aside0.mk hl425_1
     clear hi425_1 hl425_1
     replace p425:=eq_true p425
     replace q425:=eq_true q425
     have p426:0≤(x14_1:Int):=od_
     have q426:x14_1<(l1.length:Int):=od_
     obtain⟨ad426,A426_1,c426_1,e426,hx426_0,hx426_1,hx426_2,hl426_1,hi426_1⟩:=at_T35 HR1.out x14_1 p426 q426
     cases e426
     have HR426_1:=Aside0.mk hi426_1
     have HC426_1:=Aside0.mk hl426_1
     clear hi426_1 hl426_1
     replace p426:=eq_true p426
     replace q426:=eq_true q426
     go_wp2
     repeat(go_quiet (fail);try go_wp2)
     go_meet
     case rel=>exact⟨_,(true),eq_,H',⟨by have:=HK1.out;first|omega|exact Nat.le_refl _⟩,by repeat(first|exact Drawn0.refl _|apply Drawn0.step)⟩
    rw[if_neg c9] at H
    have c9b0:(((rd_T35 l0 x14_1).f0) !=((rd_T35 l1 x14_1).f0))=false:=by simpa using c9
    (try (have c9b1:decide (((rd_T35 l0 x14_1).f0)=((rd_T35 l1 x14_1).f0))=true:=by simpa using c9))
    (try (have c9b2:(((rd_T35 l0 x14_1).f0)==((rd_T35 l1 x14_1).f0))=true:=by simpa using c9))
    (try (have c9b3:(((rd_T35 l0 x14_1).f0)=((rd_T35 l1 x14_1).f0))=True:=eq_true (by simpa using c9)))
    clear c9
    by_cases c10:(((rd_T35 l0 x14_1).f2) !=((rd_T35 l1 x14_1).f2))=true
    ·rw[if_pos c10] at H
     have c10b0:(((rd_T35 l0 x14_1).f2) !=((rd_T35 l1 x14_1).f2))=true:=c10
     (try (have c10b1:decide (((rd_T35 l0 x14_1).f2)=((rd_T35 l1 x14_1).f2))=false:=by simpa using c10))
     (try (have c10b2:(((rd_T35 l0 x14_1).f2)==((rd_T35 l1 x14_1).f2))=false:=by simpa using c10))
     (try (have c10b3:¬(((rd_T35 l0 x14_1).f2)=((rd_T35 l1 x14_1).f2)):=by simpa using c10))
     clear c10
     have H':=Aside0.mk H
     clear H
     have p425:0≤(x14_1:Int):=od_
     have q425:x14_1<(l0.length:Int):=od_
     obtain⟨ad425,A425_1,c425_1,e425,hx425_0,hx425_1,hx425_2,hl425_1,hi425_1⟩:=at_T35 HR0.out x14_1 p425 q425
     cases e425
     have HR425_1:=Aside0.mk hi425_1
     have HC425_1:=Aside0.mk hl425_1
     clear hi425_1 hl425_1
     replace p425:=eq_true p425
     replace q425:=eq_true q425
     have p426:0≤(x14_1:Int):=od_
     have q426:x14_1<(l1.length:Int):=od_
     obtain⟨ad426,A426_1,c426_1,e426,hx426_0,hx426_1,hx426_2,hl426_1,hi426_1⟩:=at_T35 HR1.out x14_1 p426 q426
     cases e426
     have HR426_1:=Aside0.mk hi426_1
     have HC426_1:=Aside0.mk hl426_1
     clear hi426_1 hl426_1
     replace p426:=eq_true p426
     replace q426:=eq_true q426
     have p427:0≤(x14_1:Int):=od_
     have q427:x14_1<(l0.length:Int):=od_
     obtain⟨ad427,A427_1,c427_1,e427,hx427_0,hx427_1,hx427_2,hl427_1,hi427_1⟩:=at_T35 HR0.out x14_1 p427 q427
     obtain rfl:ad425=ad427:=(by injection e427)
     have HR427_1:=Aside0.mk hi427_1
     have HC427_1:=Aside0.mk hl427_1
     clear hi427_1 hl427_1
     replace p427:=eq_true p427
     replace q427:=eq_true q427
     have ea_:=Option.some.inj (hx425_1.symm.trans hx427_1)
     injection ea_ with ea_ en_ ec_
     subst ea_
     subst ec_
     clear en_
     have p428:0≤(x14_1:Int):=od_
     have q428:x14_1<(l1.length:Int):=od_
     obtain⟨ad428,A428_1,c428_1,e428,hx428_0,hx428_1,hx428_2,hl428_1,hi428_1⟩:=at_T35 HR1.out x14_1 p428 q428
     obtain rfl:ad426=ad428:=(by injection e428)
     have HR428_1:=Aside0.mk hi428_1
     have HC428_1:=Aside0.mk hl428_1
     clear hi428_1 hl428_1
     replace p428:=eq_true p428
     replace q428:=eq_true q428
     have ea_:=Option.some.inj (hx426_1.symm.trans hx428_1)
     injection ea_ with ea_ en_ ec_
     subst ea_
     subst ec_
     clear en_
     go_wp2
     repeat(go_quiet (fail);try go_wp2)
     go_meet
     case rel=>exact⟨_,(true),eq_,H',⟨by have:=HK1.out;first|omega|exact Nat.le_refl _⟩,by repeat(first|exact Drawn0.refl _|apply Drawn0.step)⟩
    rw[if_neg c10] at H
    have c10b0:(((rd_T35 l0 x14_1).f2) !=((rd_T35 l1 x14_1).f2))=false:=by simpa using c10
    (try (have c10b1:decide (((rd_T35 l0 x14_1).f2)=((rd_T35 l1 x14_1).f2))=true:=by simpa using c10))
    (try (have c10b2:(((rd_T35 l0 x14_1).f2)==((rd_T35 l1 x14_1).f2))=true:=by simpa using c10))
    (try (have c10b3:(((rd_T35 l0 x14_1).f2)=((rd_T35 l1 x14_1).f2))=True:=eq_true (by simpa using c10)))
    clear c10
    have H':=Aside0.mk H
    clear H
    have p425:0≤(x14_1:Int):=od_
    have q425:x14_1<(l0.length:Int):=od_
    obtain⟨ad425,A425_1,c425_1,e425,hx425_0,hx425_1,hx425_2,hl425_1,hi425_1⟩:=at_T35 HR0.out x14_1 p425 q425
    cases e425
    have HR425_1:=Aside0.mk hi425_1
    have HC425_1:=Aside0.mk hl425_1
    clear hi425_1 hl425_1
    replace p425:=eq_true p425
    replace q425:=eq_true q425
    have p426:0≤(x14_1:Int):=od_
    have q426:x14_1<(l1.length:Int):=od_
    obtain⟨ad426,A426_1,c426_1,e426,hx426_0,hx426_1,hx426_2,hl426_1,hi426_1⟩:=at_T35 HR1.out x14_1 p426 q426
    cases e426
    have HR426_1:=Aside0.mk hi426_1
    have HC426_1:=Aside0.mk hl426_1
    clear hi426_1 hl426_1
    replace p426:=eq_true p426
    replace q426:=eq_true q426
    have p427:0≤(x14_1:Int):=od_
    have q427:x14_1<(l0.length:Int):=od_
    obtain⟨ad427,A427_1,c427_1,e427,hx427_0,hx427_1,hx427_2,hl427_1,hi427_1⟩:=at_T35 HR0.out x14_1 p427 q427
    obtain rfl:ad425=ad427:=(by injection e427)
    have HR427_1:=Aside0.mk hi427_1
    have HC427_1:=Aside0.mk hl427_1
    clear hi427_1 hl427_1
    replace p427:=eq_true p427
    replace q427:=eq_true q427
    have ea_:=Option.some.inj (hx425_1.symm.trans hx427_1)
    injection ea_ with ea_ en_ ec_
    subst ea_
    subst ec_
    clear en_
    have p428:0≤(x14_1:Int):=od_
    have q428:x14_1<(l1.length:Int):=od_
    obtain⟨ad428,A428_1,c428_1,e428,hx428_0,hx428_1,hx428_2,hl428_1,hi428_1⟩:=at_T35 HR1.out x14_1 p428 q428
    obtain rfl:ad426=ad428:=(by injection e428)
    have HR428_1:=Aside0.mk hi428_1
    have HC428_1:=Aside0.mk hl428_1
    clear hi428_1 hl428_1
    replace p428:=eq_true p428
    replace q428:=eq_true q428
    have ea_:=Option.some.inj (hx426_1.symm.trans hx428_1)
    injection ea_ with ea_ en_ ec_
    subst ea_
    subst ec_
    clear en_
    have p429:0≤(x14_1:Int):=od_
    have q429:x14_1<(l0.length:Int):=od_
    obtain⟨ad429,A429_1,c429_1,e429,hx429_0,hx429_1,hx429_2,hl429_1,hi429_1⟩:=at_T35 HR0.out x14_1 p429 q429
    obtain rfl:ad425=ad429:=(by injection e429)
    have HR429_1:=Aside0.mk hi429_1
    have HC429_1:=Aside0.mk hl429_1
    clear hi429_1 hl429_1
    replace p429:=eq_true p429
    replace q429:=eq_true q429
    have ea_:=Option.some.inj (hx425_1.symm.trans hx429_1)
    injection ea_ with ea_ en_ ec_
    subst ea_
    subst ec_
    clear en_
    have p430:0≤(x14_1:Int):=od_
    have q430:x14_1<(l1.length:Int):=od_
    obtain⟨ad430,A430_1,c430_1,e430,hx430_0,hx430_1,hx430_2,hl430_1,hi430_1⟩:=at_T35 HR1.out x14_1 p430 q430
    obtain rfl:ad426=ad430:=(by injection e430)
    have HR430_1:=Aside0.mk hi430_1
    have HC430_1:=Aside0.mk hl430_1
    clear hi430_1 hl430_1
    replace p430:=eq_true p430
    replace q430:=eq_true q430
    have ea_:=Option.some.inj (hx426_1.symm.trans hx430_1)
    injection ea_ with ea_ en_ ec_
    subst ea_
    subst ec_
    clear en_
    go_wp2
    repeat(go_quiet (fail);try go_wp2)
    go_meet
    case rel=>exact⟨_,(((((rd_T35 l0 x14_1).f1).length:Int) !=(((rd_T35 l1 x14_1).f1).length:Int))),eq_,H',⟨by have:=HK1.out;first|omega|exact Nat.le_refl _⟩,by repeat(first|exact Drawn0.refl _|apply Drawn0.step)⟩
   clear HC5
   obtain⟨kq,x55_4,rfl,HA,HJ4,⟨mc4,rfl⟩⟩:=hcut
   cases kq with
   | zero=>exact absurd HA.out (by simp[florinlaw08_Same.j1])
   | succ kj4=>?_
   have H:=HA.out
   clear HA
   simp only[florinlaw08_Same.j1] at H
   by_cases c11:x55_4=true
   ·subst c11
    rw[if_pos rfl] at H
    obtain rfl:=Option.some.inj H
    go_wp2
    repeat(go_quiet (fail);try go_wp2)
    go_ret
    exact⟨by first|rfl|(simp;done)|(simp[*];done)|(simp;first|exact given_isEmpty _|exact(given_isEmpty _).symm)|(unfold wrap64;omega)|(congr 1;unfold wrap64;omega),by repeat(first|exact Drawn0.refl _|apply Drawn0.step)⟩
   replace c11:=Bool.eq_false_iff.mpr c11
   subst c11
   rw[if_neg (show ¬(false=true) by decide)] at H
   replace H:=ifn_ H
   obtain⟨c12,H⟩:=H
   have c12b0:decide (0≤x14_1)=true:=decide_eq_true c12
   clear c12
   replace H:=ifn_ H
   obtain⟨c13,H⟩:=H
   have c13b0:decide (x14_1<(l0.length:Int))=true:=decide_eq_true c13
   clear c13
   have H':=Aside0.mk H
   clear H
   have p431:0≤(x14_1:Int):=od_
   have q431:x14_1<(l0.length:Int):=od_
   obtain⟨ad431,A431_1,c431_1,e431,hx431_0,hx431_1,hx431_2,hl431_1,hi431_1⟩:=at_T35 HR0.out x14_1 p431 q431
   cases e431
   have HR431_1:=Aside0.mk hi431_1
   have HC431_1:=Aside0.mk hl431_1
   clear hi431_1 hl431_1
   replace p431:=eq_true p431
   replace q431:=eq_true q431
   go_wp2
   repeat(go_quiet (fail);try go_wp2)
   go_loopg [62] kj4 (fun kq v62 w'=>∃(x62_3:Int),v62= .int .i64 x62_3∧Aside0 (florinlaw08_Same.l1 kq l0 l1 x14_1 (l0.length:Int) x14_1 (((rd_T35 l0 x14_1).f1).length:Int) x62_3=some r)∧Aside0 (kq≤kj4)∧Drawn0 w w')
   case atStart=>exact⟨(0),eq_,H',⟨Nat.le_refl _⟩,by repeat(first|exact Drawn0.refl _|apply Drawn0.step)⟩
   clear H'
   obtain⟨x62_3,rfl,HA,HK3,⟨m3,rfl⟩⟩:=hrel
   cases gk with
   | zero=>exact absurd HA.out (by simp[florinlaw08_Same.l1])
   | succ k3=>?_
   have H:=HA.out
   clear HA
   simp only[florinlaw08_Same.l1] at H
   by_cases c14:x62_3<(((rd_T35 l0 x14_1).f1).length:Int)
   ·rw[if_pos c14] at H
    have c14b0:=decide_eq_true c14
    clear c14
    replace H:=ifn_ H
    obtain⟨c15,H⟩:=H
    have c15b0:decide (0≤x14_1)=true:=decide_eq_true c15
    clear c15
    replace H:=ifn_ H
    obtain⟨c16,H⟩:=H
    have c16b0:decide (x14_1<(l0.length:Int))=true:=decide_eq_true c16
    clear c16
    replace H:=ifn_ H
    obtain⟨c17,H⟩:=H
    have c17b0:decide (0≤x62_3)=true:=decide_eq_true c17
    clear c17
    replace H:=ifn_ H
    obtain⟨c18,H⟩:=H
    have c18b0:decide (x62_3<(((rd_T35 l0 x14_1).f1).length:Int))=true:=decide_eq_true c18
    clear c18
    replace H:=ifn_ H
    obtain⟨c19,H⟩:=H
    have c19b0:decide (x14_1<(l1.length:Int))=true:=decide_eq_true c19
    clear c19
    replace H:=ifn_ H
    obtain⟨c20,H⟩:=H
    have c20b0:decide (x62_3<(((rd_T35 l1 x14_1).f1).length:Int))=true:=decide_eq_true c20
    clear c20
    by_cases c21:(!((((rd_T37 ((rd_T35 l0 x14_1).f1) x62_3).f0).toList)==(((rd_T37 ((rd_T35 l1 x14_1).f1) x62_3).f0).toList))||(!((((rd_T37 ((rd_T35 l0 x14_1).f1) x62_3).f1).toList)==(((rd_T37 ((rd_T35 l1 x14_1).f1) x62_3).f1).toList))))=true
    ·rw[if_pos c21] at H
     have c21b0:(!((((rd_T37 ((rd_T35 l0 x14_1).f1) x62_3).f0).toList)==(((rd_T37 ((rd_T35 l1 x14_1).f1) x62_3).f0).toList))||(!((((rd_T37 ((rd_T35 l0 x14_1).f1) x62_3).f1).toList)==(((rd_T37 ((rd_T35 l1 x14_1).f1) x62_3).f1).toList))))=true:=c21
     clear c21
     obtain rfl:=Option.some.inj H
     have p432:0≤(x14_1:Int):=od_
     have q432:x14_1<(l0.length:Int):=od_
     obtain⟨ad432,A432_1,c432_1,e432,hx432_0,hx432_1,hx432_2,hl432_1,hi432_1⟩:=at_T35 HR0.out x14_1 p432 q432
     obtain rfl:ad431=ad432:=(by injection e432)
     (try (obtain⟨rfl,rfl⟩:A431_1=A432_1∧c431_1=c432_1:=by have h_:=hx431_1.symm.trans hx432_1;injection h_ with h_;injection h_ with e1_ _ e2_;exact⟨e1_,e2_⟩))
     have HR432_1:=Aside0.mk hi432_1
     have HC432_1:=Aside0.mk hl432_1
     clear hi432_1 hl432_1
     replace p432:=eq_true p432
     replace q432:=eq_true q432
     have p433:0≤(x62_3:Int):=od_
     have q433:x62_3<(((rd_T35 l0 x14_1).f1).length:Int):=od_
     obtain⟨ad433,e433,hx433_0,hx433_1⟩:=at_T37 HR432_1.out x62_3 p433 q433
     cases e433
     replace p433:=eq_true p433
     replace q433:=eq_true q433
     have p434:0≤(x14_1:Int):=od_
     have q434:x14_1<(l1.length:Int):=od_
     obtain⟨ad434,A434_1,c434_1,e434,hx434_0,hx434_1,hx434_2,hl434_1,hi434_1⟩:=at_T35 HR1.out x14_1 p434 q434
     cases e434
     have HR434_1:=Aside0.mk hi434_1
     have HC434_1:=Aside0.mk hl434_1
     clear hi434_1 hl434_1
     replace p434:=eq_true p434
     replace q434:=eq_true q434
     have p435:0≤(x62_3:Int):=od_
     have q435:x62_3<(((rd_T35 l1 x14_1).f1).length:Int):=od_
     obtain⟨ad435,e435,hx435_0,hx435_1⟩:=at_T37 HR434_1.out x62_3 p435 q435
     cases e435
     replace p435:=eq_true p435
     replace q435:=eq_true q435
     go_wp2
     repeat(go_quiet (fail);try go_wp2)
     go_ret
     exact⟨by first|rfl|(simp;done)|(simp[*];done)|(simp;first|exact given_isEmpty _|exact(given_isEmpty _).symm)|(unfold wrap64;omega)|(congr 1;unfold wrap64;omega),by repeat(first|exact Drawn0.refl _|apply Drawn0.step)⟩
    rw[if_neg c21] at H
    have c21b0:(!((((rd_T37 ((rd_T35 l0 x14_1).f1) x62_3).f0).toList)==(((rd_T37 ((rd_T35 l1 x14_1).f1) x62_3).f0).toList))||(!((((rd_T37 ((rd_T35 l0 x14_1).f1) x62_3).f1).toList)==(((rd_T37 ((rd_T35 l1 x14_1).f1) x62_3).f1).toList))))=false:=by simpa using c21
    clear c21
    have H':=Aside0.mk H
    clear H
    have p432:0≤(x14_1:Int):=od_
    have q432:x14_1<(l0.length:Int):=od_
    obtain⟨ad432,A432_1,c432_1,e432,hx432_0,hx432_1,hx432_2,hl432_1,hi432_1⟩:=at_T35 HR0.out x14_1 p432 q432
    obtain rfl:ad431=ad432:=(by injection e432)
    (try (obtain⟨rfl,rfl⟩:A431_1=A432_1∧c431_1=c432_1:=by have h_:=hx431_1.symm.trans hx432_1;injection h_ with h_;injection h_ with e1_ _ e2_;exact⟨e1_,e2_⟩))
    have HR432_1:=Aside0.mk hi432_1
    have HC432_1:=Aside0.mk hl432_1
    clear hi432_1 hl432_1
    replace p432:=eq_true p432
    replace q432:=eq_true q432
    have p433:0≤(x62_3:Int):=od_
    have q433:x62_3<(((rd_T35 l0 x14_1).f1).length:Int):=od_
    obtain⟨ad433,e433,hx433_0,hx433_1⟩:=at_T37 HR432_1.out x62_3 p433 q433
    cases e433
    replace p433:=eq_true p433
    replace q433:=eq_true q433
    have p434:0≤(x14_1:Int):=od_
    have q434:x14_1<(l1.length:Int):=od_
    obtain⟨ad434,A434_1,c434_1,e434,hx434_0,hx434_1,hx434_2,hl434_1,hi434_1⟩:=at_T35 HR1.out x14_1 p434 q434
    cases e434
    have HR434_1:=Aside0.mk hi434_1
    have HC434_1:=Aside0.mk hl434_1
    clear hi434_1 hl434_1
    replace p434:=eq_true p434
    replace q434:=eq_true q434
    have p435:0≤(x62_3:Int):=od_
    have q435:x62_3<(((rd_T35 l1 x14_1).f1).length:Int):=od_
    obtain⟨ad435,e435,hx435_0,hx435_1⟩:=at_T37 HR434_1.out x62_3 p435 q435
    cases e435
    replace p435:=eq_true p435
    replace q435:=eq_true q435
    go_wp2
    repeat(go_quiet (fail);try go_wp2)
    go_roundg k3
    case measure=>have:=HK1.out;have:=HJ4.out;have:=HK3.out;omega
    case rel=>exact⟨(wrap64 (x62_3+1)),eq_,H',⟨by have:=HK1.out;have:=HJ4.out;have:=HK3.out;omega⟩,by repeat(first|exact Drawn0.refl _|apply Drawn0.step)⟩
   rw[if_neg c14] at H
   have c14b0:=decide_eq_false c14
   clear c14
   have H':=Aside0.mk H
   clear H
   go_wp2
   repeat(go_quiet (fail);try go_wp2)
   go_roundg k3
   case measure=>have:=HK1.out;have:=HJ4.out;have:=HK3.out;omega
   case rel=>exact⟨(wrap64 (x14_1+1)),eq_,H',⟨by have:=HK1.out;have:=HJ4.out;have:=HK3.out;omega⟩,by repeat(first|exact Drawn0.refl _|apply Drawn0.step)⟩
  rw[if_neg c4] at H
  have c4b0:=decide_eq_false c4
  clear c4
  obtain rfl:=Option.some.inj H
  go_wp2
  repeat(go_quiet (fail);try go_wp2)
  go_ret
  exact⟨by first|rfl|(simp;done)|(simp[*];done)|(simp;first|exact given_isEmpty _|exact(given_isEmpty _).symm)|(unfold wrap64;omega)|(congr 1;unfold wrap64;omega),by repeat(first|exact Drawn0.refl _|apply Drawn0.step)⟩
 rw[if_neg c3] at H
 have c3b0:((l0.length:Int)==(l1.length:Int))=false:=beq_eq_false_iff_ne.mpr c3
 have c3b1:((l0.length:Int) !=(l1.length:Int))=true:=bne_iff_ne.mpr c3
 have c3b2:(l0.length==l1.length)=false:=by first|simpa using c3|(simp at c3 ⊢;omega)
 obtain rfl:=Option.some.inj H
 go_enter Tryd.func10,Tryd.ntmps10
 go_wp2
 repeat(go_quiet (fail);try go_wp2)
 go_ret
 exact⟨by first|rfl|(simp;done)|(simp[*];done)|(simp;first|exact given_isEmpty _|exact(given_isEmpty _).symm)|(unfold wrap64;omega)|(congr 1;unfold wrap64;omega),by repeat(first|exact Drawn0.refl _|apply Drawn0.step)⟩

end Go.Proofs.YtbhhfpjiacfofaaDoor.P
