-- written by a program of this session (wip/p2)
import Derived.Test.YtcokjmnkieakiaaGreatDoorPx0
import Derived.Test.YtcokjmnkieakiaaGreatDoorPx11
namespace Go.Proofs.YtcokjmnkieakiaaGreatDoor.P
open Go.RowKit Go.Proofs.YtcokjmnkieakiaaGreatDoorW.PrintWords Go.Proofs.YtcokjmnkieakiaaGreatDoorW.PrintLast Go.Proofs.YtcokjmnkieakiaaGreatDoorW.PrintMore
attribute [local go_sem] max2_int min2_int max_two min_two max_three min_three max_four min_four   -- for this text's walks alone
set_option linter.unusedVariables false
set_option linter.unusedSimpArgs false

/-! ### florinlaw06_Same: function 10 -/
mutual
def florinlaw06_Same.l0:Nat→List (S39)→List (S39)→Int→Int→Option (Bool)
 | 0,_,_,_,_=>none
 | k+1,x0,x1,x14,x15=>if x15<x14 then (if 0≤x15 then (if x15<(x0.length:Int) then (if x15<(x1.length:Int) then (if ((rd_T39 x0 x15).f0)=((rd_T39 x1 x15).f0) then (if ((rd_T39 x0 x15).f2).toList=((rd_T39 x1 x15).f2).toList then (florinlaw06_Same.j1 k x0 x1 x15 x14 x15 ((((rd_T39 x0 x15).f1).length:Int) !=(((rd_T39 x1 x15).f1).length:Int))) else (florinlaw06_Same.j1 k x0 x1 x15 x14 x15 true)) else (florinlaw06_Same.j1 k x0 x1 x15 x14 x15 true)) else (none)) else (none)) else (none)) else (some true)
def florinlaw06_Same.j1:Nat→List (S39)→List (S39)→Int→Int→Int→Bool→Option (Bool)
 | 0,_,_,_,_,_,_=>none
 | k+1,x0,x1,x5,x14,x15,x56=>if x56=true then (some false) else (if 0≤x5 then (if x5<(x0.length:Int) then (florinlaw06_Same.l1 k x0 x1 x5 x14 x15 (((rd_T39 x0 x5).f1).length:Int) 0) else (none)) else (none))
def florinlaw06_Same.l1:Nat→List (S39)→List (S39)→Int→Int→Int→Int→Int→Option (Bool)
 | 0,_,_,_,_,_,_,_=>none
 | k+1,x0,x1,x5,x14,x15,x62,x63=>if x63<x62 then (if 0≤x5 then (if x5<(x0.length:Int) then (if 0≤x63 then (if x63<(((rd_T39 x0 x5).f1).length:Int) then (if x5<(x1.length:Int) then (if x63<(((rd_T39 x1 x5).f1).length:Int) then (if ((rd_L7 ((rd_T39 x0 x5).f1) x63).length:Int)=((rd_L7 ((rd_T39 x1 x5).f1) x63).length:Int) then (florinlaw06_Same.l2 k x0 x1 x5 x63 x14 x15 x62 x63 ((rd_L7 ((rd_T39 x0 x5).f1) x63).length:Int) 0) else (some false)) else (none)) else (none)) else (none)) else (none)) else (none)) else (none)) else (florinlaw06_Same.l0 k x0 x1 x14 (wrap64 (x15+1)))
def florinlaw06_Same.l2:Nat→List (S39)→List (S39)→Int→Int→Int→Int→Int→Int→Int→Int→Option (Bool)
 | 0,_,_,_,_,_,_,_,_,_,_=>none
 | k+1,x0,x1,x5,x6,x14,x15,x62,x63,x93,x94=>if x94<x93 then (if 0≤x5 then (if x5<(x0.length:Int) then (if 0≤x6 then (if x6<(((rd_T39 x0 x5).f1).length:Int) then (if 0≤x94 then (if x94<((rd_L7 ((rd_T39 x0 x5).f1) x6).length:Int) then (if x5<(x1.length:Int) then (if x6<(((rd_T39 x1 x5).f1).length:Int) then (if x94<((rd_L7 ((rd_T39 x1 x5).f1) x6).length:Int) then ((florinlaw06_sameRel.f k ((rd_T43 (rd_L7 ((rd_T39 x0 x5).f1) x6) x94).f0) ((rd_T43 (rd_L7 ((rd_T39 x0 x5).f1) x6) x94).f1) ((rd_T43 (rd_L7 ((rd_T39 x0 x5).f1) x6) x94).f2) ((rd_T43 (rd_L7 ((rd_T39 x0 x5).f1) x6) x94).f3) ((rd_T43 (rd_L7 ((rd_T39 x1 x5).f1) x6) x94).f0) ((rd_T43 (rd_L7 ((rd_T39 x1 x5).f1) x6) x94).f1) ((rd_T43 (rd_L7 ((rd_T39 x1 x5).f1) x6) x94).f2) ((rd_T43 (rd_L7 ((rd_T39 x1 x5).f1) x6) x94).f3)).bind fun t695=>(if t695=true then (florinlaw06_Same.l2 k x0 x1 x5 x6 x14 x15 x62 x63 x93 (wrap64 (x94+1))) else (some false))) else (none)) else (none)) else (none)) else (none)) else (none)) else (none)) else (none)) else (none)) else (none)) else (florinlaw06_Same.l1 k x0 x1 x5 x14 x15 x62 (wrap64 (x63+1)))
end
def florinlaw06_Same.f (k:Nat) (l0:List (S39)) (l1:List (S39)):Option (Bool):=if (l0.length:Int)=(l1.length:Int) then (florinlaw06_Same.l0 k l0 l1 (l0.length:Int) 0) else (some false)
def florinlaw06_Same.T6:Bool × List (List Nat × List Nat):=(true,[([],[]),([],[]),([0,1],[0,1]),([2],[2]),([3],[3]),([],[]),([],[]),([5,6],[5,6]),([7],[7]),([8],[8]),([4,9],[4,9]),([10],[10]),([11],[11]),([11],[11]),([12,13,11],[11,12,13]),([14,11],[11,14]),([15,11],[11,15]),([11],[11]),([11],[11]),([17,18,11],[11,17,18]),([19,11],[11,19]),([20,11],[11,20]),([16,21,11],[11,16,21]),([11,22],[11,22]),([23,11],[23]),([24],[24]),([24],[24]),([25,26,24],[24,25,26]),([27,24],[24,27]),([28,24],[24,28]),([29,24],[24,29]),([24],[24]),([24],[24]),([31,32,24],[24,31,32]),([33,24],[24,33]),([34,24],[24,34]),([35,24],[24,35]),([30,36,24],[24,30,36]),([24,37],[24,37])])
def florinlaw06_Same.B6:List Nat:=[0,0,3,7,15,0,0,96,224,480,1023,2047,4095,4095,16383,32767,65535,4095,4095,397311,921599,1970175,4194303,8388607,16777215,33554431,33554431,134217727,268435455,536870911,1073741823,33554431,33554431,6476005375,15065939967,32245809151,66605547519,137438953471,274877906943]
theorem florinlaw06_Same.tab6:rtab .any (opsOf Tryz.f10 6)=florinlaw06_Same.T6:=by kernel_rfl
theorem florinlaw06_Same.bits6:waitsOk florinlaw06_Same.T6.2 florinlaw06_Same.B6=true:=by kernel_rfl
def florinlaw06_Same.T11:Bool × List (List Nat × List Nat):=(true,[([],[]),([],[]),([0,1],[0,1]),([2],[2]),([3],[3]),([],[]),([4,5],[4,5]),([6],[6]),([7],[7]),([],[]),([],[]),([9,10],[9,10]),([11],[11]),([12],[12]),([],[]),([13,14],[13,14]),([15],[15]),([16],[16]),([8,17],[8,17])])
def florinlaw06_Same.B11:List Nat:=[0,0,3,7,15,0,63,127,255,0,0,1536,3584,7680,0,32256,65024,130560,262143]
theorem florinlaw06_Same.tab11:rtab .any (opsOf Tryz.f10 11)=florinlaw06_Same.T11:=by kernel_rfl
theorem florinlaw06_Same.bits11:waitsOk florinlaw06_Same.T11.2 florinlaw06_Same.B11=true:=by kernel_rfl
def florinlaw06_Same.T16:Bool × List (List Nat × List Nat):=(true,[([],[]),([],[]),([0,1],[0,1]),([2],[2]),([3],[3]),([],[]),([4,5],[4,5]),([6],[6]),([],[]),([7,8],[7,8]),([9],[9]),([],[]),([],[]),([11,12],[11,12]),([13],[13]),([14],[14]),([],[]),([15,16],[15,16]),([17],[17]),([],[]),([18,19],[18,19]),([20],[20]),([10,21],[10,21]),([22],[22])])
def florinlaw06_Same.B16:List Nat:=[0,0,3,7,15,0,63,127,0,511,1023,0,0,6144,14336,30720,0,129024,260096,0,1046528,2095104,4194303,8388607]
theorem florinlaw06_Same.tab16:rtab .any (opsOf Tryz.f10 16)=florinlaw06_Same.T16:=by kernel_rfl
theorem florinlaw06_Same.bits16:waitsOk florinlaw06_Same.T16.2 florinlaw06_Same.B16=true:=by kernel_rfl
set_option maxHeartbeats 64000000 in
set_option maxRecDepth 100000 in
theorem florinlaw06_Same.calls (k:Nat) (A0:Option Addr) (c0:Nat) (l0:List (S39)) (A1:Option Addr) (c1:Nat) (l1:List (S39)) (r:Bool) (w:World) (hr0:Kd.C k39 w A0 l0.length l0) (hc0:l0.length≤c0) (hr1:Kd.C k39 w A1 l1.length l1) (hc1:l1.length≤c1) (h:florinlaw06_Same.f k l0 l1=some r) :
  Calls Tryz.prog 10 #[.slice A0 l0.length c0,.slice A1 l1.length c1] w fun e w'=>e= .returned (.bool r)∧Below w.heap.size w w':=by
 have hu43:=Tryz.underlying43
 have HR0:=Aside0.mk hr0
 have HC0:=Aside0.mk hc0
 clear hr0 hc0
 have HR1:=Aside0.mk hr1
 have HC1:=Aside0.mk hc1
 clear hr1 hc1
 have HB:=Aside0.mk (Below.refl w.heap.size w)
 have H:(if (l0.length:Int)=(l1.length:Int) then (florinlaw06_Same.l0 k l0 l1 (l0.length:Int) 0) else (some false))=some r:=h
 clear h
 by_cases c3:(l0.length:Int)=(l1.length:Int)
 ·rw[if_pos c3] at H
  have c3b0:((l0.length:Int)==(l1.length:Int))=true:=beq_iff_eq.mpr c3
  have c3b1:((l0.length:Int) !=(l1.length:Int))=false:=bne_eq_false_iff_eq.mpr c3
  have c3b2:(l0.length==l1.length)=true:=by first|simpa using c3|(simp at c3 ⊢;omega)
  clear c3
  have H':=Aside0.mk H
  clear H
  go_enter Tryz.func10,Tryz.ntmps10
  go_wp2
  go_loopg [15] k (fun kq v15 w'=>∃(x15_1:Int),v15= .int .i64 x15_1∧Aside0 (florinlaw06_Same.l0 kq l0 l1 (l0.length:Int) x15_1=some r)∧Aside0 (kq≤k)∧Aside0 (Below w.heap.size w w'))
  case atStart=>exact⟨(0),eq_,H',⟨Nat.le_refl _⟩,(bl_ HB)⟩
  case round =>
   clear H'
   obtain⟨x15_1,rfl,HA,HK1,HB⟩:=hrel
   cases gk with
   | zero=>exact absurd HA.out (by simp[florinlaw06_Same.l0])
   | succ k1 =>
    have H:=HA.out
    clear HA
    simp only[florinlaw06_Same.l0] at H
    by_cases c4:x15_1<(l0.length:Int)
    ·rw[if_pos c4] at H
     have c4b0:=decide_eq_true c4
     clear c4
     have HC5:=Aside0.mk H
     clear H
     go_upto_region 6 with (fail)
     go_cut [56] (fun v56 wc=>∃(kq:Nat) (x56_4:Bool),v56= .bool x56_4∧Aside0 (florinlaw06_Same.j1 kq l0 l1 x15_1 (l0.length:Int) x15_1 x56_4=some r)∧Aside0 (kq≤k1)∧Aside0 (Below w.heap.size w wc))
     case first =>
      have H:=HC5.out
      clear HC5
      replace H:=ifn_ H
      obtain⟨c6,H⟩:=H
      have c6b0:decide (0≤x15_1)=true:=decide_eq_true c6
      clear c6
      (first|rw[c6b0]|(simp only[i64_w,i32_w];rw[c6b0])|skip)
      replace H:=ifn_ H
      obtain⟨c7,H⟩:=H
      have c7b0:decide (x15_1<(l0.length:Int))=true:=decide_eq_true c7
      clear c7
      replace H:=ifn_ H
      obtain⟨c8,H⟩:=H
      have c8b0:decide (x15_1<(l1.length:Int))=true:=decide_eq_true c8
      clear c8
      by_cases c9:((rd_T39 l0 x15_1).f0)=((rd_T39 l1 x15_1).f0)
      ·rw[if_pos c9] at H
       have c9b0:(((rd_T39 l0 x15_1).f0)==((rd_T39 l1 x15_1).f0))=true:=beq_iff_eq.mpr c9
       have c9b1:(((rd_T39 l0 x15_1).f0) !=((rd_T39 l1 x15_1).f0))=false:=bne_eq_false_iff_eq.mpr c9
       clear c9
       by_cases c10:((rd_T39 l0 x15_1).f2).toList=((rd_T39 l1 x15_1).f2).toList
       ·rw[if_pos c10] at H
        have c10b0:(((rd_T39 l0 x15_1).f2).toList==((rd_T39 l1 x15_1).f2).toList)=true:=beq_iff_eq.mpr c10
        have c10b1:(((rd_T39 l0 x15_1).f2).toList !=((rd_T39 l1 x15_1).f2).toList)=false:=bne_eq_false_iff_eq.mpr c10
        clear c10
        have H':=Aside0.mk H
        clear H
        try go_wp2
        replace HB:=Aside0.mk (below_drew1 HB.out)
        have p676:0≤(x15_1:Int):=od_
        have q676:x15_1<(l0.length:Int):=od_
        obtain⟨ad676,A676_1,c676_1,e676,hx676_0,hx676_1,hx676_2,hl676_1,hi676_1⟩:=at_T39 HR0.out x15_1 p676 q676
        have hw676_2:=hx676_2
        have hw676_1:=hx676_1
        have hw676_0:=hx676_0
        cases e676
        replace hx676_0:=hbc_ HB hx676_0
        replace hx676_1:=hbc_ HB hx676_1
        replace hx676_2:=hbc_ HB hx676_2
        have HR676_1:=Aside0.mk hi676_1
        have HC676_1:=Aside0.mk hl676_1
        clear hi676_1 hl676_1
        replace p676:=eq_true p676
        replace q676:=eq_true q676
        have p677:0≤(x15_1:Int):=od_
        have q677:x15_1<(l1.length:Int):=od_
        obtain⟨ad677,A677_1,c677_1,e677,hx677_0,hx677_1,hx677_2,hl677_1,hi677_1⟩:=at_T39 HR1.out x15_1 p677 q677
        have hw677_2:=hx677_2
        have hw677_1:=hx677_1
        have hw677_0:=hx677_0
        cases e677
        replace hx677_0:=hbc_ HB hx677_0
        replace hx677_1:=hbc_ HB hx677_1
        replace hx677_2:=hbc_ HB hx677_2
        have HR677_1:=Aside0.mk hi677_1
        have HC677_1:=Aside0.mk hl677_1
        clear hi677_1 hl677_1
        replace p677:=eq_true p677
        replace q677:=eq_true q677
        have p678:0≤(x15_1:Int):=od_
        have q678:x15_1<(l0.length:Int):=od_
        obtain⟨ad678,A678_1,c678_1,e678,hx678_0,hx678_1,hx678_2,hl678_1,hi678_1⟩:=at_T39 HR0.out x15_1 p678 q678
        have hw678_2:=hx678_2
        have hw678_1:=hx678_1
        have hw678_0:=hx678_0
        obtain rfl:ad676=ad678:=(by injection e678)
        replace hx678_0:=hbc_ HB hx678_0
        replace hx678_1:=hbc_ HB hx678_1
        replace hx678_2:=hbc_ HB hx678_2
        have HR678_1:=Aside0.mk hi678_1
        have HC678_1:=Aside0.mk hl678_1
        clear hi678_1 hl678_1
        replace p678:=eq_true p678
        replace q678:=eq_true q678
        have ea_:=Option.some.inj (hx676_1.symm.trans hx678_1)
        injection ea_ with ea_ en_ ec_
        subst ea_
        subst ec_
        clear en_
        have p679:0≤(x15_1:Int):=od_
        have q679:x15_1<(l1.length:Int):=od_
        obtain⟨ad679,A679_1,c679_1,e679,hx679_0,hx679_1,hx679_2,hl679_1,hi679_1⟩:=at_T39 HR1.out x15_1 p679 q679
        have hw679_2:=hx679_2
        have hw679_1:=hx679_1
        have hw679_0:=hx679_0
        obtain rfl:ad677=ad679:=(by injection e679)
        replace hx679_0:=hbc_ HB hx679_0
        replace hx679_1:=hbc_ HB hx679_1
        replace hx679_2:=hbc_ HB hx679_2
        have HR679_1:=Aside0.mk hi679_1
        have HC679_1:=Aside0.mk hl679_1
        clear hi679_1 hl679_1
        replace p679:=eq_true p679
        replace q679:=eq_true q679
        have ea_:=Option.some.inj (hx677_1.symm.trans hx679_1)
        injection ea_ with ea_ en_ ec_
        subst ea_
        subst ec_
        clear en_
        have p680:0≤(x15_1:Int):=od_
        have q680:x15_1<(l0.length:Int):=od_
        obtain⟨ad680,A680_1,c680_1,e680,hx680_0,hx680_1,hx680_2,hl680_1,hi680_1⟩:=at_T39 HR0.out x15_1 p680 q680
        have hw680_2:=hx680_2
        have hw680_1:=hx680_1
        have hw680_0:=hx680_0
        obtain rfl:ad676=ad680:=(by injection e680)
        replace hx680_0:=hbc_ HB hx680_0
        replace hx680_1:=hbc_ HB hx680_1
        replace hx680_2:=hbc_ HB hx680_2
        have HR680_1:=Aside0.mk hi680_1
        have HC680_1:=Aside0.mk hl680_1
        clear hi680_1 hl680_1
        replace p680:=eq_true p680
        replace q680:=eq_true q680
        have ea_:=Option.some.inj (hx676_1.symm.trans hx680_1)
        injection ea_ with ea_ en_ ec_
        subst ea_
        subst ec_
        clear en_
        have p681:0≤(x15_1:Int):=od_
        have q681:x15_1<(l1.length:Int):=od_
        obtain⟨ad681,A681_1,c681_1,e681,hx681_0,hx681_1,hx681_2,hl681_1,hi681_1⟩:=at_T39 HR1.out x15_1 p681 q681
        have hw681_2:=hx681_2
        have hw681_1:=hx681_1
        have hw681_0:=hx681_0
        obtain rfl:ad677=ad681:=(by injection e681)
        replace hx681_0:=hbc_ HB hx681_0
        replace hx681_1:=hbc_ HB hx681_1
        replace hx681_2:=hbc_ HB hx681_2
        have HR681_1:=Aside0.mk hi681_1
        have HC681_1:=Aside0.mk hl681_1
        clear hi681_1 hl681_1
        replace p681:=eq_true p681
        replace q681:=eq_true q681
        have ea_:=Option.some.inj (hx677_1.symm.trans hx681_1)
        injection ea_ with ea_ en_ ec_
        subst ea_
        subst ec_
        clear en_
        refine start_ (n:=39) (S:=fun w'=>w'.cell? (ad676.add ((x15_1).toNat*3))=some (.int .i64 ((rd_T39 l0 x15_1).f0))∧w'.cell? ⟨(ad676.add ((x15_1).toNat*3)).block,(ad676.add ((x15_1).toNat*3)).off+1,none⟩=some (.slice A676_1 ((rd_T39 l0 x15_1).f1).length c676_1)∧w'.cell? ⟨(ad676.add ((x15_1).toNat*3)).block,(ad676.add ((x15_1).toNat*3)).off+2,none⟩=some (.string ((rd_T39 l0 x15_1).f2))∧w'.cell? (ad677.add ((x15_1).toNat*3))=some (.int .i64 ((rd_T39 l1 x15_1).f0))∧w'.cell? ⟨(ad677.add ((x15_1).toNat*3)).block,(ad677.add ((x15_1).toNat*3)).off+1,none⟩=some (.slice A677_1 ((rd_T39 l1 x15_1).f1).length c677_1)∧w'.cell? ⟨(ad677.add ((x15_1).toNat*3)).block,(ad677.add ((x15_1).toNat*3)).off+2,none⟩=some (.string ((rd_T39 l1 x15_1).f2))∧w'.cell? (ad676.add ((x15_1).toNat*3))=some (.int .i64 ((rd_T39 l0 x15_1).f0))∧w'.cell? ⟨(ad676.add ((x15_1).toNat*3)).block,(ad676.add ((x15_1).toNat*3)).off+1,none⟩=some (.slice A676_1 ((rd_T39 l0 x15_1).f1).length c676_1)∧w'.cell? ⟨(ad676.add ((x15_1).toNat*3)).block,(ad676.add ((x15_1).toNat*3)).off+2,none⟩=some (.string ((rd_T39 l0 x15_1).f2))∧w'.cell? (ad677.add ((x15_1).toNat*3))=some (.int .i64 ((rd_T39 l1 x15_1).f0))∧w'.cell? ⟨(ad677.add ((x15_1).toNat*3)).block,(ad677.add ((x15_1).toNat*3)).off+1,none⟩=some (.slice A677_1 ((rd_T39 l1 x15_1).f1).length c677_1)∧w'.cell? ⟨(ad677.add ((x15_1).toNat*3)).block,(ad677.add ((x15_1).toNat*3)).off+2,none⟩=some (.string ((rd_T39 l1 x15_1).f2))∧w'.cell? (ad676.add ((x15_1).toNat*3))=some (.int .i64 ((rd_T39 l0 x15_1).f0))∧w'.cell? ⟨(ad676.add ((x15_1).toNat*3)).block,(ad676.add ((x15_1).toNat*3)).off+1,none⟩=some (.slice A676_1 ((rd_T39 l0 x15_1).f1).length c676_1)∧w'.cell? ⟨(ad676.add ((x15_1).toNat*3)).block,(ad676.add ((x15_1).toNat*3)).off+2,none⟩=some (.string ((rd_T39 l0 x15_1).f2))∧w'.cell? (ad677.add ((x15_1).toNat*3))=some (.int .i64 ((rd_T39 l1 x15_1).f0))∧w'.cell? ⟨(ad677.add ((x15_1).toNat*3)).block,(ad677.add ((x15_1).toNat*3)).off+1,none⟩=some (.slice A677_1 ((rd_T39 l1 x15_1).f1).length c677_1)∧w'.cell? ⟨(ad677.add ((x15_1).toNat*3)).block,(ad677.add ((x15_1).toNat*3)).off+2,none⟩=some (.string ((rd_T39 l1 x15_1).f2))) (ds:=[]) #[false,false,false,false,false,false,false,false,false,false,false,false,false,false,false,false,false,false,false,false,false,false,false,false,false,false,false,false,false,false,false,false,false,false,false,false,false,false,false] (by kernel_rfl) rfl rfl ⟨(hbc_ HB hw676_0),(hbc_ HB hw676_1),(hbc_ HB hw676_2),(hbc_ HB hw677_0),(hbc_ HB hw677_1),(hbc_ HB hw677_2),(hbc_ HB hw678_0),(hbc_ HB hw678_1),(hbc_ HB hw678_2),(hbc_ HB hw679_0),(hbc_ HB hw679_1),(hbc_ HB hw679_2),(hbc_ HB hw680_0),(hbc_ HB hw680_1),(hbc_ HB hw680_2),(hbc_ HB hw681_0),(hbc_ HB hw681_1),(hbc_ HB hw681_2)⟩ (fun hHeld=>?_);refine with_tabW florinlaw06_Same.tab6 florinlaw06_Same.bits6 (fun HT_ HW_=>?_)
        generalize wr.drew=w11 at HB HR676_1 HR677_1 HR678_1 HR679_1 HR680_1 HR681_1 hx676_0 hx676_1 hx676_2 hx677_0 hx677_1 hx677_2 hx678_0 hx678_1 hx678_2 hx679_0 hx679_1 hx679_2 hx680_0 hx680_1 hx680_2 hx681_0 hx681_1 hx681_2 hHeld ⊢
        refine pu_ 0 18 (bm_ 39 1) HT_ ?_
        refine pu_ 1 19 (bm_ 39 3) HT_ ?_
        refine pu_ 2 20 (bm_ 39 7) HT_ ?_
        refine pu_ 3 21 (bm_ 39 15) HT_ ?_
        refine pu_ 5 23 (bm_ 39 47) HT_ ?_
        refine pu_ 6 24 (bm_ 39 111) HT_ ?_
        refine pu_ 7 25 (bm_ 39 239) HT_ ?_
        refine pu_ 8 26 (bm_ 39 495) HT_ ?_
        refine tk_ 4 22 (bm_ 39 511) HT_ HW_ hHeld rfl (by rintro w' ⟨s0,s1,s2,s3,s4,s5,s6,s7,s8,s9,s10,s11,s12,s13,s14,s15,s16,s17⟩;go_simp;with_reducible rfl) ?_
        refine tk_ 9 27 (bm_ 39 1023) HT_ HW_ hHeld rfl (by rintro w' ⟨s0,s1,s2,s3,s4,s5,s6,s7,s8,s9,s10,s11,s12,s13,s14,s15,s16,s17⟩;go_simp;with_reducible rfl) ?_
        refine pu_ 10 28 (bm_ 39 2047) HT_ ?_
        refine pu_ 11 29 (bm_ 39 4095) HT_ ?_
        refine pu_ 12 30 (bm_ 39 8191) HT_ ?_
        refine pu_ 13 31 (bm_ 39 16383) HT_ ?_
        refine pu_ 14 32 (bm_ 39 32767) HT_ ?_
        refine pu_ 15 33 (bm_ 39 65535) HT_ ?_
        refine pu_ 17 35 (bm_ 39 196607) HT_ ?_
        refine pu_ 18 36 (bm_ 39 458751) HT_ ?_
        refine pu_ 19 37 (bm_ 39 983039) HT_ ?_
        refine pu_ 20 38 (bm_ 39 2031615) HT_ ?_
        refine tk_ 16 34 (bm_ 39 2097151) HT_ HW_ hHeld rfl (by rintro w' ⟨s0,s1,s2,s3,s4,s5,s6,s7,s8,s9,s10,s11,s12,s13,s14,s15,s16,s17⟩;go_simp;with_reducible rfl) ?_
        refine tk_ 21 39 (bm_ 39 4194303) HT_ HW_ hHeld rfl (by rintro w' ⟨s0,s1,s2,s3,s4,s5,s6,s7,s8,s9,s10,s11,s12,s13,s14,s15,s16,s17⟩;go_simp;with_reducible rfl) ?_
        refine pu_ 22 40 (bm_ 39 8388607) HT_ ?_
        refine pu_ 23 41 (bm_ 39 16777215) HT_ ?_
        refine pu_ 24 42 (bm_ 39 33554431) HT_ ?_
        refine pu_ 25 43 (bm_ 39 67108863) HT_ ?_
        refine pu_ 26 44 (bm_ 39 134217727) HT_ ?_
        refine pu_ 27 45 (bm_ 39 268435455) HT_ ?_
        refine pu_ 28 46 (bm_ 39 536870911) HT_ ?_
        refine pu_ 31 49 (bm_ 39 2684354559) HT_ ?_
        refine pu_ 32 50 (bm_ 39 6979321855) HT_ ?_
        refine pu_ 33 51 (bm_ 39 15569256447) HT_ ?_
        refine pu_ 34 52 (bm_ 39 32749125631) HT_ ?_
        refine tk_ 29 47 (bm_ 39 33285996543) HT_ HW_ hHeld rfl (by rintro w' ⟨s0,s1,s2,s3,s4,s5,s6,s7,s8,s9,s10,s11,s12,s13,s14,s15,s16,s17⟩;go_simp;with_reducible rfl) ?_
        refine pu_ 30 48 (bm_ 39 34359738367) HT_ ?_
        refine tk_ 35 53 (bm_ 39 68719476735) HT_ HW_ hHeld rfl (by rintro w' ⟨s0,s1,s2,s3,s4,s5,s6,s7,s8,s9,s10,s11,s12,s13,s14,s15,s16,s17⟩;go_simp;with_reducible rfl) ?_
        refine pu_ 36 54 (bm_ 39 137438953471) HT_ ?_
        refine pu_ 37 55 (bm_ 39 274877906943) HT_ ?_
        refine pu_ 38 56 (bm_ 39 549755813887) HT_ ?_
        refine done_ (done_of HT_.out (by kernel_rfl)) ?_
        try go_wp2
        go_meet
        case rel=>exact⟨_,(((((rd_T39 l0 x15_1).f1).length:Int) !=(((rd_T39 l1 x15_1).f1).length:Int))),eq_,H',⟨by have:=HK1.out;first|omega|exact Nat.le_refl _⟩,(bl_ HB)⟩
       ·rw[if_neg c10] at H
        have c10b0:(((rd_T39 l0 x15_1).f2).toList==((rd_T39 l1 x15_1).f2).toList)=false:=beq_eq_false_iff_ne.mpr c10
        have c10b1:(((rd_T39 l0 x15_1).f2).toList !=((rd_T39 l1 x15_1).f2).toList)=true:=bne_iff_ne.mpr c10
        have H':=Aside0.mk H
        clear H
        try go_wp2
        replace HB:=Aside0.mk (below_drew1 HB.out)
        have p676:0≤(x15_1:Int):=od_
        have q676:x15_1<(l0.length:Int):=od_
        obtain⟨ad676,A676_1,c676_1,e676,hx676_0,hx676_1,hx676_2,hl676_1,hi676_1⟩:=at_T39 HR0.out x15_1 p676 q676
        have hw676_2:=hx676_2
        have hw676_1:=hx676_1
        have hw676_0:=hx676_0
        cases e676
        replace hx676_0:=hbc_ HB hx676_0
        replace hx676_1:=hbc_ HB hx676_1
        replace hx676_2:=hbc_ HB hx676_2
        have HR676_1:=Aside0.mk hi676_1
        have HC676_1:=Aside0.mk hl676_1
        clear hi676_1 hl676_1
        replace p676:=eq_true p676
        replace q676:=eq_true q676
        have p677:0≤(x15_1:Int):=od_
        have q677:x15_1<(l1.length:Int):=od_
        obtain⟨ad677,A677_1,c677_1,e677,hx677_0,hx677_1,hx677_2,hl677_1,hi677_1⟩:=at_T39 HR1.out x15_1 p677 q677
        have hw677_2:=hx677_2
        have hw677_1:=hx677_1
        have hw677_0:=hx677_0
        cases e677
        replace hx677_0:=hbc_ HB hx677_0
        replace hx677_1:=hbc_ HB hx677_1
        replace hx677_2:=hbc_ HB hx677_2
        have HR677_1:=Aside0.mk hi677_1
        have HC677_1:=Aside0.mk hl677_1
        clear hi677_1 hl677_1
        replace p677:=eq_true p677
        replace q677:=eq_true q677
        have p678:0≤(x15_1:Int):=od_
        have q678:x15_1<(l0.length:Int):=od_
        obtain⟨ad678,A678_1,c678_1,e678,hx678_0,hx678_1,hx678_2,hl678_1,hi678_1⟩:=at_T39 HR0.out x15_1 p678 q678
        have hw678_2:=hx678_2
        have hw678_1:=hx678_1
        have hw678_0:=hx678_0
        obtain rfl:ad676=ad678:=(by injection e678)
        replace hx678_0:=hbc_ HB hx678_0
        replace hx678_1:=hbc_ HB hx678_1
        replace hx678_2:=hbc_ HB hx678_2
        have HR678_1:=Aside0.mk hi678_1
        have HC678_1:=Aside0.mk hl678_1
        clear hi678_1 hl678_1
        replace p678:=eq_true p678
        replace q678:=eq_true q678
        have ea_:=Option.some.inj (hx676_1.symm.trans hx678_1)
        injection ea_ with ea_ en_ ec_
        subst ea_
        subst ec_
        clear en_
        have p679:0≤(x15_1:Int):=od_
        have q679:x15_1<(l1.length:Int):=od_
        obtain⟨ad679,A679_1,c679_1,e679,hx679_0,hx679_1,hx679_2,hl679_1,hi679_1⟩:=at_T39 HR1.out x15_1 p679 q679
        have hw679_2:=hx679_2
        have hw679_1:=hx679_1
        have hw679_0:=hx679_0
        obtain rfl:ad677=ad679:=(by injection e679)
        replace hx679_0:=hbc_ HB hx679_0
        replace hx679_1:=hbc_ HB hx679_1
        replace hx679_2:=hbc_ HB hx679_2
        have HR679_1:=Aside0.mk hi679_1
        have HC679_1:=Aside0.mk hl679_1
        clear hi679_1 hl679_1
        replace p679:=eq_true p679
        replace q679:=eq_true q679
        have ea_:=Option.some.inj (hx677_1.symm.trans hx679_1)
        injection ea_ with ea_ en_ ec_
        subst ea_
        subst ec_
        clear en_
        refine start_ (n:=39) (S:=fun w'=>w'.cell? (ad676.add ((x15_1).toNat*3))=some (.int .i64 ((rd_T39 l0 x15_1).f0))∧w'.cell? ⟨(ad676.add ((x15_1).toNat*3)).block,(ad676.add ((x15_1).toNat*3)).off+1,none⟩=some (.slice A676_1 ((rd_T39 l0 x15_1).f1).length c676_1)∧w'.cell? ⟨(ad676.add ((x15_1).toNat*3)).block,(ad676.add ((x15_1).toNat*3)).off+2,none⟩=some (.string ((rd_T39 l0 x15_1).f2))∧w'.cell? (ad677.add ((x15_1).toNat*3))=some (.int .i64 ((rd_T39 l1 x15_1).f0))∧w'.cell? ⟨(ad677.add ((x15_1).toNat*3)).block,(ad677.add ((x15_1).toNat*3)).off+1,none⟩=some (.slice A677_1 ((rd_T39 l1 x15_1).f1).length c677_1)∧w'.cell? ⟨(ad677.add ((x15_1).toNat*3)).block,(ad677.add ((x15_1).toNat*3)).off+2,none⟩=some (.string ((rd_T39 l1 x15_1).f2))∧w'.cell? (ad676.add ((x15_1).toNat*3))=some (.int .i64 ((rd_T39 l0 x15_1).f0))∧w'.cell? ⟨(ad676.add ((x15_1).toNat*3)).block,(ad676.add ((x15_1).toNat*3)).off+1,none⟩=some (.slice A676_1 ((rd_T39 l0 x15_1).f1).length c676_1)∧w'.cell? ⟨(ad676.add ((x15_1).toNat*3)).block,(ad676.add ((x15_1).toNat*3)).off+2,none⟩=some (.string ((rd_T39 l0 x15_1).f2))∧w'.cell? (ad677.add ((x15_1).toNat*3))=some (.int .i64 ((rd_T39 l1 x15_1).f0))∧w'.cell? ⟨(ad677.add ((x15_1).toNat*3)).block,(ad677.add ((x15_1).toNat*3)).off+1,none⟩=some (.slice A677_1 ((rd_T39 l1 x15_1).f1).length c677_1)∧w'.cell? ⟨(ad677.add ((x15_1).toNat*3)).block,(ad677.add ((x15_1).toNat*3)).off+2,none⟩=some (.string ((rd_T39 l1 x15_1).f2))) (ds:=[]) #[false,false,false,false,false,false,false,false,false,false,false,false,false,false,false,false,false,false,false,false,false,false,false,false,false,false,false,false,false,false,false,false,false,false,false,false,false,false,false] (by kernel_rfl) rfl rfl ⟨(hbc_ HB hw676_0),(hbc_ HB hw676_1),(hbc_ HB hw676_2),(hbc_ HB hw677_0),(hbc_ HB hw677_1),(hbc_ HB hw677_2),(hbc_ HB hw678_0),(hbc_ HB hw678_1),(hbc_ HB hw678_2),(hbc_ HB hw679_0),(hbc_ HB hw679_1),(hbc_ HB hw679_2)⟩ (fun hHeld=>?_);refine with_tabW florinlaw06_Same.tab6 florinlaw06_Same.bits6 (fun HT_ HW_=>?_)
        generalize wr.drew=w12 at HB HR676_1 HR677_1 HR678_1 HR679_1 hx676_0 hx676_1 hx676_2 hx677_0 hx677_1 hx677_2 hx678_0 hx678_1 hx678_2 hx679_0 hx679_1 hx679_2 hHeld ⊢
        refine pu_ 0 18 (bm_ 39 1) HT_ ?_
        refine pu_ 1 19 (bm_ 39 3) HT_ ?_
        refine pu_ 2 20 (bm_ 39 7) HT_ ?_
        refine pu_ 3 21 (bm_ 39 15) HT_ ?_
        refine pu_ 5 23 (bm_ 39 47) HT_ ?_
        refine pu_ 6 24 (bm_ 39 111) HT_ ?_
        refine pu_ 7 25 (bm_ 39 239) HT_ ?_
        refine pu_ 8 26 (bm_ 39 495) HT_ ?_
        refine tk_ 4 22 (bm_ 39 511) HT_ HW_ hHeld rfl (by rintro w' ⟨s0,s1,s2,s3,s4,s5,s6,s7,s8,s9,s10,s11⟩;go_simp;with_reducible rfl) ?_
        refine tk_ 9 27 (bm_ 39 1023) HT_ HW_ hHeld rfl (by rintro w' ⟨s0,s1,s2,s3,s4,s5,s6,s7,s8,s9,s10,s11⟩;go_simp;with_reducible rfl) ?_
        refine pu_ 10 28 (bm_ 39 2047) HT_ ?_
        refine pu_ 11 29 (bm_ 39 4095) HT_ ?_
        refine pu_ 12 30 (bm_ 39 8191) HT_ ?_
        refine pu_ 13 31 (bm_ 39 16383) HT_ ?_
        refine pu_ 14 32 (bm_ 39 32767) HT_ ?_
        refine pu_ 15 33 (bm_ 39 65535) HT_ ?_
        refine pu_ 17 35 (bm_ 39 196607) HT_ ?_
        refine pu_ 18 36 (bm_ 39 458751) HT_ ?_
        refine pu_ 19 37 (bm_ 39 983039) HT_ ?_
        refine pu_ 20 38 (bm_ 39 2031615) HT_ ?_
        refine tk_ 16 34 (bm_ 39 2097151) HT_ HW_ hHeld rfl (by rintro w' ⟨s0,s1,s2,s3,s4,s5,s6,s7,s8,s9,s10,s11⟩;go_simp;with_reducible rfl) ?_
        refine tk_ 21 39 (bm_ 39 4194303) HT_ HW_ hHeld rfl (by rintro w' ⟨s0,s1,s2,s3,s4,s5,s6,s7,s8,s9,s10,s11⟩;go_simp;with_reducible rfl) ?_
        refine pu_ 22 40 (bm_ 39 8388607) HT_ ?_
        refine pu_ 23 41 (bm_ 39 16777215) HT_ ?_
        refine pu_ 24 42 (bm_ 39 33554431) HT_ ?_
        refine pn_ 25 43 (bm_ 39 67108863) HT_ ?_
        refine pn_ 26 44 (bm_ 39 134217727) HT_ ?_
        refine pn_ 27 45 (bm_ 39 268435455) HT_ ?_
        refine pn_ 28 46 (bm_ 39 536870911) HT_ ?_
        refine pn_ 29 47 (bm_ 39 1073741823) HT_ ?_
        refine pn_ 30 48 (bm_ 39 2147483647) HT_ ?_
        refine pn_ 31 49 (bm_ 39 4294967295) HT_ ?_
        refine pn_ 32 50 (bm_ 39 8589934591) HT_ ?_
        refine pn_ 33 51 (bm_ 39 17179869183) HT_ ?_
        refine pn_ 34 52 (bm_ 39 34359738367) HT_ ?_
        refine pn_ 35 53 (bm_ 39 68719476735) HT_ ?_
        refine pn_ 36 54 (bm_ 39 137438953471) HT_ ?_
        refine pn_ 37 55 (bm_ 39 274877906943) HT_ ?_
        refine pu_ 38 56 (bm_ 39 549755813887) HT_ ?_
        refine done_ (done_of HT_.out (by kernel_rfl)) ?_
        try go_wp2
        go_meet
        case rel=>exact⟨_,(true),eq_,H',⟨by have:=HK1.out;first|omega|exact Nat.le_refl _⟩,(bl_ HB)⟩
      ·rw[if_neg c9] at H
       have c9b0:(((rd_T39 l0 x15_1).f0)==((rd_T39 l1 x15_1).f0))=false:=beq_eq_false_iff_ne.mpr c9
       have c9b1:(((rd_T39 l0 x15_1).f0) !=((rd_T39 l1 x15_1).f0))=true:=bne_iff_ne.mpr c9
       have H':=Aside0.mk H
       clear H
       try go_wp2
       replace HB:=Aside0.mk (below_drew1 HB.out)
       have p676:0≤(x15_1:Int):=od_
       have q676:x15_1<(l0.length:Int):=od_
       obtain⟨ad676,A676_1,c676_1,e676,hx676_0,hx676_1,hx676_2,hl676_1,hi676_1⟩:=at_T39 HR0.out x15_1 p676 q676
       have hw676_2:=hx676_2
       have hw676_1:=hx676_1
       have hw676_0:=hx676_0
       cases e676
       replace hx676_0:=hbc_ HB hx676_0
       replace hx676_1:=hbc_ HB hx676_1
       replace hx676_2:=hbc_ HB hx676_2
       have HR676_1:=Aside0.mk hi676_1
       have HC676_1:=Aside0.mk hl676_1
       clear hi676_1 hl676_1
       replace p676:=eq_true p676
       replace q676:=eq_true q676
       have p677:0≤(x15_1:Int):=od_
       have q677:x15_1<(l1.length:Int):=od_
       obtain⟨ad677,A677_1,c677_1,e677,hx677_0,hx677_1,hx677_2,hl677_1,hi677_1⟩:=at_T39 HR1.out x15_1 p677 q677
       have hw677_2:=hx677_2
       have hw677_1:=hx677_1
       have hw677_0:=hx677_0
       cases e677
       replace hx677_0:=hbc_ HB hx677_0
       replace hx677_1:=hbc_ HB hx677_1
       replace hx677_2:=hbc_ HB hx677_2
       have HR677_1:=Aside0.mk hi677_1
       have HC677_1:=Aside0.mk hl677_1
       clear hi677_1 hl677_1
       replace p677:=eq_true p677
       replace q677:=eq_true q677
       refine start_ (n:=39) (S:=fun w'=>w'.cell? (ad676.add ((x15_1).toNat*3))=some (.int .i64 ((rd_T39 l0 x15_1).f0))∧w'.cell? ⟨(ad676.add ((x15_1).toNat*3)).block,(ad676.add ((x15_1).toNat*3)).off+1,none⟩=some (.slice A676_1 ((rd_T39 l0 x15_1).f1).length c676_1)∧w'.cell? ⟨(ad676.add ((x15_1).toNat*3)).block,(ad676.add ((x15_1).toNat*3)).off+2,none⟩=some (.string ((rd_T39 l0 x15_1).f2))∧w'.cell? (ad677.add ((x15_1).toNat*3))=some (.int .i64 ((rd_T39 l1 x15_1).f0))∧w'.cell? ⟨(ad677.add ((x15_1).toNat*3)).block,(ad677.add ((x15_1).toNat*3)).off+1,none⟩=some (.slice A677_1 ((rd_T39 l1 x15_1).f1).length c677_1)∧w'.cell? ⟨(ad677.add ((x15_1).toNat*3)).block,(ad677.add ((x15_1).toNat*3)).off+2,none⟩=some (.string ((rd_T39 l1 x15_1).f2))) (ds:=[]) #[false,false,false,false,false,false,false,false,false,false,false,false,false,false,false,false,false,false,false,false,false,false,false,false,false,false,false,false,false,false,false,false,false,false,false,false,false,false,false] (by kernel_rfl) rfl rfl ⟨(hbc_ HB hw676_0),(hbc_ HB hw676_1),(hbc_ HB hw676_2),(hbc_ HB hw677_0),(hbc_ HB hw677_1),(hbc_ HB hw677_2)⟩ (fun hHeld=>?_);refine with_tabW florinlaw06_Same.tab6 florinlaw06_Same.bits6 (fun HT_ HW_=>?_)
       generalize wr.drew=w13 at HB HR676_1 HR677_1 hx676_0 hx676_1 hx676_2 hx677_0 hx677_1 hx677_2 hHeld ⊢
       refine pu_ 0 18 (bm_ 39 1) HT_ ?_
       refine pu_ 1 19 (bm_ 39 3) HT_ ?_
       refine pu_ 2 20 (bm_ 39 7) HT_ ?_
       refine pu_ 3 21 (bm_ 39 15) HT_ ?_
       refine pu_ 5 23 (bm_ 39 47) HT_ ?_
       refine pu_ 6 24 (bm_ 39 111) HT_ ?_
       refine pu_ 7 25 (bm_ 39 239) HT_ ?_
       refine pu_ 8 26 (bm_ 39 495) HT_ ?_
       refine tk_ 4 22 (bm_ 39 511) HT_ HW_ hHeld rfl (by rintro w' ⟨s0,s1,s2,s3,s4,s5⟩;go_simp;with_reducible rfl) ?_
       refine tk_ 9 27 (bm_ 39 1023) HT_ HW_ hHeld rfl (by rintro w' ⟨s0,s1,s2,s3,s4,s5⟩;go_simp;with_reducible rfl) ?_
       refine pu_ 10 28 (bm_ 39 2047) HT_ ?_
       refine pu_ 11 29 (bm_ 39 4095) HT_ ?_
       refine pn_ 12 30 (bm_ 39 8191) HT_ ?_
       refine pn_ 13 31 (bm_ 39 16383) HT_ ?_
       refine pn_ 14 32 (bm_ 39 32767) HT_ ?_
       refine pn_ 15 33 (bm_ 39 65535) HT_ ?_
       refine pn_ 16 34 (bm_ 39 131071) HT_ ?_
       refine pn_ 17 35 (bm_ 39 262143) HT_ ?_
       refine pn_ 18 36 (bm_ 39 524287) HT_ ?_
       refine pn_ 19 37 (bm_ 39 1048575) HT_ ?_
       refine pn_ 20 38 (bm_ 39 2097151) HT_ ?_
       refine pn_ 21 39 (bm_ 39 4194303) HT_ ?_
       refine pn_ 22 40 (bm_ 39 8388607) HT_ ?_
       refine pu_ 23 41 (bm_ 39 16777215) HT_ ?_
       refine pu_ 24 42 (bm_ 39 33554431) HT_ ?_
       refine pn_ 25 43 (bm_ 39 67108863) HT_ ?_
       refine pn_ 26 44 (bm_ 39 134217727) HT_ ?_
       refine pn_ 27 45 (bm_ 39 268435455) HT_ ?_
       refine pn_ 28 46 (bm_ 39 536870911) HT_ ?_
       refine pn_ 29 47 (bm_ 39 1073741823) HT_ ?_
       refine pn_ 30 48 (bm_ 39 2147483647) HT_ ?_
       refine pn_ 31 49 (bm_ 39 4294967295) HT_ ?_
       refine pn_ 32 50 (bm_ 39 8589934591) HT_ ?_
       refine pn_ 33 51 (bm_ 39 17179869183) HT_ ?_
       refine pn_ 34 52 (bm_ 39 34359738367) HT_ ?_
       refine pn_ 35 53 (bm_ 39 68719476735) HT_ ?_
       refine pn_ 36 54 (bm_ 39 137438953471) HT_ ?_
       refine pn_ 37 55 (bm_ 39 274877906943) HT_ ?_
       refine pu_ 38 56 (bm_ 39 549755813887) HT_ ?_
       refine done_ (done_of HT_.out (by kernel_rfl)) ?_
       try go_wp2
       go_meet
       case rel=>exact⟨_,(true),eq_,H',⟨by have:=HK1.out;first|omega|exact Nat.le_refl _⟩,(bl_ HB)⟩
     case rest =>
      clear HC5
      obtain⟨kq,x56_4,rfl,HA,HJ4,HB⟩:=hcut
      cases kq with
      | zero=>exact absurd HA.out (by simp[florinlaw06_Same.j1])
      | succ kj4 =>
       have H:=HA.out
       clear HA
       simp only[florinlaw06_Same.j1] at H
       by_cases c14:x56_4=true
       ·subst c14
        have H1:(some false)=some r:=by rw[if_pos rfl] at H;exact H
        clear H
        have H:=H1
        clear H1
        obtain rfl:=Option.some.inj H
        go_wp2
        go_ret
        exact⟨ew_,(bl_ HB).out⟩
       ·replace c14:=Bool.eq_false_iff.mpr c14
        subst c14
        have H1:(if 0≤x15_1 then (if x15_1<(l0.length:Int) then (florinlaw06_Same.l1 kj4 l0 l1 x15_1 (l0.length:Int) x15_1 (((rd_T39 l0 x15_1).f1).length:Int) 0) else (none)) else (none))=some r:=by rw[if_neg (show ¬(false=true) by decide)] at H;exact H
        clear H
        have H:=H1
        clear H1
        replace H:=ifn_ H
        obtain⟨c15,H⟩:=H
        have c15b0:decide (0≤x15_1)=true:=decide_eq_true c15
        clear c15
        replace H:=ifn_ H
        obtain⟨c16,H⟩:=H
        have c16b0:decide (x15_1<(l0.length:Int))=true:=decide_eq_true c16
        clear c16
        have H':=Aside0.mk H
        clear H
        have p682:0≤(x15_1:Int):=od_
        have q682:x15_1<(l0.length:Int):=od_
        obtain⟨ad682,A682_1,c682_1,e682,hx682_0,hx682_1,hx682_2,hl682_1,hi682_1⟩:=at_T39 HR0.out x15_1 p682 q682
        cases e682
        replace hx682_0:=hbc_ HB hx682_0
        replace hx682_1:=hbc_ HB hx682_1
        replace hx682_2:=hbc_ HB hx682_2
        have HR682_1:=Aside0.mk hi682_1
        have HC682_1:=Aside0.mk hl682_1
        clear hi682_1 hl682_1
        replace p682:=eq_true p682
        replace q682:=eq_true q682
        go_wp2
        go_loopg [63] kj4 (fun kq v63 w'=>∃(x63_3:Int),v63= .int .i64 x63_3∧Aside0 (florinlaw06_Same.l1 kq l0 l1 x15_1 (l0.length:Int) x15_1 (((rd_T39 l0 x15_1).f1).length:Int) x63_3=some r)∧Aside0 (kq≤kj4)∧Aside0 (Below w.heap.size w w'))
        case atStart=>exact⟨(0),eq_,H',⟨Nat.le_refl _⟩,(bl_ HB)⟩
        case round =>
         clear H'
         obtain⟨x63_3,rfl,HA,HK3,HB⟩:=hrel
         cases gk with
         | zero=>exact absurd HA.out (by simp[florinlaw06_Same.l1])
         | succ k3 =>
          have H:=HA.out
          clear HA
          simp only[florinlaw06_Same.l1] at H
          by_cases c17:x63_3<(((rd_T39 l0 x15_1).f1).length:Int)
          ·rw[if_pos c17] at H
           have c17b0:=decide_eq_true c17
           clear c17
           replace H:=ifn_ H
           obtain⟨c18,H⟩:=H
           have c18b0:decide (0≤x15_1)=true:=decide_eq_true c18
           clear c18
           replace H:=ifn_ H
           obtain⟨c19,H⟩:=H
           have c19b0:decide (x15_1<(l0.length:Int))=true:=decide_eq_true c19
           clear c19
           replace H:=ifn_ H
           obtain⟨c20,H⟩:=H
           have c20b0:decide (0≤x63_3)=true:=decide_eq_true c20
           clear c20
           replace H:=ifn_ H
           obtain⟨c21,H⟩:=H
           have c21b0:decide (x63_3<(((rd_T39 l0 x15_1).f1).length:Int))=true:=decide_eq_true c21
           clear c21
           replace H:=ifn_ H
           obtain⟨c22,H⟩:=H
           have c22b0:decide (x15_1<(l1.length:Int))=true:=decide_eq_true c22
           clear c22
           replace H:=ifn_ H
           obtain⟨c23,H⟩:=H
           have c23b0:decide (x63_3<(((rd_T39 l1 x15_1).f1).length:Int))=true:=decide_eq_true c23
           clear c23
           by_cases c24:((rd_L7 ((rd_T39 l0 x15_1).f1) x63_3).length:Int)=((rd_L7 ((rd_T39 l1 x15_1).f1) x63_3).length:Int)
           ·rw[if_pos c24] at H
            have c24b0:(((rd_L7 ((rd_T39 l0 x15_1).f1) x63_3).length:Int)==((rd_L7 ((rd_T39 l1 x15_1).f1) x63_3).length:Int))=true:=beq_iff_eq.mpr c24
            have c24b1:(((rd_L7 ((rd_T39 l0 x15_1).f1) x63_3).length:Int) !=((rd_L7 ((rd_T39 l1 x15_1).f1) x63_3).length:Int))=false:=bne_eq_false_iff_eq.mpr c24
            have c24b2:((rd_L7 ((rd_T39 l0 x15_1).f1) x63_3).length==(rd_L7 ((rd_T39 l1 x15_1).f1) x63_3).length)=true:=by first|simpa using c24|(simp at c24 ⊢;omega)
            clear c24
            have H':=Aside0.mk H
            clear H
            try go_wp2
            replace HB:=Aside0.mk (below_drew1 HB.out)
            have p683:0≤(x15_1:Int):=od_
            have q683:x15_1<(l0.length:Int):=od_
            obtain⟨ad683,A683_1,c683_1,e683,hx683_0,hx683_1,hx683_2,hl683_1,hi683_1⟩:=at_T39 HR0.out x15_1 p683 q683
            have hw683_2:=hx683_2
            have hw683_1:=hx683_1
            have hw683_0:=hx683_0
            obtain rfl:ad682=ad683:=(by injection e683)
            replace hx683_0:=hbc_ HB hx683_0
            replace hx683_1:=hbc_ HB hx683_1
            replace hx683_2:=hbc_ HB hx683_2
            have HR683_1:=Aside0.mk hi683_1
            have HC683_1:=Aside0.mk hl683_1
            clear hi683_1 hl683_1
            replace p683:=eq_true p683
            replace q683:=eq_true q683
            have p684:0≤(x63_3:Int):=od_
            have q684:x63_3<(((rd_T39 l0 x15_1).f1).length:Int):=od_
            obtain⟨ad684,A684_0,c684_0,e684,hx684_0,hl684_0,hi684_0⟩:=at_L7 HR683_1.out x63_3 p684 q684
            have hw684_0:=hx684_0
            cases e684
            replace hx684_0:=hbc_ HB hx684_0
            have HR684_0:=Aside0.mk hi684_0
            have HC684_0:=Aside0.mk hl684_0
            clear hi684_0 hl684_0
            replace p684:=eq_true p684
            replace q684:=eq_true q684
            have p685:0≤(x15_1:Int):=od_
            have q685:x15_1<(l1.length:Int):=od_
            obtain⟨ad685,A685_1,c685_1,e685,hx685_0,hx685_1,hx685_2,hl685_1,hi685_1⟩:=at_T39 HR1.out x15_1 p685 q685
            have hw685_2:=hx685_2
            have hw685_1:=hx685_1
            have hw685_0:=hx685_0
            cases e685
            replace hx685_0:=hbc_ HB hx685_0
            replace hx685_1:=hbc_ HB hx685_1
            replace hx685_2:=hbc_ HB hx685_2
            have HR685_1:=Aside0.mk hi685_1
            have HC685_1:=Aside0.mk hl685_1
            clear hi685_1 hl685_1
            replace p685:=eq_true p685
            replace q685:=eq_true q685
            have p686:0≤(x63_3:Int):=od_
            have q686:x63_3<(((rd_T39 l1 x15_1).f1).length:Int):=od_
            obtain⟨ad686,A686_0,c686_0,e686,hx686_0,hl686_0,hi686_0⟩:=at_L7 HR685_1.out x63_3 p686 q686
            have hw686_0:=hx686_0
            cases e686
            replace hx686_0:=hbc_ HB hx686_0
            have HR686_0:=Aside0.mk hi686_0
            have HC686_0:=Aside0.mk hl686_0
            clear hi686_0 hl686_0
            replace p686:=eq_true p686
            replace q686:=eq_true q686
            refine start_ (n:=19) (S:=fun w'=>w'.cell? (ad682.add ((x15_1).toNat*3))=some (.int .i64 ((rd_T39 l0 x15_1).f0))∧w'.cell? ⟨(ad682.add ((x15_1).toNat*3)).block,(ad682.add ((x15_1).toNat*3)).off+1,none⟩=some (.slice (some ad684) ((rd_T39 l0 x15_1).f1).length c683_1)∧w'.cell? ⟨(ad682.add ((x15_1).toNat*3)).block,(ad682.add ((x15_1).toNat*3)).off+2,none⟩=some (.string ((rd_T39 l0 x15_1).f2))∧w'.cell? (ad684.add (x63_3).toNat)=some (.slice A684_0 (rd_L7 ((rd_T39 l0 x15_1).f1) x63_3).length c684_0)∧w'.cell? (ad685.add ((x15_1).toNat*3))=some (.int .i64 ((rd_T39 l1 x15_1).f0))∧w'.cell? ⟨(ad685.add ((x15_1).toNat*3)).block,(ad685.add ((x15_1).toNat*3)).off+1,none⟩=some (.slice (some ad686) ((rd_T39 l1 x15_1).f1).length c685_1)∧w'.cell? ⟨(ad685.add ((x15_1).toNat*3)).block,(ad685.add ((x15_1).toNat*3)).off+2,none⟩=some (.string ((rd_T39 l1 x15_1).f2))∧w'.cell? (ad686.add (x63_3).toNat)=some (.slice A686_0 (rd_L7 ((rd_T39 l1 x15_1).f1) x63_3).length c686_0)) (ds:=[]) #[false,false,false,false,false,false,false,false,false,false,false,false,false,false,false,false,false,false,false] (by kernel_rfl) rfl rfl ⟨(hbc_ HB hw683_0),(hbc_ HB hw683_1),(hbc_ HB hw683_2),(hbc_ HB hw684_0),(hbc_ HB hw685_0),(hbc_ HB hw685_1),(hbc_ HB hw685_2),(hbc_ HB hw686_0)⟩ (fun hHeld=>?_);refine with_tabW florinlaw06_Same.tab11 florinlaw06_Same.bits11 (fun HT_ HW_=>?_)
            generalize wr.drew=w25 at HB HR683_1 HR684_0 HR685_1 HR686_0 hx683_0 hx683_1 hx683_2 hx684_0 hx685_0 hx685_1 hx685_2 hx686_0 hHeld ⊢
            refine pu_ 0 66 (bm_ 19 1) HT_ ?_
            refine pu_ 1 67 (bm_ 19 3) HT_ ?_
            refine pu_ 2 68 (bm_ 19 7) HT_ ?_
            refine pu_ 3 69 (bm_ 19 15) HT_ ?_
            refine pu_ 5 71 (bm_ 19 47) HT_ ?_
            refine pu_ 9 75 (bm_ 19 559) HT_ ?_
            refine pu_ 10 76 (bm_ 19 1583) HT_ ?_
            refine pu_ 11 77 (bm_ 19 3631) HT_ ?_
            refine pu_ 12 78 (bm_ 19 7727) HT_ ?_
            refine pu_ 14 80 (bm_ 19 24111) HT_ ?_
            refine tk_ 4 70 (bm_ 19 24127) HT_ HW_ hHeld rfl (by rintro w' ⟨s0,s1,s2,s3,s4,s5,s6,s7⟩;go_simp;with_reducible rfl) ?_
            refine pu_ 6 72 (bm_ 19 24191) HT_ ?_
            refine tk_ 7 73 (bm_ 19 24319) HT_ HW_ hHeld rfl (by rintro w' ⟨s0,s1,s2,s3,s4,s5,s6,s7⟩;go_simp;with_reducible rfl) ?_
            refine pu_ 8 74 (bm_ 19 24575) HT_ ?_
            refine tk_ 13 79 (bm_ 19 32767) HT_ HW_ hHeld rfl (by rintro w' ⟨s0,s1,s2,s3,s4,s5,s6,s7⟩;go_simp;with_reducible rfl) ?_
            refine pu_ 15 81 (bm_ 19 65535) HT_ ?_
            refine tk_ 16 82 (bm_ 19 131071) HT_ HW_ hHeld rfl (by rintro w' ⟨s0,s1,s2,s3,s4,s5,s6,s7⟩;go_simp;with_reducible rfl) ?_
            refine pu_ 17 83 (bm_ 19 262143) HT_ ?_
            refine pu_ 18 84 (bm_ 19 524287) HT_ ?_
            refine done_ (done_of HT_.out (by kernel_rfl)) ?_
            have p687:0≤(x15_1:Int):=od_
            have q687:x15_1<(l0.length:Int):=od_
            obtain⟨ad687,A687_1,c687_1,e687,hx687_0,hx687_1,hx687_2,hl687_1,hi687_1⟩:=at_T39 HR0.out x15_1 p687 q687
            obtain rfl:ad682=ad687:=(by injection e687)
            replace hx687_0:=hbc_ HB hx687_0
            replace hx687_1:=hbc_ HB hx687_1
            replace hx687_2:=hbc_ HB hx687_2
            have HR687_1:=Aside0.mk hi687_1
            have HC687_1:=Aside0.mk hl687_1
            clear hi687_1 hl687_1
            replace p687:=eq_true p687
            replace q687:=eq_true q687
            have ea_:=Option.some.inj (hx683_1.symm.trans hx687_1)
            injection ea_ with ea_ en_ ec_
            subst ea_
            subst ec_
            clear en_
            have p688:0≤(x63_3:Int):=od_
            have q688:x63_3<(((rd_T39 l0 x15_1).f1).length:Int):=od_
            obtain⟨ad688,A688_0,c688_0,e688,hx688_0,hl688_0,hi688_0⟩:=at_L7 HR687_1.out x63_3 p688 q688
            cases e688
            replace hx688_0:=hbc_ HB hx688_0
            have HR688_0:=Aside0.mk hi688_0
            have HC688_0:=Aside0.mk hl688_0
            clear hi688_0 hl688_0
            replace p688:=eq_true p688
            replace q688:=eq_true q688
            have ea_:=Option.some.inj (hx684_0.symm.trans hx688_0)
            injection ea_ with ea_ en_ ec_
            subst ea_
            subst ec_
            clear en_
            try go_wp2
            go_loopg [94] k3 (fun kq v94 w'=>∃(x94_4:Int),v94= .int .i64 x94_4∧Aside0 (florinlaw06_Same.l2 kq l0 l1 x15_1 x63_3 (l0.length:Int) x15_1 (((rd_T39 l0 x15_1).f1).length:Int) x63_3 ((rd_L7 ((rd_T39 l0 x15_1).f1) x63_3).length:Int) x94_4=some r)∧Aside0 (kq≤k3)∧Aside0 (Below w.heap.size w w'))
            case atStart=>exact⟨(0),eq_,H',⟨Nat.le_refl _⟩,(bl_ HB)⟩
            case round =>
             clear H'
             obtain⟨x94_4,rfl,HA,HK4,HB⟩:=hrel
             cases gk with
             | zero=>exact absurd HA.out (by simp[florinlaw06_Same.l2])
             | succ k4 =>
              have H:=HA.out
              clear HA
              simp only[florinlaw06_Same.l2] at H
              by_cases c26:x94_4<((rd_L7 ((rd_T39 l0 x15_1).f1) x63_3).length:Int)
              ·rw[if_pos c26] at H
               have c26b0:=decide_eq_true c26
               clear c26
               replace H:=ifn_ H
               obtain⟨c27,H⟩:=H
               have c27b0:decide (0≤x15_1)=true:=decide_eq_true c27
               clear c27
               replace H:=ifn_ H
               obtain⟨c28,H⟩:=H
               have c28b0:decide (x15_1<(l0.length:Int))=true:=decide_eq_true c28
               clear c28
               replace H:=ifn_ H
               obtain⟨c29,H⟩:=H
               have c29b0:decide (0≤x63_3)=true:=decide_eq_true c29
               clear c29
               replace H:=ifn_ H
               obtain⟨c30,H⟩:=H
               have c30b0:decide (x63_3<(((rd_T39 l0 x15_1).f1).length:Int))=true:=decide_eq_true c30
               clear c30
               replace H:=ifn_ H
               obtain⟨c31,H⟩:=H
               have c31b0:decide (0≤x94_4)=true:=decide_eq_true c31
               clear c31
               replace H:=ifn_ H
               obtain⟨c32,H⟩:=H
               have c32b0:decide (x94_4<((rd_L7 ((rd_T39 l0 x15_1).f1) x63_3).length:Int))=true:=decide_eq_true c32
               clear c32
               replace H:=ifn_ H
               obtain⟨c33,H⟩:=H
               have c33b0:decide (x15_1<(l1.length:Int))=true:=decide_eq_true c33
               clear c33
               replace H:=ifn_ H
               obtain⟨c34,H⟩:=H
               have c34b0:decide (x63_3<(((rd_T39 l1 x15_1).f1).length:Int))=true:=decide_eq_true c34
               clear c34
               replace H:=ifn_ H
               obtain⟨c35,H⟩:=H
               have c35b0:decide (x94_4<((rd_L7 ((rd_T39 l1 x15_1).f1) x63_3).length:Int))=true:=decide_eq_true c35
               clear c35
               replace H:=Option.bind_eq_some_iff.mp H
               obtain⟨t695,A360,H⟩:=H
               replace H:(if t695=true then (florinlaw06_Same.l2 k4 l0 l1 x15_1 x63_3 (l0.length:Int) x15_1 (((rd_T39 l0 x15_1).f1).length:Int) x63_3 ((rd_L7 ((rd_T39 l0 x15_1).f1) x63_3).length:Int) (wrap64 (x94_4+1))) else (some false))=some r:=H
               have A36:=Aside0.mk A360
               clear A360
               by_cases c37:t695=true
               ·subst c37
                have H1:(florinlaw06_Same.l2 k4 l0 l1 x15_1 x63_3 (l0.length:Int) x15_1 (((rd_T39 l0 x15_1).f1).length:Int) x63_3 ((rd_L7 ((rd_T39 l0 x15_1).f1) x63_3).length:Int) (wrap64 (x94_4+1)))=some r:=by rw[if_pos rfl] at H;exact H
                clear H
                have H:=H1
                clear H1
                have H':=Aside0.mk H
                clear H
                try go_wp2
                replace HB:=Aside0.mk (below_drew1 HB.out)
                have p689:0≤(x15_1:Int):=od_
                have q689:x15_1<(l0.length:Int):=od_
                obtain⟨ad689,A689_1,c689_1,e689,hx689_0,hx689_1,hx689_2,hl689_1,hi689_1⟩:=at_T39 HR0.out x15_1 p689 q689
                have hw689_2:=hx689_2
                have hw689_1:=hx689_1
                have hw689_0:=hx689_0
                obtain rfl:ad682=ad689:=(by injection e689)
                replace hx689_0:=hbc_ HB hx689_0
                replace hx689_1:=hbc_ HB hx689_1
                replace hx689_2:=hbc_ HB hx689_2
                have HR689_1:=Aside0.mk hi689_1
                have HC689_1:=Aside0.mk hl689_1
                clear hi689_1 hl689_1
                replace p689:=eq_true p689
                replace q689:=eq_true q689
                have p690:0≤(x63_3:Int):=od_
                have q690:x63_3<(((rd_T39 l0 x15_1).f1).length:Int):=od_
                obtain⟨ad690,A690_0,c690_0,e690,hx690_0,hl690_0,hi690_0⟩:=at_L7 HR689_1.out x63_3 p690 q690
                have hw690_0:=hx690_0
                cases e690
                replace hx690_0:=hbc_ HB hx690_0
                have HR690_0:=Aside0.mk hi690_0
                have HC690_0:=Aside0.mk hl690_0
                clear hi690_0 hl690_0
                replace p690:=eq_true p690
                replace q690:=eq_true q690
                have p691:0≤(x94_4:Int):=od_
                have q691:x94_4<((rd_L7 ((rd_T39 l0 x15_1).f1) x63_3).length:Int):=od_
                obtain⟨ad691,A691_3,c691_3,e691,hx691_0,hx691_1,hx691_2,hx691_3,hl691_3,hi691_3⟩:=at_T43 HR690_0.out x94_4 p691 q691
                have hw691_3:=hx691_3
                have hw691_2:=hx691_2
                have hw691_1:=hx691_1
                have hw691_0:=hx691_0
                cases e691
                replace hx691_0:=hbc_ HB hx691_0
                replace hx691_1:=hbc_ HB hx691_1
                replace hx691_2:=hbc_ HB hx691_2
                replace hx691_3:=hbc_ HB hx691_3
                have HR691_3:=Aside0.mk hi691_3
                have HC691_3:=Aside0.mk hl691_3
                clear hi691_3 hl691_3
                replace p691:=eq_true p691
                replace q691:=eq_true q691
                have p692:0≤(x15_1:Int):=od_
                have q692:x15_1<(l1.length:Int):=od_
                obtain⟨ad692,A692_1,c692_1,e692,hx692_0,hx692_1,hx692_2,hl692_1,hi692_1⟩:=at_T39 HR1.out x15_1 p692 q692
                have hw692_2:=hx692_2
                have hw692_1:=hx692_1
                have hw692_0:=hx692_0
                obtain rfl:ad685=ad692:=(by injection e692)
                replace hx692_0:=hbc_ HB hx692_0
                replace hx692_1:=hbc_ HB hx692_1
                replace hx692_2:=hbc_ HB hx692_2
                have HR692_1:=Aside0.mk hi692_1
                have HC692_1:=Aside0.mk hl692_1
                clear hi692_1 hl692_1
                replace p692:=eq_true p692
                replace q692:=eq_true q692
                have p693:0≤(x63_3:Int):=od_
                have q693:x63_3<(((rd_T39 l1 x15_1).f1).length:Int):=od_
                obtain⟨ad693,A693_0,c693_0,e693,hx693_0,hl693_0,hi693_0⟩:=at_L7 HR692_1.out x63_3 p693 q693
                have hw693_0:=hx693_0
                cases e693
                replace hx693_0:=hbc_ HB hx693_0
                have HR693_0:=Aside0.mk hi693_0
                have HC693_0:=Aside0.mk hl693_0
                clear hi693_0 hl693_0
                replace p693:=eq_true p693
                replace q693:=eq_true q693
                have p694:0≤(x94_4:Int):=od_
                have q694:x94_4<((rd_L7 ((rd_T39 l1 x15_1).f1) x63_3).length:Int):=od_
                obtain⟨ad694,A694_3,c694_3,e694,hx694_0,hx694_1,hx694_2,hx694_3,hl694_3,hi694_3⟩:=at_T43 HR693_0.out x94_4 p694 q694
                have hw694_3:=hx694_3
                have hw694_2:=hx694_2
                have hw694_1:=hx694_1
                have hw694_0:=hx694_0
                cases e694
                replace hx694_0:=hbc_ HB hx694_0
                replace hx694_1:=hbc_ HB hx694_1
                replace hx694_2:=hbc_ HB hx694_2
                replace hx694_3:=hbc_ HB hx694_3
                have HR694_3:=Aside0.mk hi694_3
                have HC694_3:=Aside0.mk hl694_3
                clear hi694_3 hl694_3
                replace p694:=eq_true p694
                replace q694:=eq_true q694
                refine start_ (n:=24) (S:=fun w'=>w'.cell? (ad682.add ((x15_1).toNat*3))=some (.int .i64 ((rd_T39 l0 x15_1).f0))∧w'.cell? ⟨(ad682.add ((x15_1).toNat*3)).block,(ad682.add ((x15_1).toNat*3)).off+1,none⟩=some (.slice (some ad690) ((rd_T39 l0 x15_1).f1).length c689_1)∧w'.cell? ⟨(ad682.add ((x15_1).toNat*3)).block,(ad682.add ((x15_1).toNat*3)).off+2,none⟩=some (.string ((rd_T39 l0 x15_1).f2))∧w'.cell? (ad690.add (x63_3).toNat)=some (.slice (some ad691) (rd_L7 ((rd_T39 l0 x15_1).f1) x63_3).length c690_0)∧w'.cell? (ad691.add ((x94_4).toNat*4))=some (.int .u8 ((rd_T43 (rd_L7 ((rd_T39 l0 x15_1).f1) x63_3) x94_4).f0))∧w'.cell? ⟨(ad691.add ((x94_4).toNat*4)).block,(ad691.add ((x94_4).toNat*4)).off+1,none⟩=some (.int .i64 ((rd_T43 (rd_L7 ((rd_T39 l0 x15_1).f1) x63_3) x94_4).f1))∧w'.cell? ⟨(ad691.add ((x94_4).toNat*4)).block,(ad691.add ((x94_4).toNat*4)).off+2,none⟩=some (.bool ((rd_T43 (rd_L7 ((rd_T39 l0 x15_1).f1) x63_3) x94_4).f2))∧w'.cell? ⟨(ad691.add ((x94_4).toNat*4)).block,(ad691.add ((x94_4).toNat*4)).off+3,none⟩=some (.slice A691_3 ((rd_T43 (rd_L7 ((rd_T39 l0 x15_1).f1) x63_3) x94_4).f3).length c691_3)∧w'.cell? (ad685.add ((x15_1).toNat*3))=some (.int .i64 ((rd_T39 l1 x15_1).f0))∧w'.cell? ⟨(ad685.add ((x15_1).toNat*3)).block,(ad685.add ((x15_1).toNat*3)).off+1,none⟩=some (.slice (some ad693) ((rd_T39 l1 x15_1).f1).length c692_1)∧w'.cell? ⟨(ad685.add ((x15_1).toNat*3)).block,(ad685.add ((x15_1).toNat*3)).off+2,none⟩=some (.string ((rd_T39 l1 x15_1).f2))∧w'.cell? (ad693.add (x63_3).toNat)=some (.slice (some ad694) (rd_L7 ((rd_T39 l1 x15_1).f1) x63_3).length c693_0)∧w'.cell? (ad694.add ((x94_4).toNat*4))=some (.int .u8 ((rd_T43 (rd_L7 ((rd_T39 l1 x15_1).f1) x63_3) x94_4).f0))∧w'.cell? ⟨(ad694.add ((x94_4).toNat*4)).block,(ad694.add ((x94_4).toNat*4)).off+1,none⟩=some (.int .i64 ((rd_T43 (rd_L7 ((rd_T39 l1 x15_1).f1) x63_3) x94_4).f1))∧w'.cell? ⟨(ad694.add ((x94_4).toNat*4)).block,(ad694.add ((x94_4).toNat*4)).off+2,none⟩=some (.bool ((rd_T43 (rd_L7 ((rd_T39 l1 x15_1).f1) x63_3) x94_4).f2))∧w'.cell? ⟨(ad694.add ((x94_4).toNat*4)).block,(ad694.add ((x94_4).toNat*4)).off+3,none⟩=some (.slice A694_3 ((rd_T43 (rd_L7 ((rd_T39 l1 x15_1).f1) x63_3) x94_4).f3).length c694_3)) (ds:=[]) #[false,false,false,false,false,false,false,false,false,false,false,false,false,false,false,false,false,false,false,false,false,false,false,false] (by kernel_rfl) rfl rfl ⟨(hbc_ HB hw689_0),(hbc_ HB hw689_1),(hbc_ HB hw689_2),(hbc_ HB hw690_0),(hbc_ HB hw691_0),(hbc_ HB hw691_1),(hbc_ HB hw691_2),(hbc_ HB hw691_3),(hbc_ HB hw692_0),(hbc_ HB hw692_1),(hbc_ HB hw692_2),(hbc_ HB hw693_0),(hbc_ HB hw694_0),(hbc_ HB hw694_1),(hbc_ HB hw694_2),(hbc_ HB hw694_3)⟩ (fun hHeld=>?_);refine with_tabW florinlaw06_Same.tab16 florinlaw06_Same.bits16 (fun HT_ HW_=>?_)
                generalize wr.drew=w38 at HB HR689_1 HR690_0 HR691_3 HR692_1 HR693_0 HR694_3 hx689_0 hx689_1 hx689_2 hx690_0 hx691_0 hx691_1 hx691_2 hx691_3 hx692_0 hx692_1 hx692_2 hx693_0 hx694_0 hx694_1 hx694_2 hx694_3 hHeld ⊢
                refine pu_ 0 97 (bm_ 24 1) HT_ ?_
                refine pu_ 1 98 (bm_ 24 3) HT_ ?_
                refine pu_ 2 99 (bm_ 24 7) HT_ ?_
                refine pu_ 3 100 (bm_ 24 15) HT_ ?_
                refine pu_ 5 102 (bm_ 24 47) HT_ ?_
                refine pu_ 8 105 (bm_ 24 303) HT_ ?_
                refine pu_ 11 108 (bm_ 24 2351) HT_ ?_
                refine pu_ 12 109 (bm_ 24 6447) HT_ ?_
                refine pu_ 13 110 (bm_ 24 14639) HT_ ?_
                refine pu_ 14 111 (bm_ 24 31023) HT_ ?_
                refine pu_ 16 113 (bm_ 24 96559) HT_ ?_
                refine pu_ 19 116 (bm_ 24 620847) HT_ ?_
                refine tk_ 4 101 (bm_ 24 620863) HT_ HW_ hHeld rfl (by rintro w' ⟨s0,s1,s2,s3,s4,s5,s6,s7,s8,s9,s10,s11,s12,s13,s14,s15⟩;go_simp;with_reducible rfl) ?_
                refine pu_ 6 103 (bm_ 24 620927) HT_ ?_
                refine tk_ 7 104 (bm_ 24 621055) HT_ HW_ hHeld rfl (by rintro w' ⟨s0,s1,s2,s3,s4,s5,s6,s7,s8,s9,s10,s11,s12,s13,s14,s15⟩;go_simp;with_reducible rfl) ?_
                refine pu_ 9 106 (bm_ 24 621567) HT_ ?_
                refine tk_ 10 107 (bm_ 24 622591) HT_ HW_ hHeld rfl (by rintro w' ⟨s0,s1,s2,s3,s4,s5,s6,s7,s8,s9,s10,s11,s12,s13,s14,s15⟩;go_simp;with_reducible rfl) ?_
                refine tk_ 15 112 (bm_ 24 655359) HT_ HW_ hHeld rfl (by rintro w' ⟨s0,s1,s2,s3,s4,s5,s6,s7,s8,s9,s10,s11,s12,s13,s14,s15⟩;go_simp;with_reducible rfl) ?_
                refine pu_ 17 114 (bm_ 24 786431) HT_ ?_
                refine tk_ 18 115 (bm_ 24 1048575) HT_ HW_ hHeld rfl (by rintro w' ⟨s0,s1,s2,s3,s4,s5,s6,s7,s8,s9,s10,s11,s12,s13,s14,s15⟩;go_simp;with_reducible rfl) ?_
                refine pu_ 20 117 (bm_ 24 2097151) HT_ ?_
                refine tk_ 21 118 (bm_ 24 4194303) HT_ HW_ hHeld rfl (by rintro w' ⟨s0,s1,s2,s3,s4,s5,s6,s7,s8,s9,s10,s11,s12,s13,s14,s15⟩;go_simp;with_reducible rfl) ?_
                refine one_ (i:=22) (N:=some 119) (bm_ 24 8388607) rfl rfl (one_of HT_.out (by kernel_rfl)) (by decide) (fun K hK=>?_)
                refine gs_ Tryz.func18 #[.agg #[.int .u8 ((rd_T43 (rd_L7 ((rd_T39 l0 x15_1).f1) x63_3) x94_4).f0),.int .i64 ((rd_T43 (rd_L7 ((rd_T39 l0 x15_1).f1) x63_3) x94_4).f1),.bool ((rd_T43 (rd_L7 ((rd_T39 l0 x15_1).f1) x63_3) x94_4).f2),.slice A691_3 ((rd_T43 (rd_L7 ((rd_T39 l0 x15_1).f1) x63_3) x94_4).f3).length c691_3],.agg #[.int .u8 ((rd_T43 (rd_L7 ((rd_T39 l1 x15_1).f1) x63_3) x94_4).f0),.int .i64 ((rd_T43 (rd_L7 ((rd_T39 l1 x15_1).f1) x63_3) x94_4).f1),.bool ((rd_T43 (rd_L7 ((rd_T39 l1 x15_1).f1) x63_3) x94_4).f2),.slice A694_3 ((rd_T43 (rd_L7 ((rd_T39 l1 x15_1).f1) x63_3) x94_4).f3).length c694_3]] ?_
                with_reducible refine(florinlaw06_sameRel.calls k4 ((rd_T43 (rd_L7 ((rd_T39 l0 x15_1).f1) x63_3) x94_4).f0) ((rd_T43 (rd_L7 ((rd_T39 l0 x15_1).f1) x63_3) x94_4).f1) ((rd_T43 (rd_L7 ((rd_T39 l0 x15_1).f1) x63_3) x94_4).f2) _ _ ((rd_T43 (rd_L7 ((rd_T39 l0 x15_1).f1) x63_3) x94_4).f3) ((rd_T43 (rd_L7 ((rd_T39 l1 x15_1).f1) x63_3) x94_4).f0) ((rd_T43 (rd_L7 ((rd_T39 l1 x15_1).f1) x63_3) x94_4).f1) ((rd_T43 (rd_L7 ((rd_T39 l1 x15_1).f1) x63_3) x94_4).f2) _ _ ((rd_T43 (rd_L7 ((rd_T39 l1 x15_1).f1) x63_3) x94_4).f3) true _ ?side1 ?side2 ?side3 ?side4 A36.out).mono ?_
                (case side1=>repeat(first|exact(Kd.C_below HR691_3.out HB.out)|(with_reducible refine Kd.C_alloc ?_ _)|(with_reducible refine Kd.C_drewN ?_ _)|(with_reducible refine Kd.C_drew ?_)))
                (case side2=>exact HC691_3.out)
                (case side3=>repeat(first|exact(Kd.C_below HR694_3.out HB.out)|(with_reducible refine Kd.C_alloc ?_ _)|(with_reducible refine Kd.C_drewN ?_ _)|(with_reducible refine Kd.C_drew ?_)))
                (case side4=>exact HC694_3.out)
                rintro e w39 ⟨rfl,hb⟩
                refine⟨_,rfl,?_⟩
                replace HB:=Aside0.mk (below_step (bl_ HB).out hb)
                (try clear hb)
                (try clear hb2)
                (try clear hk)
                (try clear hi)
                refine hK.out _ _ ⟨(hbc_ HB hw689_0),(hbc_ HB hw689_1),(hbc_ HB hw689_2),(hbc_ HB hw690_0),(hbc_ HB hw691_0),(hbc_ HB hw691_1),(hbc_ HB hw691_2),(hbc_ HB hw691_3),(hbc_ HB hw692_0),(hbc_ HB hw692_1),(hbc_ HB hw692_2),(hbc_ HB hw693_0),(hbc_ HB hw694_0),(hbc_ HB hw694_1),(hbc_ HB hw694_2),(hbc_ HB hw694_3)⟩ (fun hHeld=>?_)
                clear hK K
                refine nm_ 119 ?_
                refine pu_ 23 120 (bm_ 24 16777215) HT_ ?_
                refine done_ (done_of HT_.out (by kernel_rfl)) ?_
                try go_wp2
                go_roundg k4
                case measure=>have:=HK1.out;have:=HJ4.out;have:=HK3.out;have:=HK4.out;omega
                case rel=>exact⟨(wrap64 (x94_4+1)),eq_,H',⟨by have:=HK1.out;have:=HJ4.out;have:=HK3.out;have:=HK4.out;omega⟩,(bl_ HB)⟩
               ·replace c37:=Bool.eq_false_iff.mpr c37
                subst c37
                have H1:(some false)=some r:=by rw[if_neg (show ¬(false=true) by decide)] at H;exact H
                clear H
                have H:=H1
                clear H1
                obtain rfl:=Option.some.inj H
                try go_wp2
                replace HB:=Aside0.mk (below_drew1 HB.out)
                have p689:0≤(x15_1:Int):=od_
                have q689:x15_1<(l0.length:Int):=od_
                obtain⟨ad689,A689_1,c689_1,e689,hx689_0,hx689_1,hx689_2,hl689_1,hi689_1⟩:=at_T39 HR0.out x15_1 p689 q689
                have hw689_2:=hx689_2
                have hw689_1:=hx689_1
                have hw689_0:=hx689_0
                obtain rfl:ad682=ad689:=(by injection e689)
                replace hx689_0:=hbc_ HB hx689_0
                replace hx689_1:=hbc_ HB hx689_1
                replace hx689_2:=hbc_ HB hx689_2
                have HR689_1:=Aside0.mk hi689_1
                have HC689_1:=Aside0.mk hl689_1
                clear hi689_1 hl689_1
                replace p689:=eq_true p689
                replace q689:=eq_true q689
                have p690:0≤(x63_3:Int):=od_
                have q690:x63_3<(((rd_T39 l0 x15_1).f1).length:Int):=od_
                obtain⟨ad690,A690_0,c690_0,e690,hx690_0,hl690_0,hi690_0⟩:=at_L7 HR689_1.out x63_3 p690 q690
                have hw690_0:=hx690_0
                cases e690
                replace hx690_0:=hbc_ HB hx690_0
                have HR690_0:=Aside0.mk hi690_0
                have HC690_0:=Aside0.mk hl690_0
                clear hi690_0 hl690_0
                replace p690:=eq_true p690
                replace q690:=eq_true q690
                have p691:0≤(x94_4:Int):=od_
                have q691:x94_4<((rd_L7 ((rd_T39 l0 x15_1).f1) x63_3).length:Int):=od_
                obtain⟨ad691,A691_3,c691_3,e691,hx691_0,hx691_1,hx691_2,hx691_3,hl691_3,hi691_3⟩:=at_T43 HR690_0.out x94_4 p691 q691
                have hw691_3:=hx691_3
                have hw691_2:=hx691_2
                have hw691_1:=hx691_1
                have hw691_0:=hx691_0
                cases e691
                replace hx691_0:=hbc_ HB hx691_0
                replace hx691_1:=hbc_ HB hx691_1
                replace hx691_2:=hbc_ HB hx691_2
                replace hx691_3:=hbc_ HB hx691_3
                have HR691_3:=Aside0.mk hi691_3
                have HC691_3:=Aside0.mk hl691_3
                clear hi691_3 hl691_3
                replace p691:=eq_true p691
                replace q691:=eq_true q691
                have p692:0≤(x15_1:Int):=od_
                have q692:x15_1<(l1.length:Int):=od_
                obtain⟨ad692,A692_1,c692_1,e692,hx692_0,hx692_1,hx692_2,hl692_1,hi692_1⟩:=at_T39 HR1.out x15_1 p692 q692
                have hw692_2:=hx692_2
                have hw692_1:=hx692_1
                have hw692_0:=hx692_0
                obtain rfl:ad685=ad692:=(by injection e692)
                replace hx692_0:=hbc_ HB hx692_0
                replace hx692_1:=hbc_ HB hx692_1
                replace hx692_2:=hbc_ HB hx692_2
                have HR692_1:=Aside0.mk hi692_1
                have HC692_1:=Aside0.mk hl692_1
                clear hi692_1 hl692_1
                replace p692:=eq_true p692
                replace q692:=eq_true q692
                have p693:0≤(x63_3:Int):=od_
                have q693:x63_3<(((rd_T39 l1 x15_1).f1).length:Int):=od_
                obtain⟨ad693,A693_0,c693_0,e693,hx693_0,hl693_0,hi693_0⟩:=at_L7 HR692_1.out x63_3 p693 q693
                have hw693_0:=hx693_0
                cases e693
                replace hx693_0:=hbc_ HB hx693_0
                have HR693_0:=Aside0.mk hi693_0
                have HC693_0:=Aside0.mk hl693_0
                clear hi693_0 hl693_0
                replace p693:=eq_true p693
                replace q693:=eq_true q693
                have p694:0≤(x94_4:Int):=od_
                have q694:x94_4<((rd_L7 ((rd_T39 l1 x15_1).f1) x63_3).length:Int):=od_
                obtain⟨ad694,A694_3,c694_3,e694,hx694_0,hx694_1,hx694_2,hx694_3,hl694_3,hi694_3⟩:=at_T43 HR693_0.out x94_4 p694 q694
                have hw694_3:=hx694_3
                have hw694_2:=hx694_2
                have hw694_1:=hx694_1
                have hw694_0:=hx694_0
                cases e694
                replace hx694_0:=hbc_ HB hx694_0
                replace hx694_1:=hbc_ HB hx694_1
                replace hx694_2:=hbc_ HB hx694_2
                replace hx694_3:=hbc_ HB hx694_3
                have HR694_3:=Aside0.mk hi694_3
                have HC694_3:=Aside0.mk hl694_3
                clear hi694_3 hl694_3
                replace p694:=eq_true p694
                replace q694:=eq_true q694
                refine start_ (n:=24) (S:=fun w'=>w'.cell? (ad682.add ((x15_1).toNat*3))=some (.int .i64 ((rd_T39 l0 x15_1).f0))∧w'.cell? ⟨(ad682.add ((x15_1).toNat*3)).block,(ad682.add ((x15_1).toNat*3)).off+1,none⟩=some (.slice (some ad690) ((rd_T39 l0 x15_1).f1).length c689_1)∧w'.cell? ⟨(ad682.add ((x15_1).toNat*3)).block,(ad682.add ((x15_1).toNat*3)).off+2,none⟩=some (.string ((rd_T39 l0 x15_1).f2))∧w'.cell? (ad690.add (x63_3).toNat)=some (.slice (some ad691) (rd_L7 ((rd_T39 l0 x15_1).f1) x63_3).length c690_0)∧w'.cell? (ad691.add ((x94_4).toNat*4))=some (.int .u8 ((rd_T43 (rd_L7 ((rd_T39 l0 x15_1).f1) x63_3) x94_4).f0))∧w'.cell? ⟨(ad691.add ((x94_4).toNat*4)).block,(ad691.add ((x94_4).toNat*4)).off+1,none⟩=some (.int .i64 ((rd_T43 (rd_L7 ((rd_T39 l0 x15_1).f1) x63_3) x94_4).f1))∧w'.cell? ⟨(ad691.add ((x94_4).toNat*4)).block,(ad691.add ((x94_4).toNat*4)).off+2,none⟩=some (.bool ((rd_T43 (rd_L7 ((rd_T39 l0 x15_1).f1) x63_3) x94_4).f2))∧w'.cell? ⟨(ad691.add ((x94_4).toNat*4)).block,(ad691.add ((x94_4).toNat*4)).off+3,none⟩=some (.slice A691_3 ((rd_T43 (rd_L7 ((rd_T39 l0 x15_1).f1) x63_3) x94_4).f3).length c691_3)∧w'.cell? (ad685.add ((x15_1).toNat*3))=some (.int .i64 ((rd_T39 l1 x15_1).f0))∧w'.cell? ⟨(ad685.add ((x15_1).toNat*3)).block,(ad685.add ((x15_1).toNat*3)).off+1,none⟩=some (.slice (some ad693) ((rd_T39 l1 x15_1).f1).length c692_1)∧w'.cell? ⟨(ad685.add ((x15_1).toNat*3)).block,(ad685.add ((x15_1).toNat*3)).off+2,none⟩=some (.string ((rd_T39 l1 x15_1).f2))∧w'.cell? (ad693.add (x63_3).toNat)=some (.slice (some ad694) (rd_L7 ((rd_T39 l1 x15_1).f1) x63_3).length c693_0)∧w'.cell? (ad694.add ((x94_4).toNat*4))=some (.int .u8 ((rd_T43 (rd_L7 ((rd_T39 l1 x15_1).f1) x63_3) x94_4).f0))∧w'.cell? ⟨(ad694.add ((x94_4).toNat*4)).block,(ad694.add ((x94_4).toNat*4)).off+1,none⟩=some (.int .i64 ((rd_T43 (rd_L7 ((rd_T39 l1 x15_1).f1) x63_3) x94_4).f1))∧w'.cell? ⟨(ad694.add ((x94_4).toNat*4)).block,(ad694.add ((x94_4).toNat*4)).off+2,none⟩=some (.bool ((rd_T43 (rd_L7 ((rd_T39 l1 x15_1).f1) x63_3) x94_4).f2))∧w'.cell? ⟨(ad694.add ((x94_4).toNat*4)).block,(ad694.add ((x94_4).toNat*4)).off+3,none⟩=some (.slice A694_3 ((rd_T43 (rd_L7 ((rd_T39 l1 x15_1).f1) x63_3) x94_4).f3).length c694_3)) (ds:=[]) #[false,false,false,false,false,false,false,false,false,false,false,false,false,false,false,false,false,false,false,false,false,false,false,false] (by kernel_rfl) rfl rfl ⟨(hbc_ HB hw689_0),(hbc_ HB hw689_1),(hbc_ HB hw689_2),(hbc_ HB hw690_0),(hbc_ HB hw691_0),(hbc_ HB hw691_1),(hbc_ HB hw691_2),(hbc_ HB hw691_3),(hbc_ HB hw692_0),(hbc_ HB hw692_1),(hbc_ HB hw692_2),(hbc_ HB hw693_0),(hbc_ HB hw694_0),(hbc_ HB hw694_1),(hbc_ HB hw694_2),(hbc_ HB hw694_3)⟩ (fun hHeld=>?_);refine with_tabW florinlaw06_Same.tab16 florinlaw06_Same.bits16 (fun HT_ HW_=>?_)
                generalize wr.drew=w40 at HB HR689_1 HR690_0 HR691_3 HR692_1 HR693_0 HR694_3 hx689_0 hx689_1 hx689_2 hx690_0 hx691_0 hx691_1 hx691_2 hx691_3 hx692_0 hx692_1 hx692_2 hx693_0 hx694_0 hx694_1 hx694_2 hx694_3 hHeld ⊢
                refine pu_ 0 97 (bm_ 24 1) HT_ ?_
                refine pu_ 1 98 (bm_ 24 3) HT_ ?_
                refine pu_ 2 99 (bm_ 24 7) HT_ ?_
                refine pu_ 3 100 (bm_ 24 15) HT_ ?_
                refine pu_ 5 102 (bm_ 24 47) HT_ ?_
                refine pu_ 8 105 (bm_ 24 303) HT_ ?_
                refine pu_ 11 108 (bm_ 24 2351) HT_ ?_
                refine pu_ 12 109 (bm_ 24 6447) HT_ ?_
                refine pu_ 13 110 (bm_ 24 14639) HT_ ?_
                refine pu_ 14 111 (bm_ 24 31023) HT_ ?_
                refine pu_ 16 113 (bm_ 24 96559) HT_ ?_
                refine pu_ 19 116 (bm_ 24 620847) HT_ ?_
                refine tk_ 4 101 (bm_ 24 620863) HT_ HW_ hHeld rfl (by rintro w' ⟨s0,s1,s2,s3,s4,s5,s6,s7,s8,s9,s10,s11,s12,s13,s14,s15⟩;go_simp;with_reducible rfl) ?_
                refine pu_ 6 103 (bm_ 24 620927) HT_ ?_
                refine tk_ 7 104 (bm_ 24 621055) HT_ HW_ hHeld rfl (by rintro w' ⟨s0,s1,s2,s3,s4,s5,s6,s7,s8,s9,s10,s11,s12,s13,s14,s15⟩;go_simp;with_reducible rfl) ?_
                refine pu_ 9 106 (bm_ 24 621567) HT_ ?_
                refine tk_ 10 107 (bm_ 24 622591) HT_ HW_ hHeld rfl (by rintro w' ⟨s0,s1,s2,s3,s4,s5,s6,s7,s8,s9,s10,s11,s12,s13,s14,s15⟩;go_simp;with_reducible rfl) ?_
                refine tk_ 15 112 (bm_ 24 655359) HT_ HW_ hHeld rfl (by rintro w' ⟨s0,s1,s2,s3,s4,s5,s6,s7,s8,s9,s10,s11,s12,s13,s14,s15⟩;go_simp;with_reducible rfl) ?_
                refine pu_ 17 114 (bm_ 24 786431) HT_ ?_
                refine tk_ 18 115 (bm_ 24 1048575) HT_ HW_ hHeld rfl (by rintro w' ⟨s0,s1,s2,s3,s4,s5,s6,s7,s8,s9,s10,s11,s12,s13,s14,s15⟩;go_simp;with_reducible rfl) ?_
                refine pu_ 20 117 (bm_ 24 2097151) HT_ ?_
                refine tk_ 21 118 (bm_ 24 4194303) HT_ HW_ hHeld rfl (by rintro w' ⟨s0,s1,s2,s3,s4,s5,s6,s7,s8,s9,s10,s11,s12,s13,s14,s15⟩;go_simp;with_reducible rfl) ?_
                refine one_ (i:=22) (N:=some 119) (bm_ 24 8388607) rfl rfl (one_of HT_.out (by kernel_rfl)) (by decide) (fun K hK=>?_)
                refine gs_ Tryz.func18 #[.agg #[.int .u8 ((rd_T43 (rd_L7 ((rd_T39 l0 x15_1).f1) x63_3) x94_4).f0),.int .i64 ((rd_T43 (rd_L7 ((rd_T39 l0 x15_1).f1) x63_3) x94_4).f1),.bool ((rd_T43 (rd_L7 ((rd_T39 l0 x15_1).f1) x63_3) x94_4).f2),.slice A691_3 ((rd_T43 (rd_L7 ((rd_T39 l0 x15_1).f1) x63_3) x94_4).f3).length c691_3],.agg #[.int .u8 ((rd_T43 (rd_L7 ((rd_T39 l1 x15_1).f1) x63_3) x94_4).f0),.int .i64 ((rd_T43 (rd_L7 ((rd_T39 l1 x15_1).f1) x63_3) x94_4).f1),.bool ((rd_T43 (rd_L7 ((rd_T39 l1 x15_1).f1) x63_3) x94_4).f2),.slice A694_3 ((rd_T43 (rd_L7 ((rd_T39 l1 x15_1).f1) x63_3) x94_4).f3).length c694_3]] ?_
                with_reducible refine(florinlaw06_sameRel.calls k4 ((rd_T43 (rd_L7 ((rd_T39 l0 x15_1).f1) x63_3) x94_4).f0) ((rd_T43 (rd_L7 ((rd_T39 l0 x15_1).f1) x63_3) x94_4).f1) ((rd_T43 (rd_L7 ((rd_T39 l0 x15_1).f1) x63_3) x94_4).f2) _ _ ((rd_T43 (rd_L7 ((rd_T39 l0 x15_1).f1) x63_3) x94_4).f3) ((rd_T43 (rd_L7 ((rd_T39 l1 x15_1).f1) x63_3) x94_4).f0) ((rd_T43 (rd_L7 ((rd_T39 l1 x15_1).f1) x63_3) x94_4).f1) ((rd_T43 (rd_L7 ((rd_T39 l1 x15_1).f1) x63_3) x94_4).f2) _ _ ((rd_T43 (rd_L7 ((rd_T39 l1 x15_1).f1) x63_3) x94_4).f3) false _ ?side1 ?side2 ?side3 ?side4 A36.out).mono ?_
                (case side1=>repeat(first|exact(Kd.C_below HR691_3.out HB.out)|(with_reducible refine Kd.C_alloc ?_ _)|(with_reducible refine Kd.C_drewN ?_ _)|(with_reducible refine Kd.C_drew ?_)))
                (case side2=>exact HC691_3.out)
                (case side3=>repeat(first|exact(Kd.C_below HR694_3.out HB.out)|(with_reducible refine Kd.C_alloc ?_ _)|(with_reducible refine Kd.C_drewN ?_ _)|(with_reducible refine Kd.C_drew ?_)))
                (case side4=>exact HC694_3.out)
                rintro e w41 ⟨rfl,hb⟩
                refine⟨_,rfl,?_⟩
                replace HB:=Aside0.mk (below_step (bl_ HB).out hb)
                (try clear hb)
                (try clear hb2)
                (try clear hk)
                (try clear hi)
                refine hK.out _ _ ⟨(hbc_ HB hw689_0),(hbc_ HB hw689_1),(hbc_ HB hw689_2),(hbc_ HB hw690_0),(hbc_ HB hw691_0),(hbc_ HB hw691_1),(hbc_ HB hw691_2),(hbc_ HB hw691_3),(hbc_ HB hw692_0),(hbc_ HB hw692_1),(hbc_ HB hw692_2),(hbc_ HB hw693_0),(hbc_ HB hw694_0),(hbc_ HB hw694_1),(hbc_ HB hw694_2),(hbc_ HB hw694_3)⟩ (fun hHeld=>?_)
                clear hK K
                refine nm_ 119 ?_
                refine pu_ 23 120 (bm_ 24 16777215) HT_ ?_
                refine done_ (done_of HT_.out (by kernel_rfl)) ?_
                try go_wp2
                go_ret
                exact⟨ew_,(bl_ HB).out⟩
              ·rw[if_neg c26] at H
               have c26b0:=decide_eq_false c26
               clear c26
               have H':=Aside0.mk H
               clear H
               go_wp2
               go_roundg k4
               case measure=>have:=HK1.out;have:=HJ4.out;have:=HK3.out;have:=HK4.out;omega
               case rel=>exact⟨(wrap64 (x63_3+1)),eq_,H',⟨by have:=HK1.out;have:=HJ4.out;have:=HK3.out;have:=HK4.out;omega⟩,(bl_ HB)⟩
           ·rw[if_neg c24] at H
            have c24b0:(((rd_L7 ((rd_T39 l0 x15_1).f1) x63_3).length:Int)==((rd_L7 ((rd_T39 l1 x15_1).f1) x63_3).length:Int))=false:=beq_eq_false_iff_ne.mpr c24
            have c24b1:(((rd_L7 ((rd_T39 l0 x15_1).f1) x63_3).length:Int) !=((rd_L7 ((rd_T39 l1 x15_1).f1) x63_3).length:Int))=true:=bne_iff_ne.mpr c24
            have c24b2:((rd_L7 ((rd_T39 l0 x15_1).f1) x63_3).length==(rd_L7 ((rd_T39 l1 x15_1).f1) x63_3).length)=false:=by first|simpa using c24|(simp at c24 ⊢;omega)
            obtain rfl:=Option.some.inj H
            try go_wp2
            replace HB:=Aside0.mk (below_drew1 HB.out)
            have p683:0≤(x15_1:Int):=od_
            have q683:x15_1<(l0.length:Int):=od_
            obtain⟨ad683,A683_1,c683_1,e683,hx683_0,hx683_1,hx683_2,hl683_1,hi683_1⟩:=at_T39 HR0.out x15_1 p683 q683
            have hw683_2:=hx683_2
            have hw683_1:=hx683_1
            have hw683_0:=hx683_0
            obtain rfl:ad682=ad683:=(by injection e683)
            replace hx683_0:=hbc_ HB hx683_0
            replace hx683_1:=hbc_ HB hx683_1
            replace hx683_2:=hbc_ HB hx683_2
            have HR683_1:=Aside0.mk hi683_1
            have HC683_1:=Aside0.mk hl683_1
            clear hi683_1 hl683_1
            replace p683:=eq_true p683
            replace q683:=eq_true q683
            have p684:0≤(x63_3:Int):=od_
            have q684:x63_3<(((rd_T39 l0 x15_1).f1).length:Int):=od_
            obtain⟨ad684,A684_0,c684_0,e684,hx684_0,hl684_0,hi684_0⟩:=at_L7 HR683_1.out x63_3 p684 q684
            have hw684_0:=hx684_0
            cases e684
            replace hx684_0:=hbc_ HB hx684_0
            have HR684_0:=Aside0.mk hi684_0
            have HC684_0:=Aside0.mk hl684_0
            clear hi684_0 hl684_0
            replace p684:=eq_true p684
            replace q684:=eq_true q684
            have p685:0≤(x15_1:Int):=od_
            have q685:x15_1<(l1.length:Int):=od_
            obtain⟨ad685,A685_1,c685_1,e685,hx685_0,hx685_1,hx685_2,hl685_1,hi685_1⟩:=at_T39 HR1.out x15_1 p685 q685
            have hw685_2:=hx685_2
            have hw685_1:=hx685_1
            have hw685_0:=hx685_0
            cases e685
            replace hx685_0:=hbc_ HB hx685_0
            replace hx685_1:=hbc_ HB hx685_1
            replace hx685_2:=hbc_ HB hx685_2
            have HR685_1:=Aside0.mk hi685_1
            have HC685_1:=Aside0.mk hl685_1
            clear hi685_1 hl685_1
            replace p685:=eq_true p685
            replace q685:=eq_true q685
            have p686:0≤(x63_3:Int):=od_
            have q686:x63_3<(((rd_T39 l1 x15_1).f1).length:Int):=od_
            obtain⟨ad686,A686_0,c686_0,e686,hx686_0,hl686_0,hi686_0⟩:=at_L7 HR685_1.out x63_3 p686 q686
            have hw686_0:=hx686_0
            cases e686
            replace hx686_0:=hbc_ HB hx686_0
            have HR686_0:=Aside0.mk hi686_0
            have HC686_0:=Aside0.mk hl686_0
            clear hi686_0 hl686_0
            replace p686:=eq_true p686
            replace q686:=eq_true q686
            refine start_ (n:=19) (S:=fun w'=>w'.cell? (ad682.add ((x15_1).toNat*3))=some (.int .i64 ((rd_T39 l0 x15_1).f0))∧w'.cell? ⟨(ad682.add ((x15_1).toNat*3)).block,(ad682.add ((x15_1).toNat*3)).off+1,none⟩=some (.slice (some ad684) ((rd_T39 l0 x15_1).f1).length c683_1)∧w'.cell? ⟨(ad682.add ((x15_1).toNat*3)).block,(ad682.add ((x15_1).toNat*3)).off+2,none⟩=some (.string ((rd_T39 l0 x15_1).f2))∧w'.cell? (ad684.add (x63_3).toNat)=some (.slice A684_0 (rd_L7 ((rd_T39 l0 x15_1).f1) x63_3).length c684_0)∧w'.cell? (ad685.add ((x15_1).toNat*3))=some (.int .i64 ((rd_T39 l1 x15_1).f0))∧w'.cell? ⟨(ad685.add ((x15_1).toNat*3)).block,(ad685.add ((x15_1).toNat*3)).off+1,none⟩=some (.slice (some ad686) ((rd_T39 l1 x15_1).f1).length c685_1)∧w'.cell? ⟨(ad685.add ((x15_1).toNat*3)).block,(ad685.add ((x15_1).toNat*3)).off+2,none⟩=some (.string ((rd_T39 l1 x15_1).f2))∧w'.cell? (ad686.add (x63_3).toNat)=some (.slice A686_0 (rd_L7 ((rd_T39 l1 x15_1).f1) x63_3).length c686_0)) (ds:=[]) #[false,false,false,false,false,false,false,false,false,false,false,false,false,false,false,false,false,false,false] (by kernel_rfl) rfl rfl ⟨(hbc_ HB hw683_0),(hbc_ HB hw683_1),(hbc_ HB hw683_2),(hbc_ HB hw684_0),(hbc_ HB hw685_0),(hbc_ HB hw685_1),(hbc_ HB hw685_2),(hbc_ HB hw686_0)⟩ (fun hHeld=>?_);refine with_tabW florinlaw06_Same.tab11 florinlaw06_Same.bits11 (fun HT_ HW_=>?_)
            generalize wr.drew=w42 at HB HR683_1 HR684_0 HR685_1 HR686_0 hx683_0 hx683_1 hx683_2 hx684_0 hx685_0 hx685_1 hx685_2 hx686_0 hHeld ⊢
            refine pu_ 0 66 (bm_ 19 1) HT_ ?_
            refine pu_ 1 67 (bm_ 19 3) HT_ ?_
            refine pu_ 2 68 (bm_ 19 7) HT_ ?_
            refine pu_ 3 69 (bm_ 19 15) HT_ ?_
            refine pu_ 5 71 (bm_ 19 47) HT_ ?_
            refine pu_ 9 75 (bm_ 19 559) HT_ ?_
            refine pu_ 10 76 (bm_ 19 1583) HT_ ?_
            refine pu_ 11 77 (bm_ 19 3631) HT_ ?_
            refine pu_ 12 78 (bm_ 19 7727) HT_ ?_
            refine pu_ 14 80 (bm_ 19 24111) HT_ ?_
            refine tk_ 4 70 (bm_ 19 24127) HT_ HW_ hHeld rfl (by rintro w' ⟨s0,s1,s2,s3,s4,s5,s6,s7⟩;go_simp;with_reducible rfl) ?_
            refine pu_ 6 72 (bm_ 19 24191) HT_ ?_
            refine tk_ 7 73 (bm_ 19 24319) HT_ HW_ hHeld rfl (by rintro w' ⟨s0,s1,s2,s3,s4,s5,s6,s7⟩;go_simp;with_reducible rfl) ?_
            refine pu_ 8 74 (bm_ 19 24575) HT_ ?_
            refine tk_ 13 79 (bm_ 19 32767) HT_ HW_ hHeld rfl (by rintro w' ⟨s0,s1,s2,s3,s4,s5,s6,s7⟩;go_simp;with_reducible rfl) ?_
            refine pu_ 15 81 (bm_ 19 65535) HT_ ?_
            refine tk_ 16 82 (bm_ 19 131071) HT_ HW_ hHeld rfl (by rintro w' ⟨s0,s1,s2,s3,s4,s5,s6,s7⟩;go_simp;with_reducible rfl) ?_
            refine pu_ 17 83 (bm_ 19 262143) HT_ ?_
            refine pu_ 18 84 (bm_ 19 524287) HT_ ?_
            refine done_ (done_of HT_.out (by kernel_rfl)) ?_
            try go_wp2
            go_ret
            exact⟨ew_,(bl_ HB).out⟩
          ·rw[if_neg c17] at H
           have c17b0:=decide_eq_false c17
           clear c17
           have H':=Aside0.mk H
           clear H
           go_wp2
           go_roundg k3
           case measure=>have:=HK1.out;have:=HJ4.out;have:=HK3.out;omega
           case rel=>exact⟨(wrap64 (x15_1+1)),eq_,H',⟨by have:=HK1.out;have:=HJ4.out;have:=HK3.out;omega⟩,(bl_ HB)⟩
    ·rw[if_neg c4] at H
     have c4b0:=decide_eq_false c4
     clear c4
     obtain rfl:=Option.some.inj H
     go_wp2
     go_ret
     exact⟨ew_,(bl_ HB).out⟩
 ·rw[if_neg c3] at H
  have c3b0:((l0.length:Int)==(l1.length:Int))=false:=beq_eq_false_iff_ne.mpr c3
  have c3b1:((l0.length:Int) !=(l1.length:Int))=true:=bne_iff_ne.mpr c3
  have c3b2:(l0.length==l1.length)=false:=by first|simpa using c3|(simp at c3 ⊢;omega)
  obtain rfl:=Option.some.inj H
  go_enter Tryz.func10,Tryz.ntmps10
  go_wp2
  go_ret
  exact⟨ew_,(bl_ HB).out⟩

end Go.Proofs.YtcokjmnkieakiaaGreatDoor.P
