-- written by a program of this session (wip/p2)
import Derived.Test.YtcokjmnkieakiaaDoorPx0
import Derived.Test.YtcokjmnkieakiaaDoorPx9
namespace Go.Proofs.YtcokjmnkieakiaaDoor.P
open Go.RowKit Go.Proofs.YtcokjmnkieakiaaDoorW.PrintWords Go.Proofs.YtcokjmnkieakiaaDoorW.PrintLast Go.Proofs.YtcokjmnkieakiaaDoorW.PrintMore
attribute [local go_sem] max2_int min2_int max_two min_two max_three min_three max_four min_four   -- for this text's walks alone
set_option linter.unusedVariables false
set_option linter.unusedSimpArgs false

/-! ### florinlaw06_Same: function 10 -/
mutual
def florinlaw06_Same.l0:Nat→List (S32)→List (S32)→Int→Int→Option (Bool)
 | 0,_,_,_,_=>none
 | k+1,x0,x1,x14,x15=>if x15<x14 then (if 0≤x15 then (if x15<(x0.length:Int) then (if x15<(x1.length:Int) then (if ((rd_T32 x0 x15).f0)=((rd_T32 x1 x15).f0) then (if ((rd_T32 x0 x15).f2).toList=((rd_T32 x1 x15).f2).toList then (florinlaw06_Same.j1 k x0 x1 x15 x14 x15 ((((rd_T32 x0 x15).f1).length:Int) !=(((rd_T32 x1 x15).f1).length:Int))) else (florinlaw06_Same.j1 k x0 x1 x15 x14 x15 true)) else (florinlaw06_Same.j1 k x0 x1 x15 x14 x15 true)) else (none)) else (none)) else (none)) else (some true)
def florinlaw06_Same.j1:Nat→List (S32)→List (S32)→Int→Int→Int→Bool→Option (Bool)
 | 0,_,_,_,_,_,_=>none
 | k+1,x0,x1,x5,x14,x15,x56=>if x56=true then (some false) else (if 0≤x5 then (if x5<(x0.length:Int) then (florinlaw06_Same.l1 k x0 x1 x5 x14 x15 (((rd_T32 x0 x5).f1).length:Int) 0) else (none)) else (none))
def florinlaw06_Same.l1:Nat→List (S32)→List (S32)→Int→Int→Int→Int→Int→Option (Bool)
 | 0,_,_,_,_,_,_,_=>none
 | k+1,x0,x1,x5,x14,x15,x62,x63=>if x63<x62 then (if 0≤x5 then (if x5<(x0.length:Int) then (if 0≤x63 then (if x63<(((rd_T32 x0 x5).f1).length:Int) then (if x5<(x1.length:Int) then (if x63<(((rd_T32 x1 x5).f1).length:Int) then (if ((rd_L7 ((rd_T32 x0 x5).f1) x63).length:Int)=((rd_L7 ((rd_T32 x1 x5).f1) x63).length:Int) then (florinlaw06_Same.l2 k x0 x1 x5 x63 x14 x15 x62 x63 ((rd_L7 ((rd_T32 x0 x5).f1) x63).length:Int) 0) else (some false)) else (none)) else (none)) else (none)) else (none)) else (none)) else (none)) else (florinlaw06_Same.l0 k x0 x1 x14 (wrap64 (x15+1)))
def florinlaw06_Same.l2:Nat→List (S32)→List (S32)→Int→Int→Int→Int→Int→Int→Int→Int→Option (Bool)
 | 0,_,_,_,_,_,_,_,_,_,_=>none
 | k+1,x0,x1,x5,x6,x14,x15,x62,x63,x93,x94=>if x94<x93 then (if 0≤x5 then (if x5<(x0.length:Int) then (if 0≤x6 then (if x6<(((rd_T32 x0 x5).f1).length:Int) then (if 0≤x94 then (if x94<((rd_L7 ((rd_T32 x0 x5).f1) x6).length:Int) then (if x5<(x1.length:Int) then (if x6<(((rd_T32 x1 x5).f1).length:Int) then (if x94<((rd_L7 ((rd_T32 x1 x5).f1) x6).length:Int) then ((florinlaw06_sameRel.f k ((rd_T36 (rd_L7 ((rd_T32 x0 x5).f1) x6) x94).f0) ((rd_T36 (rd_L7 ((rd_T32 x0 x5).f1) x6) x94).f1) ((rd_T36 (rd_L7 ((rd_T32 x0 x5).f1) x6) x94).f2) ((rd_T36 (rd_L7 ((rd_T32 x0 x5).f1) x6) x94).f3) ((rd_T36 (rd_L7 ((rd_T32 x1 x5).f1) x6) x94).f0) ((rd_T36 (rd_L7 ((rd_T32 x1 x5).f1) x6) x94).f1) ((rd_T36 (rd_L7 ((rd_T32 x1 x5).f1) x6) x94).f2) ((rd_T36 (rd_L7 ((rd_T32 x1 x5).f1) x6) x94).f3)).bind fun t949=>(if t949=true then (florinlaw06_Same.l2 k x0 x1 x5 x6 x14 x15 x62 x63 x93 (wrap64 (x94+1))) else (some false))) else (none)) else (none)) else (none)) else (none)) else (none)) else (none)) else (none)) else (none)) else (none)) else (florinlaw06_Same.l1 k x0 x1 x5 x14 x15 x62 (wrap64 (x63+1)))
end
def florinlaw06_Same.f (k:Nat) (l0:List (S32)) (l1:List (S32)):Option (Bool):=if (l0.length:Int)=(l1.length:Int) then (florinlaw06_Same.l0 k l0 l1 (l0.length:Int) 0) else (some false)
def florinlaw06_Same.T6:Bool × List (List Nat × List Nat):=(true,[([],[]),([],[]),([0,1],[0,1]),([2],[2]),([3],[3]),([],[]),([],[]),([5,6],[5,6]),([7],[7]),([8],[8]),([4,9],[4,9]),([10],[10]),([11],[11]),([11],[11]),([12,13,11],[11,12,13]),([14,11],[11,14]),([15,11],[11,15]),([11],[11]),([11],[11]),([17,18,11],[11,17,18]),([19,11],[11,19]),([20,11],[11,20]),([16,21,11],[11,16,21]),([11,22],[11,22]),([23,11],[23]),([24],[24]),([24],[24]),([25,26,24],[24,25,26]),([27,24],[24,27]),([28,24],[24,28]),([29,24],[24,29]),([24],[24]),([24],[24]),([31,32,24],[24,31,32]),([33,24],[24,33]),([34,24],[24,34]),([35,24],[24,35]),([30,36,24],[24,30,36]),([24,37],[24,37])])
def florinlaw06_Same.B6:List Nat:=[0,0,3,7,15,0,0,96,224,480,1023,2047,4095,4095,16383,32767,65535,4095,4095,397311,921599,1970175,4194303,8388607,16777215,33554431,33554431,134217727,268435455,536870911,1073741823,33554431,33554431,6476005375,15065939967,32245809151,66605547519,137438953471,274877906943]
theorem florinlaw06_Same.tab6:rtab .any (opsOf Tryd.f10 6)=florinlaw06_Same.T6:=by kernel_rfl
theorem florinlaw06_Same.bits6:waitsOk florinlaw06_Same.T6.2 florinlaw06_Same.B6=true:=by kernel_rfl
def florinlaw06_Same.T11:Bool × List (List Nat × List Nat):=(true,[([],[]),([],[]),([0,1],[0,1]),([2],[2]),([3],[3]),([],[]),([4,5],[4,5]),([6],[6]),([7],[7]),([],[]),([],[]),([9,10],[9,10]),([11],[11]),([12],[12]),([],[]),([13,14],[13,14]),([15],[15]),([16],[16]),([8,17],[8,17])])
def florinlaw06_Same.B11:List Nat:=[0,0,3,7,15,0,63,127,255,0,0,1536,3584,7680,0,32256,65024,130560,262143]
theorem florinlaw06_Same.tab11:rtab .any (opsOf Tryd.f10 11)=florinlaw06_Same.T11:=by kernel_rfl
theorem florinlaw06_Same.bits11:waitsOk florinlaw06_Same.T11.2 florinlaw06_Same.B11=true:=by kernel_rfl
def florinlaw06_Same.T16:Bool × List (List Nat × List Nat):=(true,[([],[]),([],[]),([0,1],[0,1]),([2],[2]),([3],[3]),([],[]),([4,5],[4,5]),([6],[6]),([],[]),([7,8],[7,8]),([9],[9]),([],[]),([],[]),([11,12],[11,12]),([13],[13]),([14],[14]),([],[]),([15,16],[15,16]),([17],[17]),([],[]),([18,19],[18,19]),([20],[20]),([10,21],[10,21]),([22],[22])])
def florinlaw06_Same.B16:List Nat:=[0,0,3,7,15,0,63,127,0,511,1023,0,0,6144,14336,30720,0,129024,260096,0,1046528,2095104,4194303,8388607]
theorem florinlaw06_Same.tab16:rtab .any (opsOf Tryd.f10 16)=florinlaw06_Same.T16:=by kernel_rfl
theorem florinlaw06_Same.bits16:waitsOk florinlaw06_Same.T16.2 florinlaw06_Same.B16=true:=by kernel_rfl
set_option maxHeartbeats 64000000 in
set_option maxRecDepth 100000 in
theorem florinlaw06_Same.calls (k:Nat) (A0:Option Addr) (c0:Nat) (l0:List (S32)) (A1:Option Addr) (c1:Nat) (l1:List (S32)) (r:Bool) (w:World) (hr0:Kd.C k32 w A0 l0.length l0) (hc0:l0.length≤c0) (hr1:Kd.C k32 w A1 l1.length l1) (hc1:l1.length≤c1) (h:florinlaw06_Same.f k l0 l1=some r) :
  Calls Tryd.prog 10 #[.slice A0 l0.length c0,.slice A1 l1.length c1] w fun e w'=>e= .returned (.bool r)∧Below w.heap.size w w':=by
 have hu36:=Tryd.underlying36
 have HR0:=Aside0.mk hr0
 have HC0:=Aside0.mk hc0
 clear hr0 hc0
 have HR1:=Aside0.mk hr1
 have HC1:=Aside0.mk hc1
 clear hr1 hc1
 have HB:=Aside0.mk (Below.refl w.heap.size w)
 have H:(if (l0.length:Int)=(l1.length:Int) then (florinlaw06_Same.l0 k l0 l1 (l0.length:Int) 0) else (some false))=some r:=h
 clear h
 by_cases c3:(l0.length:Int)=(l1.length:Int)
 ·rw[if_pos c3] at H
  have c3b0:((l0.length:Int)==(l1.length:Int))=true:=beq_iff_eq.mpr c3
  have c3b1:((l0.length:Int) !=(l1.length:Int))=false:=bne_eq_false_iff_eq.mpr c3
  have c3b2:(l0.length==l1.length)=true:=by first|simpa using c3|(simp at c3 ⊢;omega)
  clear c3
  have H':=Aside0.mk H
  clear H
  go_enter Tryd.func10,Tryd.ntmps10
  go_wp2
  go_loopg [15] k (fun kq v15 w'=>∃(x15_1:Int),v15= .int .i64 x15_1∧Aside0 (florinlaw06_Same.l0 kq l0 l1 (l0.length:Int) x15_1=some r)∧Aside0 (kq≤k)∧Aside0 (Below w.heap.size w w'))
  case atStart=>exact⟨(0),eq_,H',⟨Nat.le_refl _⟩,(bl_ HB)⟩
  case round =>
   clear H'
   obtain⟨x15_1,rfl,HA,HK1,HB⟩:=hrel
   cases gk with
   | zero=>exact absurd HA.out (by simp[florinlaw06_Same.l0])
   | succ k1 =>
    have H:=HA.out
    clear HA
    simp only[florinlaw06_Same.l0] at H
    by_cases c4:x15_1<(l0.length:Int)
    ·rw[if_pos c4] at H
     have c4b0:=decide_eq_true c4
     clear c4
     have HC5:=Aside0.mk H
     clear H
     go_upto_region 6 with (fail)
     go_cut [56] (fun v56 wc=>∃(kq:Nat) (x56_4:Bool),v56= .bool x56_4∧Aside0 (florinlaw06_Same.j1 kq l0 l1 x15_1 (l0.length:Int) x15_1 x56_4=some r)∧Aside0 (kq≤k1)∧Aside0 (Below w.heap.size w wc))
     case first =>
      have H:=HC5.out
      clear HC5
      replace H:=ifn_ H
      obtain⟨c6,H⟩:=H
      have c6b0:decide (0≤x15_1)=true:=decide_eq_true c6
      clear c6
      (first|rw[c6b0]|(simp only[i64_w,i32_w];rw[c6b0])|skip)
      replace H:=ifn_ H
      obtain⟨c7,H⟩:=H
      have c7b0:decide (x15_1<(l0.length:Int))=true:=decide_eq_true c7
      clear c7
      replace H:=ifn_ H
      obtain⟨c8,H⟩:=H
      have c8b0:decide (x15_1<(l1.length:Int))=true:=decide_eq_true c8
      clear c8
      by_cases c9:((rd_T32 l0 x15_1).f0)=((rd_T32 l1 x15_1).f0)
      ·rw[if_pos c9] at H
       have c9b0:(((rd_T32 l0 x15_1).f0)==((rd_T32 l1 x15_1).f0))=true:=beq_iff_eq.mpr c9
       have c9b1:(((rd_T32 l0 x15_1).f0) !=((rd_T32 l1 x15_1).f0))=false:=bne_eq_false_iff_eq.mpr c9
       clear c9
       by_cases c10:((rd_T32 l0 x15_1).f2).toList=((rd_T32 l1 x15_1).f2).toList
       ·rw[if_pos c10] at H
        have c10b0:(((rd_T32 l0 x15_1).f2).toList==((rd_T32 l1 x15_1).f2).toList)=true:=beq_iff_eq.mpr c10
        have c10b1:(((rd_T32 l0 x15_1).f2).toList !=((rd_T32 l1 x15_1).f2).toList)=false:=bne_eq_false_iff_eq.mpr c10
        clear c10
        have H':=Aside0.mk H
        clear H
        try go_wp2
        replace HB:=Aside0.mk (below_drew1 HB.out)
        have p930:0≤(x15_1:Int):=od_
        have q930:x15_1<(l0.length:Int):=od_
        obtain⟨ad930,A930_1,c930_1,e930,hx930_0,hx930_1,hx930_2,hl930_1,hi930_1⟩:=at_T32 HR0.out x15_1 p930 q930
        have hw930_2:=hx930_2
        have hw930_1:=hx930_1
        have hw930_0:=hx930_0
        cases e930
        replace hx930_0:=hbc_ HB hx930_0
        replace hx930_1:=hbc_ HB hx930_1
        replace hx930_2:=hbc_ HB hx930_2
        have HR930_1:=Aside0.mk hi930_1
        have HC930_1:=Aside0.mk hl930_1
        clear hi930_1 hl930_1
        replace p930:=eq_true p930
        replace q930:=eq_true q930
        have p931:0≤(x15_1:Int):=od_
        have q931:x15_1<(l1.length:Int):=od_
        obtain⟨ad931,A931_1,c931_1,e931,hx931_0,hx931_1,hx931_2,hl931_1,hi931_1⟩:=at_T32 HR1.out x15_1 p931 q931
        have hw931_2:=hx931_2
        have hw931_1:=hx931_1
        have hw931_0:=hx931_0
        cases e931
        replace hx931_0:=hbc_ HB hx931_0
        replace hx931_1:=hbc_ HB hx931_1
        replace hx931_2:=hbc_ HB hx931_2
        have HR931_1:=Aside0.mk hi931_1
        have HC931_1:=Aside0.mk hl931_1
        clear hi931_1 hl931_1
        replace p931:=eq_true p931
        replace q931:=eq_true q931
        have p932:0≤(x15_1:Int):=od_
        have q932:x15_1<(l0.length:Int):=od_
        obtain⟨ad932,A932_1,c932_1,e932,hx932_0,hx932_1,hx932_2,hl932_1,hi932_1⟩:=at_T32 HR0.out x15_1 p932 q932
        have hw932_2:=hx932_2
        have hw932_1:=hx932_1
        have hw932_0:=hx932_0
        obtain rfl:ad930=ad932:=(by injection e932)
        replace hx932_0:=hbc_ HB hx932_0
        replace hx932_1:=hbc_ HB hx932_1
        replace hx932_2:=hbc_ HB hx932_2
        have HR932_1:=Aside0.mk hi932_1
        have HC932_1:=Aside0.mk hl932_1
        clear hi932_1 hl932_1
        replace p932:=eq_true p932
        replace q932:=eq_true q932
        have ea_:=Option.some.inj (hx930_1.symm.trans hx932_1)
        injection ea_ with ea_ en_ ec_
        subst ea_
        subst ec_
        clear en_
        have p933:0≤(x15_1:Int):=od_
        have q933:x15_1<(l1.length:Int):=od_
        obtain⟨ad933,A933_1,c933_1,e933,hx933_0,hx933_1,hx933_2,hl933_1,hi933_1⟩:=at_T32 HR1.out x15_1 p933 q933
        have hw933_2:=hx933_2
        have hw933_1:=hx933_1
        have hw933_0:=hx933_0
        obtain rfl:ad931=ad933:=(by injection e933)
        replace hx933_0:=hbc_ HB hx933_0
        replace hx933_1:=hbc_ HB hx933_1
        replace hx933_2:=hbc_ HB hx933_2
        have HR933_1:=Aside0.mk hi933_1
        have HC933_1:=Aside0.mk hl933_1
        clear hi933_1 hl933_1
        replace p933:=eq_true p933
        replace q933:=eq_true q933
        have ea_:=Option.some.inj (hx931_1.symm.trans hx933_1)
        injection ea_ with ea_ en_ ec_
        subst ea_
        subst ec_
        clear en_
        have p934:0≤(x15_1:Int):=od_
        have q934:x15_1<(l0.length:Int):=od_
        obtain⟨ad934,A934_1,c934_1,e934,hx934_0,hx934_1,hx934_2,hl934_1,hi934_1⟩:=at_T32 HR0.out x15_1 p934 q934
        have hw934_2:=hx934_2
        have hw934_1:=hx934_1
        have hw934_0:=hx934_0
        obtain rfl:ad930=ad934:=(by injection e934)
        replace hx934_0:=hbc_ HB hx934_0
        replace hx934_1:=hbc_ HB hx934_1
        replace hx934_2:=hbc_ HB hx934_2
        have HR934_1:=Aside0.mk hi934_1
        have HC934_1:=Aside0.mk hl934_1
        clear hi934_1 hl934_1
        replace p934:=eq_true p934
        replace q934:=eq_true q934
        have ea_:=Option.some.inj (hx930_1.symm.trans hx934_1)
        injection ea_ with ea_ en_ ec_
        subst ea_
        subst ec_
        clear en_
        have p935:0≤(x15_1:Int):=od_
        have q935:x15_1<(l1.length:Int):=od_
        obtain⟨ad935,A935_1,c935_1,e935,hx935_0,hx935_1,hx935_2,hl935_1,hi935_1⟩:=at_T32 HR1.out x15_1 p935 q935
        have hw935_2:=hx935_2
        have hw935_1:=hx935_1
        have hw935_0:=hx935_0
        obtain rfl:ad931=ad935:=(by injection e935)
        replace hx935_0:=hbc_ HB hx935_0
        replace hx935_1:=hbc_ HB hx935_1
        replace hx935_2:=hbc_ HB hx935_2
        have HR935_1:=Aside0.mk hi935_1
        have HC935_1:=Aside0.mk hl935_1
        clear hi935_1 hl935_1
        replace p935:=eq_true p935
        replace q935:=eq_true q935
        have ea_:=Option.some.inj (hx931_1.symm.trans hx935_1)
        injection ea_ with ea_ en_ ec_
        subst ea_
        subst ec_
        clear en_
        refine start_ (n:=39) (S:=fun w'=>w'.cell? (ad930.add ((x15_1).toNat*3))=some (.int .i64 ((rd_T32 l0 x15_1).f0))∧w'.cell? ⟨(ad930.add ((x15_1).toNat*3)).block,(ad930.add ((x15_1).toNat*3)).off+1,none⟩=some (.slice A930_1 ((rd_T32 l0 x15_1).f1).length c930_1)∧w'.cell? ⟨(ad930.add ((x15_1).toNat*3)).block,(ad930.add ((x15_1).toNat*3)).off+2,none⟩=some (.string ((rd_T32 l0 x15_1).f2))∧w'.cell? (ad931.add ((x15_1).toNat*3))=some (.int .i64 ((rd_T32 l1 x15_1).f0))∧w'.cell? ⟨(ad931.add ((x15_1).toNat*3)).block,(ad931.add ((x15_1).toNat*3)).off+1,none⟩=some (.slice A931_1 ((rd_T32 l1 x15_1).f1).length c931_1)∧w'.cell? ⟨(ad931.add ((x15_1).toNat*3)).block,(ad931.add ((x15_1).toNat*3)).off+2,none⟩=some (.string ((rd_T32 l1 x15_1).f2))∧w'.cell? (ad930.add ((x15_1).toNat*3))=some (.int .i64 ((rd_T32 l0 x15_1).f0))∧w'.cell? ⟨(ad930.add ((x15_1).toNat*3)).block,(ad930.add ((x15_1).toNat*3)).off+1,none⟩=some (.slice A930_1 ((rd_T32 l0 x15_1).f1).length c930_1)∧w'.cell? ⟨(ad930.add ((x15_1).toNat*3)).block,(ad930.add ((x15_1).toNat*3)).off+2,none⟩=some (.string ((rd_T32 l0 x15_1).f2))∧w'.cell? (ad931.add ((x15_1).toNat*3))=some (.int .i64 ((rd_T32 l1 x15_1).f0))∧w'.cell? ⟨(ad931.add ((x15_1).toNat*3)).block,(ad931.add ((x15_1).toNat*3)).off+1,none⟩=some (.slice A931_1 ((rd_T32 l1 x15_1).f1).length c931_1)∧w'.cell? ⟨(ad931.add ((x15_1).toNat*3)).block,(ad931.add ((x15_1).toNat*3)).off+2,none⟩=some (.string ((rd_T32 l1 x15_1).f2))∧w'.cell? (ad930.add ((x15_1).toNat*3))=some (.int .i64 ((rd_T32 l0 x15_1).f0))∧w'.cell? ⟨(ad930.add ((x15_1).toNat*3)).block,(ad930.add ((x15_1).toNat*3)).off+1,none⟩=some (.slice A930_1 ((rd_T32 l0 x15_1).f1).length c930_1)∧w'.cell? ⟨(ad930.add ((x15_1).toNat*3)).block,(ad930.add ((x15_1).toNat*3)).off+2,none⟩=some (.string ((rd_T32 l0 x15_1).f2))∧w'.cell? (ad931.add ((x15_1).toNat*3))=some (.int .i64 ((rd_T32 l1 x15_1).f0))∧w'.cell? ⟨(ad931.add ((x15_1).toNat*3)).block,(ad931.add ((x15_1).toNat*3)).off+1,none⟩=some (.slice A931_1 ((rd_T32 l1 x15_1).f1).length c931_1)∧w'.cell? ⟨(ad931.add ((x15_1).toNat*3)).block,(ad931.add ((x15_1).toNat*3)).off+2,none⟩=some (.string ((rd_T32 l1 x15_1).f2))) (ds:=[]) #[false,false,false,false,false,false,false,false,false,false,false,false,false,false,false,false,false,false,false,false,false,false,false,false,false,false,false,false,false,false,false,false,false,false,false,false,false,false,false] (by kernel_rfl) rfl rfl ⟨(hbc_ HB hw930_0),(hbc_ HB hw930_1),(hbc_ HB hw930_2),(hbc_ HB hw931_0),(hbc_ HB hw931_1),(hbc_ HB hw931_2),(hbc_ HB hw932_0),(hbc_ HB hw932_1),(hbc_ HB hw932_2),(hbc_ HB hw933_0),(hbc_ HB hw933_1),(hbc_ HB hw933_2),(hbc_ HB hw934_0),(hbc_ HB hw934_1),(hbc_ HB hw934_2),(hbc_ HB hw935_0),(hbc_ HB hw935_1),(hbc_ HB hw935_2)⟩ (fun hHeld=>?_);refine with_tabW florinlaw06_Same.tab6 florinlaw06_Same.bits6 (fun HT_ HW_=>?_)
        generalize wr.drew=w11 at HB HR930_1 HR931_1 HR932_1 HR933_1 HR934_1 HR935_1 hx930_0 hx930_1 hx930_2 hx931_0 hx931_1 hx931_2 hx932_0 hx932_1 hx932_2 hx933_0 hx933_1 hx933_2 hx934_0 hx934_1 hx934_2 hx935_0 hx935_1 hx935_2 hHeld ⊢
        refine pu_ 0 18 (bm_ 39 1) HT_ ?_
        refine pu_ 1 19 (bm_ 39 3) HT_ ?_
        refine pu_ 2 20 (bm_ 39 7) HT_ ?_
        refine pu_ 3 21 (bm_ 39 15) HT_ ?_
        refine pu_ 5 23 (bm_ 39 47) HT_ ?_
        refine pu_ 6 24 (bm_ 39 111) HT_ ?_
        refine pu_ 7 25 (bm_ 39 239) HT_ ?_
        refine pu_ 8 26 (bm_ 39 495) HT_ ?_
        refine tk_ 4 22 (bm_ 39 511) HT_ HW_ hHeld rfl (by rintro w' ⟨s0,s1,s2,s3,s4,s5,s6,s7,s8,s9,s10,s11,s12,s13,s14,s15,s16,s17⟩;go_simp;with_reducible rfl) ?_
        refine tk_ 9 27 (bm_ 39 1023) HT_ HW_ hHeld rfl (by rintro w' ⟨s0,s1,s2,s3,s4,s5,s6,s7,s8,s9,s10,s11,s12,s13,s14,s15,s16,s17⟩;go_simp;with_reducible rfl) ?_
        refine pu_ 10 28 (bm_ 39 2047) HT_ ?_
        refine pu_ 11 29 (bm_ 39 4095) HT_ ?_
        refine pu_ 12 30 (bm_ 39 8191) HT_ ?_
        refine pu_ 13 31 (bm_ 39 16383) HT_ ?_
        refine pu_ 14 32 (bm_ 39 32767) HT_ ?_
        refine pu_ 15 33 (bm_ 39 65535) HT_ ?_
        refine pu_ 17 35 (bm_ 39 196607) HT_ ?_
        refine pu_ 18 36 (bm_ 39 458751) HT_ ?_
        refine pu_ 19 37 (bm_ 39 983039) HT_ ?_
        refine pu_ 20 38 (bm_ 39 2031615) HT_ ?_
        refine tk_ 16 34 (bm_ 39 2097151) HT_ HW_ hHeld rfl (by rintro w' ⟨s0,s1,s2,s3,s4,s5,s6,s7,s8,s9,s10,s11,s12,s13,s14,s15,s16,s17⟩;go_simp;with_reducible rfl) ?_
        refine tk_ 21 39 (bm_ 39 4194303) HT_ HW_ hHeld rfl (by rintro w' ⟨s0,s1,s2,s3,s4,s5,s6,s7,s8,s9,s10,s11,s12,s13,s14,s15,s16,s17⟩;go_simp;with_reducible rfl) ?_
        refine pu_ 22 40 (bm_ 39 8388607) HT_ ?_
        refine pu_ 23 41 (bm_ 39 16777215) HT_ ?_
        refine pu_ 24 42 (bm_ 39 33554431) HT_ ?_
        refine pu_ 25 43 (bm_ 39 67108863) HT_ ?_
        refine pu_ 26 44 (bm_ 39 134217727) HT_ ?_
        refine pu_ 27 45 (bm_ 39 268435455) HT_ ?_
        refine pu_ 28 46 (bm_ 39 536870911) HT_ ?_
        refine pu_ 31 49 (bm_ 39 2684354559) HT_ ?_
        refine pu_ 32 50 (bm_ 39 6979321855) HT_ ?_
        refine pu_ 33 51 (bm_ 39 15569256447) HT_ ?_
        refine pu_ 34 52 (bm_ 39 32749125631) HT_ ?_
        refine tk_ 29 47 (bm_ 39 33285996543) HT_ HW_ hHeld rfl (by rintro w' ⟨s0,s1,s2,s3,s4,s5,s6,s7,s8,s9,s10,s11,s12,s13,s14,s15,s16,s17⟩;go_simp;with_reducible rfl) ?_
        refine pu_ 30 48 (bm_ 39 34359738367) HT_ ?_
        refine tk_ 35 53 (bm_ 39 68719476735) HT_ HW_ hHeld rfl (by rintro w' ⟨s0,s1,s2,s3,s4,s5,s6,s7,s8,s9,s10,s11,s12,s13,s14,s15,s16,s17⟩;go_simp;with_reducible rfl) ?_
        refine pu_ 36 54 (bm_ 39 137438953471) HT_ ?_
        refine pu_ 37 55 (bm_ 39 274877906943) HT_ ?_
        refine pu_ 38 56 (bm_ 39 549755813887) HT_ ?_
        refine done_ (done_of HT_.out (by kernel_rfl)) ?_
        try go_wp2
        go_meet
        case rel=>exact⟨_,(((((rd_T32 l0 x15_1).f1).length:Int) !=(((rd_T32 l1 x15_1).f1).length:Int))),eq_,H',⟨by have:=HK1.out;first|omega|exact Nat.le_refl _⟩,(bl_ HB)⟩
       ·rw[if_neg c10] at H
        have c10b0:(((rd_T32 l0 x15_1).f2).toList==((rd_T32 l1 x15_1).f2).toList)=false:=beq_eq_false_iff_ne.mpr c10
        have c10b1:(((rd_T32 l0 x15_1).f2).toList !=((rd_T32 l1 x15_1).f2).toList)=true:=bne_iff_ne.mpr c10
        have H':=Aside0.mk H
        clear H
        try go_wp2
        replace HB:=Aside0.mk (below_drew1 HB.out)
        have p930:0≤(x15_1:Int):=od_
        have q930:x15_1<(l0.length:Int):=od_
        obtain⟨ad930,A930_1,c930_1,e930,hx930_0,hx930_1,hx930_2,hl930_1,hi930_1⟩:=at_T32 HR0.out x15_1 p930 q930
        have hw930_2:=hx930_2
        have hw930_1:=hx930_1
        have hw930_0:=hx930_0
        cases e930
        replace hx930_0:=hbc_ HB hx930_0
        replace hx930_1:=hbc_ HB hx930_1
        replace hx930_2:=hbc_ HB hx930_2
        have HR930_1:=Aside0.mk hi930_1
        have HC930_1:=Aside0.mk hl930_1
        clear hi930_1 hl930_1
        replace p930:=eq_true p930
        replace q930:=eq_true q930
        have p931:0≤(x15_1:Int):=od_
        have q931:x15_1<(l1.length:Int):=od_
        obtain⟨ad931,A931_1,c931_1,e931,hx931_0,hx931_1,hx931_2,hl931_1,hi931_1⟩:=at_T32 HR1.out x15_1 p931 q931
        have hw931_2:=hx931_2
        have hw931_1:=hx931_1
        have hw931_0:=hx931_0
        cases e931
        replace hx931_0:=hbc_ HB hx931_0
        replace hx931_1:=hbc_ HB hx931_1
        replace hx931_2:=hbc_ HB hx931_2
        have HR931_1:=Aside0.mk hi931_1
        have HC931_1:=Aside0.mk hl931_1
        clear hi931_1 hl931_1
        replace p931:=eq_true p931
        replace q931:=eq_true q931
        have p932:0≤(x15_1:Int):=od_
        have q932:x15_1<(l0.length:Int):=od_
        obtain⟨ad932,A932_1,c932_1,e932,hx932_0,hx932_1,hx932_2,hl932_1,hi932_1⟩:=at_T32 HR0.out x15_1 p932 q932
        have hw932_2:=hx932_2
        have hw932_1:=hx932_1
        have hw932_0:=hx932_0
        obtain rfl:ad930=ad932:=(by injection e932)
        replace hx932_0:=hbc_ HB hx932_0
        replace hx932_1:=hbc_ HB hx932_1
        replace hx932_2:=hbc_ HB hx932_2
        have HR932_1:=Aside0.mk hi932_1
        have HC932_1:=Aside0.mk hl932_1
        clear hi932_1 hl932_1
        replace p932:=eq_true p932
        replace q932:=eq_true q932
        have ea_:=Option.some.inj (hx930_1.symm.trans hx932_1)
        injection ea_ with ea_ en_ ec_
        subst ea_
        subst ec_
        clear en_
        have p933:0≤(x15_1:Int):=od_
        have q933:x15_1<(l1.length:Int):=od_
        obtain⟨ad933,A933_1,c933_1,e933,hx933_0,hx933_1,hx933_2,hl933_1,hi933_1⟩:=at_T32 HR1.out x15_1 p933 q933
        have hw933_2:=hx933_2
        have hw933_1:=hx933_1
        have hw933_0:=hx933_0
        obtain rfl:ad931=ad933:=(by injection e933)
        replace hx933_0:=hbc_ HB hx933_0
        replace hx933_1:=hbc_ HB hx933_1
        replace hx933_2:=hbc_ HB hx933_2
        have HR933_1:=Aside0.mk hi933_1
        have HC933_1:=Aside0.mk hl933_1
        clear hi933_1 hl933_1
        replace p933:=eq_true p933
        replace q933:=eq_true q933
        have ea_:=Option.some.inj (hx931_1.symm.trans hx933_1)
        injection ea_ with ea_ en_ ec_
        subst ea_
        subst ec_
        clear en_
        refine start_ (n:=39) (S:=fun w'=>w'.cell? (ad930.add ((x15_1).toNat*3))=some (.int .i64 ((rd_T32 l0 x15_1).f0))∧w'.cell? ⟨(ad930.add ((x15_1).toNat*3)).block,(ad930.add ((x15_1).toNat*3)).off+1,none⟩=some (.slice A930_1 ((rd_T32 l0 x15_1).f1).length c930_1)∧w'.cell? ⟨(ad930.add ((x15_1).toNat*3)).block,(ad930.add ((x15_1).toNat*3)).off+2,none⟩=some (.string ((rd_T32 l0 x15_1).f2))∧w'.cell? (ad931.add ((x15_1).toNat*3))=some (.int .i64 ((rd_T32 l1 x15_1).f0))∧w'.cell? ⟨(ad931.add ((x15_1).toNat*3)).block,(ad931.add ((x15_1).toNat*3)).off+1,none⟩=some (.slice A931_1 ((rd_T32 l1 x15_1).f1).length c931_1)∧w'.cell? ⟨(ad931.add ((x15_1).toNat*3)).block,(ad931.add ((x15_1).toNat*3)).off+2,none⟩=some (.string ((rd_T32 l1 x15_1).f2))∧w'.cell? (ad930.add ((x15_1).toNat*3))=some (.int .i64 ((rd_T32 l0 x15_1).f0))∧w'.cell? ⟨(ad930.add ((x15_1).toNat*3)).block,(ad930.add ((x15_1).toNat*3)).off+1,none⟩=some (.slice A930_1 ((rd_T32 l0 x15_1).f1).length c930_1)∧w'.cell? ⟨(ad930.add ((x15_1).toNat*3)).block,(ad930.add ((x15_1).toNat*3)).off+2,none⟩=some (.string ((rd_T32 l0 x15_1).f2))∧w'.cell? (ad931.add ((x15_1).toNat*3))=some (.int .i64 ((rd_T32 l1 x15_1).f0))∧w'.cell? ⟨(ad931.add ((x15_1).toNat*3)).block,(ad931.add ((x15_1).toNat*3)).off+1,none⟩=some (.slice A931_1 ((rd_T32 l1 x15_1).f1).length c931_1)∧w'.cell? ⟨(ad931.add ((x15_1).toNat*3)).block,(ad931.add ((x15_1).toNat*3)).off+2,none⟩=some (.string ((rd_T32 l1 x15_1).f2))) (ds:=[]) #[false,false,false,false,false,false,false,false,false,false,false,false,false,false,false,false,false,false,false,false,false,false,false,false,false,false,false,false,false,false,false,false,false,false,false,false,false,false,false] (by kernel_rfl) rfl rfl ⟨(hbc_ HB hw930_0),(hbc_ HB hw930_1),(hbc_ HB hw930_2),(hbc_ HB hw931_0),(hbc_ HB hw931_1),(hbc_ HB hw931_2),(hbc_ HB hw932_0),(hbc_ HB hw932_1),(hbc_ HB hw932_2),(hbc_ HB hw933_0),(hbc_ HB hw933_1),(hbc_ HB hw933_2)⟩ (fun hHeld=>?_);refine with_tabW florinlaw06_Same.tab6 florinlaw06_Same.bits6 (fun HT_ HW_=>?_)
        generalize wr.drew=w12 at HB HR930_1 HR931_1 HR932_1 HR933_1 hx930_0 hx930_1 hx930_2 hx931_0 hx931_1 hx931_2 hx932_0 hx932_1 hx932_2 hx933_0 hx933_1 hx933_2 hHeld ⊢
        refine pu_ 0 18 (bm_ 39 1) HT_ ?_
        refine pu_ 1 19 (bm_ 39 3) HT_ ?_
        refine pu_ 2 20 (bm_ 39 7) HT_ ?_
        refine pu_ 3 21 (bm_ 39 15) HT_ ?_
        refine pu_ 5 23 (bm_ 39 47) HT_ ?_
        refine pu_ 6 24 (bm_ 39 111) HT_ ?_
        refine pu_ 7 25 (bm_ 39 239) HT_ ?_
        refine pu_ 8 26 (bm_ 39 495) HT_ ?_
        refine tk_ 4 22 (bm_ 39 511) HT_ HW_ hHeld rfl (by rintro w' ⟨s0,s1,s2,s3,s4,s5,s6,s7,s8,s9,s10,s11⟩;go_simp;with_reducible rfl) ?_
        refine tk_ 9 27 (bm_ 39 1023) HT_ HW_ hHeld rfl (by rintro w' ⟨s0,s1,s2,s3,s4,s5,s6,s7,s8,s9,s10,s11⟩;go_simp;with_reducible rfl) ?_
        refine pu_ 10 28 (bm_ 39 2047) HT_ ?_
        refine pu_ 11 29 (bm_ 39 4095) HT_ ?_
        refine pu_ 12 30 (bm_ 39 8191) HT_ ?_
        refine pu_ 13 31 (bm_ 39 16383) HT_ ?_
        refine pu_ 14 32 (bm_ 39 32767) HT_ ?_
        refine pu_ 15 33 (bm_ 39 65535) HT_ ?_
        refine pu_ 17 35 (bm_ 39 196607) HT_ ?_
        refine pu_ 18 36 (bm_ 39 458751) HT_ ?_
        refine pu_ 19 37 (bm_ 39 983039) HT_ ?_
        refine pu_ 20 38 (bm_ 39 2031615) HT_ ?_
        refine tk_ 16 34 (bm_ 39 2097151) HT_ HW_ hHeld rfl (by rintro w' ⟨s0,s1,s2,s3,s4,s5,s6,s7,s8,s9,s10,s11⟩;go_simp;with_reducible rfl) ?_
        refine tk_ 21 39 (bm_ 39 4194303) HT_ HW_ hHeld rfl (by rintro w' ⟨s0,s1,s2,s3,s4,s5,s6,s7,s8,s9,s10,s11⟩;go_simp;with_reducible rfl) ?_
        refine pu_ 22 40 (bm_ 39 8388607) HT_ ?_
        refine pu_ 23 41 (bm_ 39 16777215) HT_ ?_
        refine pu_ 24 42 (bm_ 39 33554431) HT_ ?_
        refine pn_ 25 43 (bm_ 39 67108863) HT_ ?_
        refine pn_ 26 44 (bm_ 39 134217727) HT_ ?_
        refine pn_ 27 45 (bm_ 39 268435455) HT_ ?_
        refine pn_ 28 46 (bm_ 39 536870911) HT_ ?_
        refine pn_ 29 47 (bm_ 39 1073741823) HT_ ?_
        refine pn_ 30 48 (bm_ 39 2147483647) HT_ ?_
        refine pn_ 31 49 (bm_ 39 4294967295) HT_ ?_
        refine pn_ 32 50 (bm_ 39 8589934591) HT_ ?_
        refine pn_ 33 51 (bm_ 39 17179869183) HT_ ?_
        refine pn_ 34 52 (bm_ 39 34359738367) HT_ ?_
        refine pn_ 35 53 (bm_ 39 68719476735) HT_ ?_
        refine pn_ 36 54 (bm_ 39 137438953471) HT_ ?_
        refine pn_ 37 55 (bm_ 39 274877906943) HT_ ?_
        refine pu_ 38 56 (bm_ 39 549755813887) HT_ ?_
        refine done_ (done_of HT_.out (by kernel_rfl)) ?_
        try go_wp2
        go_meet
        case rel=>exact⟨_,(true),eq_,H',⟨by have:=HK1.out;first|omega|exact Nat.le_refl _⟩,(bl_ HB)⟩
      ·rw[if_neg c9] at H
       have c9b0:(((rd_T32 l0 x15_1).f0)==((rd_T32 l1 x15_1).f0))=false:=beq_eq_false_iff_ne.mpr c9
       have c9b1:(((rd_T32 l0 x15_1).f0) !=((rd_T32 l1 x15_1).f0))=true:=bne_iff_ne.mpr c9
       have H':=Aside0.mk H
       clear H
       try go_wp2
       replace HB:=Aside0.mk (below_drew1 HB.out)
       have p930:0≤(x15_1:Int):=od_
       have q930:x15_1<(l0.length:Int):=od_
       obtain⟨ad930,A930_1,c930_1,e930,hx930_0,hx930_1,hx930_2,hl930_1,hi930_1⟩:=at_T32 HR0.out x15_1 p930 q930
       have hw930_2:=hx930_2
       have hw930_1:=hx930_1
       have hw930_0:=hx930_0
       cases e930
       replace hx930_0:=hbc_ HB hx930_0
       replace hx930_1:=hbc_ HB hx930_1
       replace hx930_2:=hbc_ HB hx930_2
       have HR930_1:=Aside0.mk hi930_1
       have HC930_1:=Aside0.mk hl930_1
       clear hi930_1 hl930_1
       replace p930:=eq_true p930
       replace q930:=eq_true q930
       have p931:0≤(x15_1:Int):=od_
       have q931:x15_1<(l1.length:Int):=od_
       obtain⟨ad931,A931_1,c931_1,e931,hx931_0,hx931_1,hx931_2,hl931_1,hi931_1⟩:=at_T32 HR1.out x15_1 p931 q931
       have hw931_2:=hx931_2
       have hw931_1:=hx931_1
       have hw931_0:=hx931_0
       cases e931
       replace hx931_0:=hbc_ HB hx931_0
       replace hx931_1:=hbc_ HB hx931_1
       replace hx931_2:=hbc_ HB hx931_2
       have HR931_1:=Aside0.mk hi931_1
       have HC931_1:=Aside0.mk hl931_1
       clear hi931_1 hl931_1
       replace p931:=eq_true p931
       replace q931:=eq_true q931
       refine start_ (n:=39) (S:=fun w'=>w'.cell? (ad930.add ((x15_1).toNat*3))=some (.int .i64 ((rd_T32 l0 x15_1).f0))∧w'.cell? ⟨(ad930.add ((x15_1).toNat*3)).block,(ad930.add ((x15_1).toNat*3)).off+1,none⟩=some (.slice A930_1 ((rd_T32 l0 x15_1).f1).length c930_1)∧w'.cell? ⟨(ad930.add ((x15_1).toNat*3)).block,(ad930.add ((x15_1).toNat*3)).off+2,none⟩=some (.string ((rd_T32 l0 x15_1).f2))∧w'.cell? (ad931.add ((x15_1).toNat*3))=some (.int .i64 ((rd_T32 l1 x15_1).f0))∧w'.cell? ⟨(ad931.add ((x15_1).toNat*3)).block,(ad931.add ((x15_1).toNat*3)).off+1,none⟩=some (.slice A931_1 ((rd_T32 l1 x15_1).f1).length c931_1)∧w'.cell? ⟨(ad931.add ((x15_1).toNat*3)).block,(ad931.add ((x15_1).toNat*3)).off+2,none⟩=some (.string ((rd_T32 l1 x15_1).f2))) (ds:=[]) #[false,false,false,false,false,false,false,false,false,false,false,false,false,false,false,false,false,false,false,false,false,false,false,false,false,false,false,false,false,false,false,false,false,false,false,false,false,false,false] (by kernel_rfl) rfl rfl ⟨(hbc_ HB hw930_0),(hbc_ HB hw930_1),(hbc_ HB hw930_2),(hbc_ HB hw931_0),(hbc_ HB hw931_1),(hbc_ HB hw931_2)⟩ (fun hHeld=>?_);refine with_tabW florinlaw06_Same.tab6 florinlaw06_Same.bits6 (fun HT_ HW_=>?_)
       generalize wr.drew=w13 at HB HR930_1 HR931_1 hx930_0 hx930_1 hx930_2 hx931_0 hx931_1 hx931_2 hHeld ⊢
       refine pu_ 0 18 (bm_ 39 1) HT_ ?_
       refine pu_ 1 19 (bm_ 39 3) HT_ ?_
       refine pu_ 2 20 (bm_ 39 7) HT_ ?_
       refine pu_ 3 21 (bm_ 39 15) HT_ ?_
       refine pu_ 5 23 (bm_ 39 47) HT_ ?_
       refine pu_ 6 24 (bm_ 39 111) HT_ ?_
       refine pu_ 7 25 (bm_ 39 239) HT_ ?_
       refine pu_ 8 26 (bm_ 39 495) HT_ ?_
       refine tk_ 4 22 (bm_ 39 511) HT_ HW_ hHeld rfl (by rintro w' ⟨s0,s1,s2,s3,s4,s5⟩;go_simp;with_reducible rfl) ?_
       refine tk_ 9 27 (bm_ 39 1023) HT_ HW_ hHeld rfl (by rintro w' ⟨s0,s1,s2,s3,s4,s5⟩;go_simp;with_reducible rfl) ?_
       refine pu_ 10 28 (bm_ 39 2047) HT_ ?_
       refine pu_ 11 29 (bm_ 39 4095) HT_ ?_
       refine pn_ 12 30 (bm_ 39 8191) HT_ ?_
       refine pn_ 13 31 (bm_ 39 16383) HT_ ?_
       refine pn_ 14 32 (bm_ 39 32767) HT_ ?_
       refine pn_ 15 33 (bm_ 39 65535) HT_ ?_
       refine pn_ 16 34 (bm_ 39 131071) HT_ ?_
       refine pn_ 17 35 (bm_ 39 262143) HT_ ?_
       refine pn_ 18 36 (bm_ 39 524287) HT_ ?_
       refine pn_ 19 37 (bm_ 39 1048575) HT_ ?_
       refine pn_ 20 38 (bm_ 39 2097151) HT_ ?_
       refine pn_ 21 39 (bm_ 39 4194303) HT_ ?_
       refine pn_ 22 40 (bm_ 39 8388607) HT_ ?_
       refine pu_ 23 41 (bm_ 39 16777215) HT_ ?_
       refine pu_ 24 42 (bm_ 39 33554431) HT_ ?_
       refine pn_ 25 43 (bm_ 39 67108863) HT_ ?_
       refine pn_ 26 44 (bm_ 39 134217727) HT_ ?_
       refine pn_ 27 45 (bm_ 39 268435455) HT_ ?_
       refine pn_ 28 46 (bm_ 39 536870911) HT_ ?_
       refine pn_ 29 47 (bm_ 39 1073741823) HT_ ?_
       refine pn_ 30 48 (bm_ 39 2147483647) HT_ ?_
       refine pn_ 31 49 (bm_ 39 4294967295) HT_ ?_
       refine pn_ 32 50 (bm_ 39 8589934591) HT_ ?_
       refine pn_ 33 51 (bm_ 39 17179869183) HT_ ?_
       refine pn_ 34 52 (bm_ 39 34359738367) HT_ ?_
       refine pn_ 35 53 (bm_ 39 68719476735) HT_ ?_
       refine pn_ 36 54 (bm_ 39 137438953471) HT_ ?_
       refine pn_ 37 55 (bm_ 39 274877906943) HT_ ?_
       refine pu_ 38 56 (bm_ 39 549755813887) HT_ ?_
       refine done_ (done_of HT_.out (by kernel_rfl)) ?_
       try go_wp2
       go_meet
       case rel=>exact⟨_,(true),eq_,H',⟨by have:=HK1.out;first|omega|exact Nat.le_refl _⟩,(bl_ HB)⟩
     case rest =>
      clear HC5
      obtain⟨kq,x56_4,rfl,HA,HJ4,HB⟩:=hcut
      cases kq with
      | zero=>exact absurd HA.out (by simp[florinlaw06_Same.j1])
      | succ kj4 =>
       have H:=HA.out
       clear HA
       simp only[florinlaw06_Same.j1] at H
       by_cases c14:x56_4=true
       ·subst c14
        have H1:(some false)=some r:=by rw[if_pos rfl] at H;exact H
        clear H
        have H:=H1
        clear H1
        obtain rfl:=Option.some.inj H
        go_wp2
        go_ret
        exact⟨ew_,(bl_ HB).out⟩
       ·replace c14:=Bool.eq_false_iff.mpr c14
        subst c14
        have H1:(if 0≤x15_1 then (if x15_1<(l0.length:Int) then (florinlaw06_Same.l1 kj4 l0 l1 x15_1 (l0.length:Int) x15_1 (((rd_T32 l0 x15_1).f1).length:Int) 0) else (none)) else (none))=some r:=by rw[if_neg (show ¬(false=true) by decide)] at H;exact H
        clear H
        have H:=H1
        clear H1
        replace H:=ifn_ H
        obtain⟨c15,H⟩:=H
        have c15b0:decide (0≤x15_1)=true:=decide_eq_true c15
        clear c15
        replace H:=ifn_ H
        obtain⟨c16,H⟩:=H
        have c16b0:decide (x15_1<(l0.length:Int))=true:=decide_eq_true c16
        clear c16
        have H':=Aside0.mk H
        clear H
        have p936:0≤(x15_1:Int):=od_
        have q936:x15_1<(l0.length:Int):=od_
        obtain⟨ad936,A936_1,c936_1,e936,hx936_0,hx936_1,hx936_2,hl936_1,hi936_1⟩:=at_T32 HR0.out x15_1 p936 q936
        cases e936
        replace hx936_0:=hbc_ HB hx936_0
        replace hx936_1:=hbc_ HB hx936_1
        replace hx936_2:=hbc_ HB hx936_2
        have HR936_1:=Aside0.mk hi936_1
        have HC936_1:=Aside0.mk hl936_1
        clear hi936_1 hl936_1
        replace p936:=eq_true p936
        replace q936:=eq_true q936
        go_wp2
        go_loopg [63] kj4 (fun kq v63 w'=>∃(x63_3:Int),v63= .int .i64 x63_3∧Aside0 (florinlaw06_Same.l1 kq l0 l1 x15_1 (l0.length:Int) x15_1 (((rd_T32 l0 x15_1).f1).length:Int) x63_3=some r)∧Aside0 (kq≤kj4)∧Aside0 (Below w.heap.size w w'))
        case atStart=>exact⟨(0),eq_,H',⟨Nat.le_refl _⟩,(bl_ HB)⟩
        case round =>
         clear H'
         obtain⟨x63_3,rfl,HA,HK3,HB⟩:=hrel
         cases gk with
         | zero=>exact absurd HA.out (by simp[florinlaw06_Same.l1])
         | succ k3 =>
          have H:=HA.out
          clear HA
          simp only[florinlaw06_Same.l1] at H
          by_cases c17:x63_3<(((rd_T32 l0 x15_1).f1).length:Int)
          ·rw[if_pos c17] at H
           have c17b0:=decide_eq_true c17
           clear c17
           replace H:=ifn_ H
           obtain⟨c18,H⟩:=H
           have c18b0:decide (0≤x15_1)=true:=decide_eq_true c18
           clear c18
           replace H:=ifn_ H
           obtain⟨c19,H⟩:=H
           have c19b0:decide (x15_1<(l0.length:Int))=true:=decide_eq_true c19
           clear c19
           replace H:=ifn_ H
           obtain⟨c20,H⟩:=H
           have c20b0:decide (0≤x63_3)=true:=decide_eq_true c20
           clear c20
           replace H:=ifn_ H
           obtain⟨c21,H⟩:=H
           have c21b0:decide (x63_3<(((rd_T32 l0 x15_1).f1).length:Int))=true:=decide_eq_true c21
           clear c21
           replace H:=ifn_ H
           obtain⟨c22,H⟩:=H
           have c22b0:decide (x15_1<(l1.length:Int))=true:=decide_eq_true c22
           clear c22
           replace H:=ifn_ H
           obtain⟨c23,H⟩:=H
           have c23b0:decide (x63_3<(((rd_T32 l1 x15_1).f1).length:Int))=true:=decide_eq_true c23
           clear c23
           by_cases c24:((rd_L7 ((rd_T32 l0 x15_1).f1) x63_3).length:Int)=((rd_L7 ((rd_T32 l1 x15_1).f1) x63_3).length:Int)
           ·rw[if_pos c24] at H
            have c24b0:(((rd_L7 ((rd_T32 l0 x15_1).f1) x63_3).length:Int)==((rd_L7 ((rd_T32 l1 x15_1).f1) x63_3).length:Int))=true:=beq_iff_eq.mpr c24
            have c24b1:(((rd_L7 ((rd_T32 l0 x15_1).f1) x63_3).length:Int) !=((rd_L7 ((rd_T32 l1 x15_1).f1) x63_3).length:Int))=false:=bne_eq_false_iff_eq.mpr c24
            have c24b2:((rd_L7 ((rd_T32 l0 x15_1).f1) x63_3).length==(rd_L7 ((rd_T32 l1 x15_1).f1) x63_3).length)=true:=by first|simpa using c24|(simp at c24 ⊢;omega)
            clear c24
            have H':=Aside0.mk H
            clear H
            try go_wp2
            replace HB:=Aside0.mk (below_drew1 HB.out)
            have p937:0≤(x15_1:Int):=od_
            have q937:x15_1<(l0.length:Int):=od_
            obtain⟨ad937,A937_1,c937_1,e937,hx937_0,hx937_1,hx937_2,hl937_1,hi937_1⟩:=at_T32 HR0.out x15_1 p937 q937
            have hw937_2:=hx937_2
            have hw937_1:=hx937_1
            have hw937_0:=hx937_0
            obtain rfl:ad936=ad937:=(by injection e937)
            replace hx937_0:=hbc_ HB hx937_0
            replace hx937_1:=hbc_ HB hx937_1
            replace hx937_2:=hbc_ HB hx937_2
            have HR937_1:=Aside0.mk hi937_1
            have HC937_1:=Aside0.mk hl937_1
            clear hi937_1 hl937_1
            replace p937:=eq_true p937
            replace q937:=eq_true q937
            have p938:0≤(x63_3:Int):=od_
            have q938:x63_3<(((rd_T32 l0 x15_1).f1).length:Int):=od_
            obtain⟨ad938,A938_0,c938_0,e938,hx938_0,hl938_0,hi938_0⟩:=at_L7 HR937_1.out x63_3 p938 q938
            have hw938_0:=hx938_0
            cases e938
            replace hx938_0:=hbc_ HB hx938_0
            have HR938_0:=Aside0.mk hi938_0
            have HC938_0:=Aside0.mk hl938_0
            clear hi938_0 hl938_0
            replace p938:=eq_true p938
            replace q938:=eq_true q938
            have p939:0≤(x15_1:Int):=od_
            have q939:x15_1<(l1.length:Int):=od_
            obtain⟨ad939,A939_1,c939_1,e939,hx939_0,hx939_1,hx939_2,hl939_1,hi939_1⟩:=at_T32 HR1.out x15_1 p939 q939
            have hw939_2:=hx939_2
            have hw939_1:=hx939_1
            have hw939_0:=hx939_0
            cases e939
            replace hx939_0:=hbc_ HB hx939_0
            replace hx939_1:=hbc_ HB hx939_1
            replace hx939_2:=hbc_ HB hx939_2
            have HR939_1:=Aside0.mk hi939_1
            have HC939_1:=Aside0.mk hl939_1
            clear hi939_1 hl939_1
            replace p939:=eq_true p939
            replace q939:=eq_true q939
            have p940:0≤(x63_3:Int):=od_
            have q940:x63_3<(((rd_T32 l1 x15_1).f1).length:Int):=od_
            obtain⟨ad940,A940_0,c940_0,e940,hx940_0,hl940_0,hi940_0⟩:=at_L7 HR939_1.out x63_3 p940 q940
            have hw940_0:=hx940_0
            cases e940
            replace hx940_0:=hbc_ HB hx940_0
            have HR940_0:=Aside0.mk hi940_0
            have HC940_0:=Aside0.mk hl940_0
            clear hi940_0 hl940_0
            replace p940:=eq_true p940
            replace q940:=eq_true q940
            refine start_ (n:=19) (S:=fun w'=>w'.cell? (ad936.add ((x15_1).toNat*3))=some (.int .i64 ((rd_T32 l0 x15_1).f0))∧w'.cell? ⟨(ad936.add ((x15_1).toNat*3)).block,(ad936.add ((x15_1).toNat*3)).off+1,none⟩=some (.slice (some ad938) ((rd_T32 l0 x15_1).f1).length c937_1)∧w'.cell? ⟨(ad936.add ((x15_1).toNat*3)).block,(ad936.add ((x15_1).toNat*3)).off+2,none⟩=some (.string ((rd_T32 l0 x15_1).f2))∧w'.cell? (ad938.add (x63_3).toNat)=some (.slice A938_0 (rd_L7 ((rd_T32 l0 x15_1).f1) x63_3).length c938_0)∧w'.cell? (ad939.add ((x15_1).toNat*3))=some (.int .i64 ((rd_T32 l1 x15_1).f0))∧w'.cell? ⟨(ad939.add ((x15_1).toNat*3)).block,(ad939.add ((x15_1).toNat*3)).off+1,none⟩=some (.slice (some ad940) ((rd_T32 l1 x15_1).f1).length c939_1)∧w'.cell? ⟨(ad939.add ((x15_1).toNat*3)).block,(ad939.add ((x15_1).toNat*3)).off+2,none⟩=some (.string ((rd_T32 l1 x15_1).f2))∧w'.cell? (ad940.add (x63_3).toNat)=some (.slice A940_0 (rd_L7 ((rd_T32 l1 x15_1).f1) x63_3).length c940_0)) (ds:=[]) #[false,false,false,false,false,false,false,false,false,false,false,false,false,false,false,false,false,false,false] (by kernel_rfl) rfl rfl ⟨(hbc_ HB hw937_0),(hbc_ HB hw937_1),(hbc_ HB hw937_2),(hbc_ HB hw938_0),(hbc_ HB hw939_0),(hbc_ HB hw939_1),(hbc_ HB hw939_2),(hbc_ HB hw940_0)⟩ (fun hHeld=>?_);refine with_tabW florinlaw06_Same.tab11 florinlaw06_Same.bits11 (fun HT_ HW_=>?_)
            generalize wr.drew=w25 at HB HR937_1 HR938_0 HR939_1 HR940_0 hx937_0 hx937_1 hx937_2 hx938_0 hx939_0 hx939_1 hx939_2 hx940_0 hHeld ⊢
            refine pu_ 0 66 (bm_ 19 1) HT_ ?_
            refine pu_ 1 67 (bm_ 19 3) HT_ ?_
            refine pu_ 2 68 (bm_ 19 7) HT_ ?_
            refine pu_ 3 69 (bm_ 19 15) HT_ ?_
            refine pu_ 5 71 (bm_ 19 47) HT_ ?_
            refine pu_ 9 75 (bm_ 19 559) HT_ ?_
            refine pu_ 10 76 (bm_ 19 1583) HT_ ?_
            refine pu_ 11 77 (bm_ 19 3631) HT_ ?_
            refine pu_ 12 78 (bm_ 19 7727) HT_ ?_
            refine pu_ 14 80 (bm_ 19 24111) HT_ ?_
            refine tk_ 4 70 (bm_ 19 24127) HT_ HW_ hHeld rfl (by rintro w' ⟨s0,s1,s2,s3,s4,s5,s6,s7⟩;go_simp;with_reducible rfl) ?_
            refine pu_ 6 72 (bm_ 19 24191) HT_ ?_
            refine tk_ 7 73 (bm_ 19 24319) HT_ HW_ hHeld rfl (by rintro w' ⟨s0,s1,s2,s3,s4,s5,s6,s7⟩;go_simp;with_reducible rfl) ?_
            refine pu_ 8 74 (bm_ 19 24575) HT_ ?_
            refine tk_ 13 79 (bm_ 19 32767) HT_ HW_ hHeld rfl (by rintro w' ⟨s0,s1,s2,s3,s4,s5,s6,s7⟩;go_simp;with_reducible rfl) ?_
            refine pu_ 15 81 (bm_ 19 65535) HT_ ?_
            refine tk_ 16 82 (bm_ 19 131071) HT_ HW_ hHeld rfl (by rintro w' ⟨s0,s1,s2,s3,s4,s5,s6,s7⟩;go_simp;with_reducible rfl) ?_
            refine pu_ 17 83 (bm_ 19 262143) HT_ ?_
            refine pu_ 18 84 (bm_ 19 524287) HT_ ?_
            refine done_ (done_of HT_.out (by kernel_rfl)) ?_
            have p941:0≤(x15_1:Int):=od_
            have q941:x15_1<(l0.length:Int):=od_
            obtain⟨ad941,A941_1,c941_1,e941,hx941_0,hx941_1,hx941_2,hl941_1,hi941_1⟩:=at_T32 HR0.out x15_1 p941 q941
            obtain rfl:ad936=ad941:=(by injection e941)
            replace hx941_0:=hbc_ HB hx941_0
            replace hx941_1:=hbc_ HB hx941_1
            replace hx941_2:=hbc_ HB hx941_2
            have HR941_1:=Aside0.mk hi941_1
            have HC941_1:=Aside0.mk hl941_1
            clear hi941_1 hl941_1
            replace p941:=eq_true p941
            replace q941:=eq_true q941
            have ea_:=Option.some.inj (hx937_1.symm.trans hx941_1)
            injection ea_ with ea_ en_ ec_
            subst ea_
            subst ec_
            clear en_
            have p942:0≤(x63_3:Int):=od_
            have q942:x63_3<(((rd_T32 l0 x15_1).f1).length:Int):=od_
            obtain⟨ad942,A942_0,c942_0,e942,hx942_0,hl942_0,hi942_0⟩:=at_L7 HR941_1.out x63_3 p942 q942
            cases e942
            replace hx942_0:=hbc_ HB hx942_0
            have HR942_0:=Aside0.mk hi942_0
            have HC942_0:=Aside0.mk hl942_0
            clear hi942_0 hl942_0
            replace p942:=eq_true p942
            replace q942:=eq_true q942
            have ea_:=Option.some.inj (hx938_0.symm.trans hx942_0)
            injection ea_ with ea_ en_ ec_
            subst ea_
            subst ec_
            clear en_
            try go_wp2
            go_loopg [94] k3 (fun kq v94 w'=>∃(x94_4:Int),v94= .int .i64 x94_4∧Aside0 (florinlaw06_Same.l2 kq l0 l1 x15_1 x63_3 (l0.length:Int) x15_1 (((rd_T32 l0 x15_1).f1).length:Int) x63_3 ((rd_L7 ((rd_T32 l0 x15_1).f1) x63_3).length:Int) x94_4=some r)∧Aside0 (kq≤k3)∧Aside0 (Below w.heap.size w w'))
            case atStart=>exact⟨(0),eq_,H',⟨Nat.le_refl _⟩,(bl_ HB)⟩
            case round =>
             clear H'
             obtain⟨x94_4,rfl,HA,HK4,HB⟩:=hrel
             cases gk with
             | zero=>exact absurd HA.out (by simp[florinlaw06_Same.l2])
             | succ k4 =>
              have H:=HA.out
              clear HA
              simp only[florinlaw06_Same.l2] at H
              by_cases c26:x94_4<((rd_L7 ((rd_T32 l0 x15_1).f1) x63_3).length:Int)
              ·rw[if_pos c26] at H
               have c26b0:=decide_eq_true c26
               clear c26
               replace H:=ifn_ H
               obtain⟨c27,H⟩:=H
               have c27b0:decide (0≤x15_1)=true:=decide_eq_true c27
               clear c27
               replace H:=ifn_ H
               obtain⟨c28,H⟩:=H
               have c28b0:decide (x15_1<(l0.length:Int))=true:=decide_eq_true c28
               clear c28
               replace H:=ifn_ H
               obtain⟨c29,H⟩:=H
               have c29b0:decide (0≤x63_3)=true:=decide_eq_true c29
               clear c29
               replace H:=ifn_ H
               obtain⟨c30,H⟩:=H
               have c30b0:decide (x63_3<(((rd_T32 l0 x15_1).f1).length:Int))=true:=decide_eq_true c30
               clear c30
               replace H:=ifn_ H
               obtain⟨c31,H⟩:=H
               have c31b0:decide (0≤x94_4)=true:=decide_eq_true c31
               clear c31
               replace H:=ifn_ H
               obtain⟨c32,H⟩:=H
               have c32b0:decide (x94_4<((rd_L7 ((rd_T32 l0 x15_1).f1) x63_3).length:Int))=true:=decide_eq_true c32
               clear c32
               replace H:=ifn_ H
               obtain⟨c33,H⟩:=H
               have c33b0:decide (x15_1<(l1.length:Int))=true:=decide_eq_true c33
               clear c33
               replace H:=ifn_ H
               obtain⟨c34,H⟩:=H
               have c34b0:decide (x63_3<(((rd_T32 l1 x15_1).f1).length:Int))=true:=decide_eq_true c34
               clear c34
               replace H:=ifn_ H
               obtain⟨c35,H⟩:=H
               have c35b0:decide (x94_4<((rd_L7 ((rd_T32 l1 x15_1).f1) x63_3).length:Int))=true:=decide_eq_true c35
               clear c35
               replace H:=Option.bind_eq_some_iff.mp H
               obtain⟨t949,A360,H⟩:=H
               have A36:=Aside0.mk A360
               clear A360
               by_cases c37:t949=true
               ·subst c37
                have H1:(florinlaw06_Same.l2 k4 l0 l1 x15_1 x63_3 (l0.length:Int) x15_1 (((rd_T32 l0 x15_1).f1).length:Int) x63_3 ((rd_L7 ((rd_T32 l0 x15_1).f1) x63_3).length:Int) (wrap64 (x94_4+1)))=some r:=by rw[if_pos rfl] at H;exact H
                clear H
                have H:=H1
                clear H1
                have H':=Aside0.mk H
                clear H
                try go_wp2
                replace HB:=Aside0.mk (below_drew1 HB.out)
                have p943:0≤(x15_1:Int):=od_
                have q943:x15_1<(l0.length:Int):=od_
                obtain⟨ad943,A943_1,c943_1,e943,hx943_0,hx943_1,hx943_2,hl943_1,hi943_1⟩:=at_T32 HR0.out x15_1 p943 q943
                have hw943_2:=hx943_2
                have hw943_1:=hx943_1
                have hw943_0:=hx943_0
                obtain rfl:ad936=ad943:=(by injection e943)
                replace hx943_0:=hbc_ HB hx943_0
                replace hx943_1:=hbc_ HB hx943_1
                replace hx943_2:=hbc_ HB hx943_2
                have HR943_1:=Aside0.mk hi943_1
                have HC943_1:=Aside0.mk hl943_1
                clear hi943_1 hl943_1
                replace p943:=eq_true p943
                replace q943:=eq_true q943
                have p944:0≤(x63_3:Int):=od_
                have q944:x63_3<(((rd_T32 l0 x15_1).f1).length:Int):=od_
                obtain⟨ad944,A944_0,c944_0,e944,hx944_0,hl944_0,hi944_0⟩:=at_L7 HR943_1.out x63_3 p944 q944
                have hw944_0:=hx944_0
                cases e944
                replace hx944_0:=hbc_ HB hx944_0
                have HR944_0:=Aside0.mk hi944_0
                have HC944_0:=Aside0.mk hl944_0
                clear hi944_0 hl944_0
                replace p944:=eq_true p944
                replace q944:=eq_true q944
                have p945:0≤(x94_4:Int):=od_
                have q945:x94_4<((rd_L7 ((rd_T32 l0 x15_1).f1) x63_3).length:Int):=od_
                obtain⟨ad945,A945_3,c945_3,e945,hx945_0,hx945_1,hx945_2,hx945_3,hl945_3,hi945_3⟩:=at_T36 HR944_0.out x94_4 p945 q945
                have hw945_3:=hx945_3
                have hw945_2:=hx945_2
                have hw945_1:=hx945_1
                have hw945_0:=hx945_0
                cases e945
                replace hx945_0:=hbc_ HB hx945_0
                replace hx945_1:=hbc_ HB hx945_1
                replace hx945_2:=hbc_ HB hx945_2
                replace hx945_3:=hbc_ HB hx945_3
                have HR945_3:=Aside0.mk hi945_3
                have HC945_3:=Aside0.mk hl945_3
                clear hi945_3 hl945_3
                replace p945:=eq_true p945
                replace q945:=eq_true q945
                have p946:0≤(x15_1:Int):=od_
                have q946:x15_1<(l1.length:Int):=od_
                obtain⟨ad946,A946_1,c946_1,e946,hx946_0,hx946_1,hx946_2,hl946_1,hi946_1⟩:=at_T32 HR1.out x15_1 p946 q946
                have hw946_2:=hx946_2
                have hw946_1:=hx946_1
                have hw946_0:=hx946_0
                obtain rfl:ad939=ad946:=(by injection e946)
                replace hx946_0:=hbc_ HB hx946_0
                replace hx946_1:=hbc_ HB hx946_1
                replace hx946_2:=hbc_ HB hx946_2
                have HR946_1:=Aside0.mk hi946_1
                have HC946_1:=Aside0.mk hl946_1
                clear hi946_1 hl946_1
                replace p946:=eq_true p946
                replace q946:=eq_true q946
                have p947:0≤(x63_3:Int):=od_
                have q947:x63_3<(((rd_T32 l1 x15_1).f1).length:Int):=od_
                obtain⟨ad947,A947_0,c947_0,e947,hx947_0,hl947_0,hi947_0⟩:=at_L7 HR946_1.out x63_3 p947 q947
                have hw947_0:=hx947_0
                cases e947
                replace hx947_0:=hbc_ HB hx947_0
                have HR947_0:=Aside0.mk hi947_0
                have HC947_0:=Aside0.mk hl947_0
                clear hi947_0 hl947_0
                replace p947:=eq_true p947
                replace q947:=eq_true q947
                have p948:0≤(x94_4:Int):=od_
                have q948:x94_4<((rd_L7 ((rd_T32 l1 x15_1).f1) x63_3).length:Int):=od_
                obtain⟨ad948,A948_3,c948_3,e948,hx948_0,hx948_1,hx948_2,hx948_3,hl948_3,hi948_3⟩:=at_T36 HR947_0.out x94_4 p948 q948
                have hw948_3:=hx948_3
                have hw948_2:=hx948_2
                have hw948_1:=hx948_1
                have hw948_0:=hx948_0
                cases e948
                replace hx948_0:=hbc_ HB hx948_0
                replace hx948_1:=hbc_ HB hx948_1
                replace hx948_2:=hbc_ HB hx948_2
                replace hx948_3:=hbc_ HB hx948_3
                have HR948_3:=Aside0.mk hi948_3
                have HC948_3:=Aside0.mk hl948_3
                clear hi948_3 hl948_3
                replace p948:=eq_true p948
                replace q948:=eq_true q948
                refine start_ (n:=24) (S:=fun w'=>w'.cell? (ad936.add ((x15_1).toNat*3))=some (.int .i64 ((rd_T32 l0 x15_1).f0))∧w'.cell? ⟨(ad936.add ((x15_1).toNat*3)).block,(ad936.add ((x15_1).toNat*3)).off+1,none⟩=some (.slice (some ad944) ((rd_T32 l0 x15_1).f1).length c943_1)∧w'.cell? ⟨(ad936.add ((x15_1).toNat*3)).block,(ad936.add ((x15_1).toNat*3)).off+2,none⟩=some (.string ((rd_T32 l0 x15_1).f2))∧w'.cell? (ad944.add (x63_3).toNat)=some (.slice (some ad945) (rd_L7 ((rd_T32 l0 x15_1).f1) x63_3).length c944_0)∧w'.cell? (ad945.add ((x94_4).toNat*4))=some (.int .u8 ((rd_T36 (rd_L7 ((rd_T32 l0 x15_1).f1) x63_3) x94_4).f0))∧w'.cell? ⟨(ad945.add ((x94_4).toNat*4)).block,(ad945.add ((x94_4).toNat*4)).off+1,none⟩=some (.int .i64 ((rd_T36 (rd_L7 ((rd_T32 l0 x15_1).f1) x63_3) x94_4).f1))∧w'.cell? ⟨(ad945.add ((x94_4).toNat*4)).block,(ad945.add ((x94_4).toNat*4)).off+2,none⟩=some (.bool ((rd_T36 (rd_L7 ((rd_T32 l0 x15_1).f1) x63_3) x94_4).f2))∧w'.cell? ⟨(ad945.add ((x94_4).toNat*4)).block,(ad945.add ((x94_4).toNat*4)).off+3,none⟩=some (.slice A945_3 ((rd_T36 (rd_L7 ((rd_T32 l0 x15_1).f1) x63_3) x94_4).f3).length c945_3)∧w'.cell? (ad939.add ((x15_1).toNat*3))=some (.int .i64 ((rd_T32 l1 x15_1).f0))∧w'.cell? ⟨(ad939.add ((x15_1).toNat*3)).block,(ad939.add ((x15_1).toNat*3)).off+1,none⟩=some (.slice (some ad947) ((rd_T32 l1 x15_1).f1).length c946_1)∧w'.cell? ⟨(ad939.add ((x15_1).toNat*3)).block,(ad939.add ((x15_1).toNat*3)).off+2,none⟩=some (.string ((rd_T32 l1 x15_1).f2))∧w'.cell? (ad947.add (x63_3).toNat)=some (.slice (some ad948) (rd_L7 ((rd_T32 l1 x15_1).f1) x63_3).length c947_0)∧w'.cell? (ad948.add ((x94_4).toNat*4))=some (.int .u8 ((rd_T36 (rd_L7 ((rd_T32 l1 x15_1).f1) x63_3) x94_4).f0))∧w'.cell? ⟨(ad948.add ((x94_4).toNat*4)).block,(ad948.add ((x94_4).toNat*4)).off+1,none⟩=some (.int .i64 ((rd_T36 (rd_L7 ((rd_T32 l1 x15_1).f1) x63_3) x94_4).f1))∧w'.cell? ⟨(ad948.add ((x94_4).toNat*4)).block,(ad948.add ((x94_4).toNat*4)).off+2,none⟩=some (.bool ((rd_T36 (rd_L7 ((rd_T32 l1 x15_1).f1) x63_3) x94_4).f2))∧w'.cell? ⟨(ad948.add ((x94_4).toNat*4)).block,(ad948.add ((x94_4).toNat*4)).off+3,none⟩=some (.slice A948_3 ((rd_T36 (rd_L7 ((rd_T32 l1 x15_1).f1) x63_3) x94_4).f3).length c948_3)) (ds:=[]) #[false,false,false,false,false,false,false,false,false,false,false,false,false,false,false,false,false,false,false,false,false,false,false,false] (by kernel_rfl) rfl rfl ⟨(hbc_ HB hw943_0),(hbc_ HB hw943_1),(hbc_ HB hw943_2),(hbc_ HB hw944_0),(hbc_ HB hw945_0),(hbc_ HB hw945_1),(hbc_ HB hw945_2),(hbc_ HB hw945_3),(hbc_ HB hw946_0),(hbc_ HB hw946_1),(hbc_ HB hw946_2),(hbc_ HB hw947_0),(hbc_ HB hw948_0),(hbc_ HB hw948_1),(hbc_ HB hw948_2),(hbc_ HB hw948_3)⟩ (fun hHeld=>?_);refine with_tabW florinlaw06_Same.tab16 florinlaw06_Same.bits16 (fun HT_ HW_=>?_)
                generalize wr.drew=w38 at HB HR943_1 HR944_0 HR945_3 HR946_1 HR947_0 HR948_3 hx943_0 hx943_1 hx943_2 hx944_0 hx945_0 hx945_1 hx945_2 hx945_3 hx946_0 hx946_1 hx946_2 hx947_0 hx948_0 hx948_1 hx948_2 hx948_3 hHeld ⊢
                refine pu_ 0 97 (bm_ 24 1) HT_ ?_
                refine pu_ 1 98 (bm_ 24 3) HT_ ?_
                refine pu_ 2 99 (bm_ 24 7) HT_ ?_
                refine pu_ 3 100 (bm_ 24 15) HT_ ?_
                refine pu_ 5 102 (bm_ 24 47) HT_ ?_
                refine pu_ 8 105 (bm_ 24 303) HT_ ?_
                refine pu_ 11 108 (bm_ 24 2351) HT_ ?_
                refine pu_ 12 109 (bm_ 24 6447) HT_ ?_
                refine pu_ 13 110 (bm_ 24 14639) HT_ ?_
                refine pu_ 14 111 (bm_ 24 31023) HT_ ?_
                refine pu_ 16 113 (bm_ 24 96559) HT_ ?_
                refine pu_ 19 116 (bm_ 24 620847) HT_ ?_
                refine tk_ 4 101 (bm_ 24 620863) HT_ HW_ hHeld rfl (by rintro w' ⟨s0,s1,s2,s3,s4,s5,s6,s7,s8,s9,s10,s11,s12,s13,s14,s15⟩;go_simp;with_reducible rfl) ?_
                refine pu_ 6 103 (bm_ 24 620927) HT_ ?_
                refine tk_ 7 104 (bm_ 24 621055) HT_ HW_ hHeld rfl (by rintro w' ⟨s0,s1,s2,s3,s4,s5,s6,s7,s8,s9,s10,s11,s12,s13,s14,s15⟩;go_simp;with_reducible rfl) ?_
                refine pu_ 9 106 (bm_ 24 621567) HT_ ?_
                refine tk_ 10 107 (bm_ 24 622591) HT_ HW_ hHeld rfl (by rintro w' ⟨s0,s1,s2,s3,s4,s5,s6,s7,s8,s9,s10,s11,s12,s13,s14,s15⟩;go_simp;with_reducible rfl) ?_
                refine tk_ 15 112 (bm_ 24 655359) HT_ HW_ hHeld rfl (by rintro w' ⟨s0,s1,s2,s3,s4,s5,s6,s7,s8,s9,s10,s11,s12,s13,s14,s15⟩;go_simp;with_reducible rfl) ?_
                refine pu_ 17 114 (bm_ 24 786431) HT_ ?_
                refine tk_ 18 115 (bm_ 24 1048575) HT_ HW_ hHeld rfl (by rintro w' ⟨s0,s1,s2,s3,s4,s5,s6,s7,s8,s9,s10,s11,s12,s13,s14,s15⟩;go_simp;with_reducible rfl) ?_
                refine pu_ 20 117 (bm_ 24 2097151) HT_ ?_
                refine tk_ 21 118 (bm_ 24 4194303) HT_ HW_ hHeld rfl (by rintro w' ⟨s0,s1,s2,s3,s4,s5,s6,s7,s8,s9,s10,s11,s12,s13,s14,s15⟩;go_simp;with_reducible rfl) ?_
                refine one_ (i:=22) (N:=some 119) (bm_ 24 8388607) rfl rfl (one_of HT_.out (by kernel_rfl)) (by decide) (fun K hK=>?_)
                refine gs_ Tryd.func17 #[.agg #[.int .u8 ((rd_T36 (rd_L7 ((rd_T32 l0 x15_1).f1) x63_3) x94_4).f0),.int .i64 ((rd_T36 (rd_L7 ((rd_T32 l0 x15_1).f1) x63_3) x94_4).f1),.bool ((rd_T36 (rd_L7 ((rd_T32 l0 x15_1).f1) x63_3) x94_4).f2),.slice A945_3 ((rd_T36 (rd_L7 ((rd_T32 l0 x15_1).f1) x63_3) x94_4).f3).length c945_3],.agg #[.int .u8 ((rd_T36 (rd_L7 ((rd_T32 l1 x15_1).f1) x63_3) x94_4).f0),.int .i64 ((rd_T36 (rd_L7 ((rd_T32 l1 x15_1).f1) x63_3) x94_4).f1),.bool ((rd_T36 (rd_L7 ((rd_T32 l1 x15_1).f1) x63_3) x94_4).f2),.slice A948_3 ((rd_T36 (rd_L7 ((rd_T32 l1 x15_1).f1) x63_3) x94_4).f3).length c948_3]] ?_
                with_reducible refine(florinlaw06_sameRel.calls k4 ((rd_T36 (rd_L7 ((rd_T32 l0 x15_1).f1) x63_3) x94_4).f0) ((rd_T36 (rd_L7 ((rd_T32 l0 x15_1).f1) x63_3) x94_4).f1) ((rd_T36 (rd_L7 ((rd_T32 l0 x15_1).f1) x63_3) x94_4).f2) _ _ ((rd_T36 (rd_L7 ((rd_T32 l0 x15_1).f1) x63_3) x94_4).f3) ((rd_T36 (rd_L7 ((rd_T32 l1 x15_1).f1) x63_3) x94_4).f0) ((rd_T36 (rd_L7 ((rd_T32 l1 x15_1).f1) x63_3) x94_4).f1) ((rd_T36 (rd_L7 ((rd_T32 l1 x15_1).f1) x63_3) x94_4).f2) _ _ ((rd_T36 (rd_L7 ((rd_T32 l1 x15_1).f1) x63_3) x94_4).f3) true _ ?side1 ?side2 ?side3 ?side4 A36.out).mono ?_
                (case side1=>repeat(first|exact(Kd.C_below HR945_3.out HB.out)|(with_reducible refine Kd.C_alloc ?_ _)|(with_reducible refine Kd.C_drewN ?_ _)|(with_reducible refine Kd.C_drew ?_)))
                (case side2=>exact HC945_3.out)
                (case side3=>repeat(first|exact(Kd.C_below HR948_3.out HB.out)|(with_reducible refine Kd.C_alloc ?_ _)|(with_reducible refine Kd.C_drewN ?_ _)|(with_reducible refine Kd.C_drew ?_)))
                (case side4=>exact HC948_3.out)
                rintro e w39 ⟨rfl,hb⟩
                refine⟨_,rfl,?_⟩
                replace HB:=Aside0.mk (below_step (bl_ HB).out hb)
                (try clear hb)
                (try clear hb2)
                (try clear hk)
                (try clear hi)
                refine hK.out _ _ ⟨(hbc_ HB hw943_0),(hbc_ HB hw943_1),(hbc_ HB hw943_2),(hbc_ HB hw944_0),(hbc_ HB hw945_0),(hbc_ HB hw945_1),(hbc_ HB hw945_2),(hbc_ HB hw945_3),(hbc_ HB hw946_0),(hbc_ HB hw946_1),(hbc_ HB hw946_2),(hbc_ HB hw947_0),(hbc_ HB hw948_0),(hbc_ HB hw948_1),(hbc_ HB hw948_2),(hbc_ HB hw948_3)⟩ (fun hHeld=>?_)
                clear hK K
                refine nm_ 119 ?_
                refine pu_ 23 120 (bm_ 24 16777215) HT_ ?_
                refine done_ (done_of HT_.out (by kernel_rfl)) ?_
                try go_wp2
                go_roundg k4
                case measure=>have:=HK1.out;have:=HJ4.out;have:=HK3.out;have:=HK4.out;omega
                case rel=>exact⟨(wrap64 (x94_4+1)),eq_,H',⟨by have:=HK1.out;have:=HJ4.out;have:=HK3.out;have:=HK4.out;omega⟩,(bl_ HB)⟩
               ·replace c37:=Bool.eq_false_iff.mpr c37
                subst c37
                have H1:(some false)=some r:=by rw[if_neg (show ¬(false=true) by decide)] at H;exact H
                clear H
                have H:=H1
                clear H1
                obtain rfl:=Option.some.inj H
                try go_wp2
                replace HB:=Aside0.mk (below_drew1 HB.out)
                have p943:0≤(x15_1:Int):=od_
                have q943:x15_1<(l0.length:Int):=od_
                obtain⟨ad943,A943_1,c943_1,e943,hx943_0,hx943_1,hx943_2,hl943_1,hi943_1⟩:=at_T32 HR0.out x15_1 p943 q943
                have hw943_2:=hx943_2
                have hw943_1:=hx943_1
                have hw943_0:=hx943_0
                obtain rfl:ad936=ad943:=(by injection e943)
                replace hx943_0:=hbc_ HB hx943_0
                replace hx943_1:=hbc_ HB hx943_1
                replace hx943_2:=hbc_ HB hx943_2
                have HR943_1:=Aside0.mk hi943_1
                have HC943_1:=Aside0.mk hl943_1
                clear hi943_1 hl943_1
                replace p943:=eq_true p943
                replace q943:=eq_true q943
                have p944:0≤(x63_3:Int):=od_
                have q944:x63_3<(((rd_T32 l0 x15_1).f1).length:Int):=od_
                obtain⟨ad944,A944_0,c944_0,e944,hx944_0,hl944_0,hi944_0⟩:=at_L7 HR943_1.out x63_3 p944 q944
                have hw944_0:=hx944_0
                cases e944
                replace hx944_0:=hbc_ HB hx944_0
                have HR944_0:=Aside0.mk hi944_0
                have HC944_0:=Aside0.mk hl944_0
                clear hi944_0 hl944_0
                replace p944:=eq_true p944
                replace q944:=eq_true q944
                have p945:0≤(x94_4:Int):=od_
                have q945:x94_4<((rd_L7 ((rd_T32 l0 x15_1).f1) x63_3).length:Int):=od_
                obtain⟨ad945,A945_3,c945_3,e945,hx945_0,hx945_1,hx945_2,hx945_3,hl945_3,hi945_3⟩:=at_T36 HR944_0.out x94_4 p945 q945
                have hw945_3:=hx945_3
                have hw945_2:=hx945_2
                have hw945_1:=hx945_1
                have hw945_0:=hx945_0
                cases e945
                replace hx945_0:=hbc_ HB hx945_0
                replace hx945_1:=hbc_ HB hx945_1
                replace hx945_2:=hbc_ HB hx945_2
                replace hx945_3:=hbc_ HB hx945_3
                have HR945_3:=Aside0.mk hi945_3
                have HC945_3:=Aside0.mk hl945_3
                clear hi945_3 hl945_3
                replace p945:=eq_true p945
                replace q945:=eq_true q945
                have p946:0≤(x15_1:Int):=od_
                have q946:x15_1<(l1.length:Int):=od_
                obtain⟨ad946,A946_1,c946_1,e946,hx946_0,hx946_1,hx946_2,hl946_1,hi946_1⟩:=at_T32 HR1.out x15_1 p946 q946
                have hw946_2:=hx946_2
                have hw946_1:=hx946_1
                have hw946_0:=hx946_0
                obtain rfl:ad939=ad946:=(by injection e946)
                replace hx946_0:=hbc_ HB hx946_0
                replace hx946_1:=hbc_ HB hx946_1
                replace hx946_2:=hbc_ HB hx946_2
                have HR946_1:=Aside0.mk hi946_1
                have HC946_1:=Aside0.mk hl946_1
                clear hi946_1 hl946_1
                replace p946:=eq_true p946
                replace q946:=eq_true q946
                have p947:0≤(x63_3:Int):=od_
                have q947:x63_3<(((rd_T32 l1 x15_1).f1).length:Int):=od_
                obtain⟨ad947,A947_0,c947_0,e947,hx947_0,hl947_0,hi947_0⟩:=at_L7 HR946_1.out x63_3 p947 q947
                have hw947_0:=hx947_0
                cases e947
                replace hx947_0:=hbc_ HB hx947_0
                have HR947_0:=Aside0.mk hi947_0
                have HC947_0:=Aside0.mk hl947_0
                clear hi947_0 hl947_0
                replace p947:=eq_true p947
                replace q947:=eq_true q947
                have p948:0≤(x94_4:Int):=od_
                have q948:x94_4<((rd_L7 ((rd_T32 l1 x15_1).f1) x63_3).length:Int):=od_
                obtain⟨ad948,A948_3,c948_3,e948,hx948_0,hx948_1,hx948_2,hx948_3,hl948_3,hi948_3⟩:=at_T36 HR947_0.out x94_4 p948 q948
                have hw948_3:=hx948_3
                have hw948_2:=hx948_2
                have hw948_1:=hx948_1
                have hw948_0:=hx948_0
                cases e948
                replace hx948_0:=hbc_ HB hx948_0
                replace hx948_1:=hbc_ HB hx948_1
                replace hx948_2:=hbc_ HB hx948_2
                replace hx948_3:=hbc_ HB hx948_3
                have HR948_3:=Aside0.mk hi948_3
                have HC948_3:=Aside0.mk hl948_3
                clear hi948_3 hl948_3
                replace p948:=eq_true p948
                replace q948:=eq_true q948
                refine start_ (n:=24) (S:=fun w'=>w'.cell? (ad936.add ((x15_1).toNat*3))=some (.int .i64 ((rd_T32 l0 x15_1).f0))∧w'.cell? ⟨(ad936.add ((x15_1).toNat*3)).block,(ad936.add ((x15_1).toNat*3)).off+1,none⟩=some (.slice (some ad944) ((rd_T32 l0 x15_1).f1).length c943_1)∧w'.cell? ⟨(ad936.add ((x15_1).toNat*3)).block,(ad936.add ((x15_1).toNat*3)).off+2,none⟩=some (.string ((rd_T32 l0 x15_1).f2))∧w'.cell? (ad944.add (x63_3).toNat)=some (.slice (some ad945) (rd_L7 ((rd_T32 l0 x15_1).f1) x63_3).length c944_0)∧w'.cell? (ad945.add ((x94_4).toNat*4))=some (.int .u8 ((rd_T36 (rd_L7 ((rd_T32 l0 x15_1).f1) x63_3) x94_4).f0))∧w'.cell? ⟨(ad945.add ((x94_4).toNat*4)).block,(ad945.add ((x94_4).toNat*4)).off+1,none⟩=some (.int .i64 ((rd_T36 (rd_L7 ((rd_T32 l0 x15_1).f1) x63_3) x94_4).f1))∧w'.cell? ⟨(ad945.add ((x94_4).toNat*4)).block,(ad945.add ((x94_4).toNat*4)).off+2,none⟩=some (.bool ((rd_T36 (rd_L7 ((rd_T32 l0 x15_1).f1) x63_3) x94_4).f2))∧w'.cell? ⟨(ad945.add ((x94_4).toNat*4)).block,(ad945.add ((x94_4).toNat*4)).off+3,none⟩=some (.slice A945_3 ((rd_T36 (rd_L7 ((rd_T32 l0 x15_1).f1) x63_3) x94_4).f3).length c945_3)∧w'.cell? (ad939.add ((x15_1).toNat*3))=some (.int .i64 ((rd_T32 l1 x15_1).f0))∧w'.cell? ⟨(ad939.add ((x15_1).toNat*3)).block,(ad939.add ((x15_1).toNat*3)).off+1,none⟩=some (.slice (some ad947) ((rd_T32 l1 x15_1).f1).length c946_1)∧w'.cell? ⟨(ad939.add ((x15_1).toNat*3)).block,(ad939.add ((x15_1).toNat*3)).off+2,none⟩=some (.string ((rd_T32 l1 x15_1).f2))∧w'.cell? (ad947.add (x63_3).toNat)=some (.slice (some ad948) (rd_L7 ((rd_T32 l1 x15_1).f1) x63_3).length c947_0)∧w'.cell? (ad948.add ((x94_4).toNat*4))=some (.int .u8 ((rd_T36 (rd_L7 ((rd_T32 l1 x15_1).f1) x63_3) x94_4).f0))∧w'.cell? ⟨(ad948.add ((x94_4).toNat*4)).block,(ad948.add ((x94_4).toNat*4)).off+1,none⟩=some (.int .i64 ((rd_T36 (rd_L7 ((rd_T32 l1 x15_1).f1) x63_3) x94_4).f1))∧w'.cell? ⟨(ad948.add ((x94_4).toNat*4)).block,(ad948.add ((x94_4).toNat*4)).off+2,none⟩=some (.bool ((rd_T36 (rd_L7 ((rd_T32 l1 x15_1).f1) x63_3) x94_4).f2))∧w'.cell? ⟨(ad948.add ((x94_4).toNat*4)).block,(ad948.add ((x94_4).toNat*4)).off+3,none⟩=some (.slice A948_3 ((rd_T36 (rd_L7 ((rd_T32 l1 x15_1).f1) x63_3) x94_4).f3).length c948_3)) (ds:=[]) #[false,false,false,false,false,false,false,false,false,false,false,false,false,false,false,false,false,false,false,false,false,false,false,false] (by kernel_rfl) rfl rfl ⟨(hbc_ HB hw943_0),(hbc_ HB hw943_1),(hbc_ HB hw943_2),(hbc_ HB hw944_0),(hbc_ HB hw945_0),(hbc_ HB hw945_1),(hbc_ HB hw945_2),(hbc_ HB hw945_3),(hbc_ HB hw946_0),(hbc_ HB hw946_1),(hbc_ HB hw946_2),(hbc_ HB hw947_0),(hbc_ HB hw948_0),(hbc_ HB hw948_1),(hbc_ HB hw948_2),(hbc_ HB hw948_3)⟩ (fun hHeld=>?_);refine with_tabW florinlaw06_Same.tab16 florinlaw06_Same.bits16 (fun HT_ HW_=>?_)
                generalize wr.drew=w40 at HB HR943_1 HR944_0 HR945_3 HR946_1 HR947_0 HR948_3 hx943_0 hx943_1 hx943_2 hx944_0 hx945_0 hx945_1 hx945_2 hx945_3 hx946_0 hx946_1 hx946_2 hx947_0 hx948_0 hx948_1 hx948_2 hx948_3 hHeld ⊢
                refine pu_ 0 97 (bm_ 24 1) HT_ ?_
                refine pu_ 1 98 (bm_ 24 3) HT_ ?_
                refine pu_ 2 99 (bm_ 24 7) HT_ ?_
                refine pu_ 3 100 (bm_ 24 15) HT_ ?_
                refine pu_ 5 102 (bm_ 24 47) HT_ ?_
                refine pu_ 8 105 (bm_ 24 303) HT_ ?_
                refine pu_ 11 108 (bm_ 24 2351) HT_ ?_
                refine pu_ 12 109 (bm_ 24 6447) HT_ ?_
                refine pu_ 13 110 (bm_ 24 14639) HT_ ?_
                refine pu_ 14 111 (bm_ 24 31023) HT_ ?_
                refine pu_ 16 113 (bm_ 24 96559) HT_ ?_
                refine pu_ 19 116 (bm_ 24 620847) HT_ ?_
                refine tk_ 4 101 (bm_ 24 620863) HT_ HW_ hHeld rfl (by rintro w' ⟨s0,s1,s2,s3,s4,s5,s6,s7,s8,s9,s10,s11,s12,s13,s14,s15⟩;go_simp;with_reducible rfl) ?_
                refine pu_ 6 103 (bm_ 24 620927) HT_ ?_
                refine tk_ 7 104 (bm_ 24 621055) HT_ HW_ hHeld rfl (by rintro w' ⟨s0,s1,s2,s3,s4,s5,s6,s7,s8,s9,s10,s11,s12,s13,s14,s15⟩;go_simp;with_reducible rfl) ?_
                refine pu_ 9 106 (bm_ 24 621567) HT_ ?_
                refine tk_ 10 107 (bm_ 24 622591) HT_ HW_ hHeld rfl (by rintro w' ⟨s0,s1,s2,s3,s4,s5,s6,s7,s8,s9,s10,s11,s12,s13,s14,s15⟩;go_simp;with_reducible rfl) ?_
                refine tk_ 15 112 (bm_ 24 655359) HT_ HW_ hHeld rfl (by rintro w' ⟨s0,s1,s2,s3,s4,s5,s6,s7,s8,s9,s10,s11,s12,s13,s14,s15⟩;go_simp;with_reducible rfl) ?_
                refine pu_ 17 114 (bm_ 24 786431) HT_ ?_
                refine tk_ 18 115 (bm_ 24 1048575) HT_ HW_ hHeld rfl (by rintro w' ⟨s0,s1,s2,s3,s4,s5,s6,s7,s8,s9,s10,s11,s12,s13,s14,s15⟩;go_simp;with_reducible rfl) ?_
                refine pu_ 20 117 (bm_ 24 2097151) HT_ ?_
                refine tk_ 21 118 (bm_ 24 4194303) HT_ HW_ hHeld rfl (by rintro w' ⟨s0,s1,s2,s3,s4,s5,s6,s7,s8,s9,s10,s11,s12,s13,s14,s15⟩;go_simp;with_reducible rfl) ?_
                refine one_ (i:=22) (N:=some 119) (bm_ 24 8388607) rfl rfl (one_of HT_.out (by kernel_rfl)) (by decide) (fun K hK=>?_)
                refine gs_ Tryd.func17 #[.agg #[.int .u8 ((rd_T36 (rd_L7 ((rd_T32 l0 x15_1).f1) x63_3) x94_4).f0),.int .i64 ((rd_T36 (rd_L7 ((rd_T32 l0 x15_1).f1) x63_3) x94_4).f1),.bool ((rd_T36 (rd_L7 ((rd_T32 l0 x15_1).f1) x63_3) x94_4).f2),.slice A945_3 ((rd_T36 (rd_L7 ((rd_T32 l0 x15_1).f1) x63_3) x94_4).f3).length c945_3],.agg #[.int .u8 ((rd_T36 (rd_L7 ((rd_T32 l1 x15_1).f1) x63_3) x94_4).f0),.int .i64 ((rd_T36 (rd_L7 ((rd_T32 l1 x15_1).f1) x63_3) x94_4).f1),.bool ((rd_T36 (rd_L7 ((rd_T32 l1 x15_1).f1) x63_3) x94_4).f2),.slice A948_3 ((rd_T36 (rd_L7 ((rd_T32 l1 x15_1).f1) x63_3) x94_4).f3).length c948_3]] ?_
                with_reducible refine(florinlaw06_sameRel.calls k4 ((rd_T36 (rd_L7 ((rd_T32 l0 x15_1).f1) x63_3) x94_4).f0) ((rd_T36 (rd_L7 ((rd_T32 l0 x15_1).f1) x63_3) x94_4).f1) ((rd_T36 (rd_L7 ((rd_T32 l0 x15_1).f1) x63_3) x94_4).f2) _ _ ((rd_T36 (rd_L7 ((rd_T32 l0 x15_1).f1) x63_3) x94_4).f3) ((rd_T36 (rd_L7 ((rd_T32 l1 x15_1).f1) x63_3) x94_4).f0) ((rd_T36 (rd_L7 ((rd_T32 l1 x15_1).f1) x63_3) x94_4).f1) ((rd_T36 (rd_L7 ((rd_T32 l1 x15_1).f1) x63_3) x94_4).f2) _ _ ((rd_T36 (rd_L7 ((rd_T32 l1 x15_1).f1) x63_3) x94_4).f3) false _ ?side1 ?side2 ?side3 ?side4 A36.out).mono ?_
                (case side1=>repeat(first|exact(Kd.C_below HR945_3.out HB.out)|(with_reducible refine Kd.C_alloc ?_ _)|(with_reducible refine Kd.C_drewN ?_ _)|(with_reducible refine Kd.C_drew ?_)))
                (case side2=>exact HC945_3.out)
                (case side3=>repeat(first|exact(Kd.C_below HR948_3.out HB.out)|(with_reducible refine Kd.C_alloc ?_ _)|(with_reducible refine Kd.C_drewN ?_ _)|(with_reducible refine Kd.C_drew ?_)))
                (case side4=>exact HC948_3.out)
                rintro e w41 ⟨rfl,hb⟩
                refine⟨_,rfl,?_⟩
                replace HB:=Aside0.mk (below_step (bl_ HB).out hb)
                (try clear hb)
                (try clear hb2)
                (try clear hk)
                (try clear hi)
                refine hK.out _ _ ⟨(hbc_ HB hw943_0),(hbc_ HB hw943_1),(hbc_ HB hw943_2),(hbc_ HB hw944_0),(hbc_ HB hw945_0),(hbc_ HB hw945_1),(hbc_ HB hw945_2),(hbc_ HB hw945_3),(hbc_ HB hw946_0),(hbc_ HB hw946_1),(hbc_ HB hw946_2),(hbc_ HB hw947_0),(hbc_ HB hw948_0),(hbc_ HB hw948_1),(hbc_ HB hw948_2),(hbc_ HB hw948_3)⟩ (fun hHeld=>?_)
                clear hK K
                refine nm_ 119 ?_
                refine pu_ 23 120 (bm_ 24 16777215) HT_ ?_
                refine done_ (done_of HT_.out (by kernel_rfl)) ?_
                try go_wp2
                go_ret
                exact⟨ew_,(bl_ HB).out⟩
              ·rw[if_neg c26] at H
               have c26b0:=decide_eq_false c26
               clear c26
               have H':=Aside0.mk H
               clear H
               go_wp2
               go_roundg k4
               case measure=>have:=HK1.out;have:=HJ4.out;have:=HK3.out;have:=HK4.out;omega
               case rel=>exact⟨(wrap64 (x63_3+1)),eq_,H',⟨by have:=HK1.out;have:=HJ4.out;have:=HK3.out;have:=HK4.out;omega⟩,(bl_ HB)⟩
           ·rw[if_neg c24] at H
            have c24b0:(((rd_L7 ((rd_T32 l0 x15_1).f1) x63_3).length:Int)==((rd_L7 ((rd_T32 l1 x15_1).f1) x63_3).length:Int))=false:=beq_eq_false_iff_ne.mpr c24
            have c24b1:(((rd_L7 ((rd_T32 l0 x15_1).f1) x63_3).length:Int) !=((rd_L7 ((rd_T32 l1 x15_1).f1) x63_3).length:Int))=true:=bne_iff_ne.mpr c24
            have c24b2:((rd_L7 ((rd_T32 l0 x15_1).f1) x63_3).length==(rd_L7 ((rd_T32 l1 x15_1).f1) x63_3).length)=false:=by first|simpa using c24|(simp at c24 ⊢;omega)
            obtain rfl:=Option.some.inj H
            try go_wp2
            replace HB:=Aside0.mk (below_drew1 HB.out)
            have p937:0≤(x15_1:Int):=od_
            have q937:x15_1<(l0.length:Int):=od_
            obtain⟨ad937,A937_1,c937_1,e937,hx937_0,hx937_1,hx937_2,hl937_1,hi937_1⟩:=at_T32 HR0.out x15_1 p937 q937
            have hw937_2:=hx937_2
            have hw937_1:=hx937_1
            have hw937_0:=hx937_0
            obtain rfl:ad936=ad937:=(by injection e937)
            replace hx937_0:=hbc_ HB hx937_0
            replace hx937_1:=hbc_ HB hx937_1
            replace hx937_2:=hbc_ HB hx937_2
            have HR937_1:=Aside0.mk hi937_1
            have HC937_1:=Aside0.mk hl937_1
            clear hi937_1 hl937_1
            replace p937:=eq_true p937
            replace q937:=eq_true q937
            have p938:0≤(x63_3:Int):=od_
            have q938:x63_3<(((rd_T32 l0 x15_1).f1).length:Int):=od_
            obtain⟨ad938,A938_0,c938_0,e938,hx938_0,hl938_0,hi938_0⟩:=at_L7 HR937_1.out x63_3 p938 q938
            have hw938_0:=hx938_0
            cases e938
            replace hx938_0:=hbc_ HB hx938_0
            have HR938_0:=Aside0.mk hi938_0
            have HC938_0:=Aside0.mk hl938_0
            clear hi938_0 hl938_0
            replace p938:=eq_true p938
            replace q938:=eq_true q938
            have p939:0≤(x15_1:Int):=od_
            have q939:x15_1<(l1.length:Int):=od_
            obtain⟨ad939,A939_1,c939_1,e939,hx939_0,hx939_1,hx939_2,hl939_1,hi939_1⟩:=at_T32 HR1.out x15_1 p939 q939
            have hw939_2:=hx939_2
            have hw939_1:=hx939_1
            have hw939_0:=hx939_0
            cases e939
            replace hx939_0:=hbc_ HB hx939_0
            replace hx939_1:=hbc_ HB hx939_1
            replace hx939_2:=hbc_ HB hx939_2
            have HR939_1:=Aside0.mk hi939_1
            have HC939_1:=Aside0.mk hl939_1
            clear hi939_1 hl939_1
            replace p939:=eq_true p939
            replace q939:=eq_true q939
            have p940:0≤(x63_3:Int):=od_
            have q940:x63_3<(((rd_T32 l1 x15_1).f1).length:Int):=od_
            obtain⟨ad940,A940_0,c940_0,e940,hx940_0,hl940_0,hi940_0⟩:=at_L7 HR939_1.out x63_3 p940 q940
            have hw940_0:=hx940_0
            cases e940
            replace hx940_0:=hbc_ HB hx940_0
            have HR940_0:=Aside0.mk hi940_0
            have HC940_0:=Aside0.mk hl940_0
            clear hi940_0 hl940_0
            replace p940:=eq_true p940
            replace q940:=eq_true q940
            refine start_ (n:=19) (S:=fun w'=>w'.cell? (ad936.add ((x15_1).toNat*3))=some (.int .i64 ((rd_T32 l0 x15_1).f0))∧w'.cell? ⟨(ad936.add ((x15_1).toNat*3)).block,(ad936.add ((x15_1).toNat*3)).off+1,none⟩=some (.slice (some ad938) ((rd_T32 l0 x15_1).f1).length c937_1)∧w'.cell? ⟨(ad936.add ((x15_1).toNat*3)).block,(ad936.add ((x15_1).toNat*3)).off+2,none⟩=some (.string ((rd_T32 l0 x15_1).f2))∧w'.cell? (ad938.add (x63_3).toNat)=some (.slice A938_0 (rd_L7 ((rd_T32 l0 x15_1).f1) x63_3).length c938_0)∧w'.cell? (ad939.add ((x15_1).toNat*3))=some (.int .i64 ((rd_T32 l1 x15_1).f0))∧w'.cell? ⟨(ad939.add ((x15_1).toNat*3)).block,(ad939.add ((x15_1).toNat*3)).off+1,none⟩=some (.slice (some ad940) ((rd_T32 l1 x15_1).f1).length c939_1)∧w'.cell? ⟨(ad939.add ((x15_1).toNat*3)).block,(ad939.add ((x15_1).toNat*3)).off+2,none⟩=some (.string ((rd_T32 l1 x15_1).f2))∧w'.cell? (ad940.add (x63_3).toNat)=some (.slice A940_0 (rd_L7 ((rd_T32 l1 x15_1).f1) x63_3).length c940_0)) (ds:=[]) #[false,false,false,false,false,false,false,false,false,false,false,false,false,false,false,false,false,false,false] (by kernel_rfl) rfl rfl ⟨(hbc_ HB hw937_0),(hbc_ HB hw937_1),(hbc_ HB hw937_2),(hbc_ HB hw938_0),(hbc_ HB hw939_0),(hbc_ HB hw939_1),(hbc_ HB hw939_2),(hbc_ HB hw940_0)⟩ (fun hHeld=>?_);refine with_tabW florinlaw06_Same.tab11 florinlaw06_Same.bits11 (fun HT_ HW_=>?_)
            generalize wr.drew=w42 at HB HR937_1 HR938_0 HR939_1 HR940_0 hx937_0 hx937_1 hx937_2 hx938_0 hx939_0 hx939_1 hx939_2 hx940_0 hHeld ⊢
            refine pu_ 0 66 (bm_ 19 1) HT_ ?_
            refine pu_ 1 67 (bm_ 19 3) HT_ ?_
            refine pu_ 2 68 (bm_ 19 7) HT_ ?_
            refine pu_ 3 69 (bm_ 19 15) HT_ ?_
            refine pu_ 5 71 (bm_ 19 47) HT_ ?_
            refine pu_ 9 75 (bm_ 19 559) HT_ ?_
            refine pu_ 10 76 (bm_ 19 1583) HT_ ?_
            refine pu_ 11 77 (bm_ 19 3631) HT_ ?_
            refine pu_ 12 78 (bm_ 19 7727) HT_ ?_
            refine pu_ 14 80 (bm_ 19 24111) HT_ ?_
            refine tk_ 4 70 (bm_ 19 24127) HT_ HW_ hHeld rfl (by rintro w' ⟨s0,s1,s2,s3,s4,s5,s6,s7⟩;go_simp;with_reducible rfl) ?_
            refine pu_ 6 72 (bm_ 19 24191) HT_ ?_
            refine tk_ 7 73 (bm_ 19 24319) HT_ HW_ hHeld rfl (by rintro w' ⟨s0,s1,s2,s3,s4,s5,s6,s7⟩;go_simp;with_reducible rfl) ?_
            refine pu_ 8 74 (bm_ 19 24575) HT_ ?_
            refine tk_ 13 79 (bm_ 19 32767) HT_ HW_ hHeld rfl (by rintro w' ⟨s0,s1,s2,s3,s4,s5,s6,s7⟩;go_simp;with_reducible rfl) ?_
            refine pu_ 15 81 (bm_ 19 65535) HT_ ?_
            refine tk_ 16 82 (bm_ 19 131071) HT_ HW_ hHeld rfl (by rintro w' ⟨s0,s1,s2,s3,s4,s5,s6,s7⟩;go_simp;with_reducible rfl) ?_
            refine pu_ 17 83 (bm_ 19 262143) HT_ ?_
            refine pu_ 18 84 (bm_ 19 524287) HT_ ?_
            refine done_ (done_of HT_.out (by kernel_rfl)) ?_
            try go_wp2
            go_ret
            exact⟨ew_,(bl_ HB).out⟩
          ·rw[if_neg c17] at H
           have c17b0:=decide_eq_false c17
           clear c17
           have H':=Aside0.mk H
           clear H
           go_wp2
           go_roundg k3
           case measure=>have:=HK1.out;have:=HJ4.out;have:=HK3.out;omega
           case rel=>exact⟨(wrap64 (x15_1+1)),eq_,H',⟨by have:=HK1.out;have:=HJ4.out;have:=HK3.out;omega⟩,(bl_ HB)⟩
    ·rw[if_neg c4] at H
     have c4b0:=decide_eq_false c4
     clear c4
     obtain rfl:=Option.some.inj H
     go_wp2
     go_ret
     exact⟨ew_,(bl_ HB).out⟩
 ·rw[if_neg c3] at H
  have c3b0:((l0.length:Int)==(l1.length:Int))=false:=beq_eq_false_iff_ne.mpr c3
  have c3b1:((l0.length:Int) !=(l1.length:Int))=true:=bne_iff_ne.mpr c3
  have c3b2:(l0.length==l1.length)=false:=by first|simpa using c3|(simp at c3 ⊢;omega)
  obtain rfl:=Option.some.inj H
  go_enter Tryd.func10,Tryd.ntmps10
  go_wp2
  go_ret
  exact⟨ew_,(bl_ HB).out⟩

end Go.Proofs.YtcokjmnkieakiaaDoor.P
