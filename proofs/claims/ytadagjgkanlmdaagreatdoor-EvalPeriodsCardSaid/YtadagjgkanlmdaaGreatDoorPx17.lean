-- written by a program of this session (wip/p2)
import Derived.Test.YtadagjgkanlmdaaGreatDoorPx0
import Derived.Test.YtadagjgkanlmdaaGreatDoorPx1
import Derived.Test.YtadagjgkanlmdaaGreatDoorPx2
import Derived.Test.YtadagjgkanlmdaaGreatDoorPx5
import Derived.Test.YtadagjgkanlmdaaGreatDoorPx6
import Derived.Test.YtadagjgkanlmdaaGreatDoorPx9
import Derived.Test.YtadagjgkanlmdaaGreatDoorPx12
import Derived.Test.YtadagjgkanlmdaaGreatDoorPx16
namespace Go.Proofs.YtadagjgkanlmdaaGreatDoor.P
open Go.RowKit Go.Proofs.YtadagjgkanlmdaaGreatDoorW.PrintWords Go.Proofs.YtadagjgkanlmdaaGreatDoorW.PrintLast Go.Proofs.YtadagjgkanlmdaaGreatDoorW.PrintMore
attribute [local go_sem] max2_int min2_int max_two min_two max_three min_three max_four min_four   -- for this text's walks alone
set_option linter.unusedVariables false
set_option linter.unusedSimpArgs false

/-! ### florinlaw07_EvalPeriods: function 6 -/
mutual
def florinlaw07_EvalPeriods.j0:Nat→List Int→List Int→Int→Bool→Int→Int→Int→Bool→List (S139)→Option (Bool)
 | 0,_,_,_,_,_,_,_,_,_=>none
 | k+1,x1,x2,x3,x29,x890000,x890001,x890002,x890003,x890004=>if x29=true then (some true) else ((florinlaw06_All.f k (([(⟨1,0,0,(([(([(⟨x890000,x890001,x890002,x890003,x890004⟩:S46)]:List (S46)))]:List (List (S46))))⟩:S50)]:List (S50))) 0).bind fun bt900=>(if 0<(bt900.1.length:Int) then (if 0<(((rd_T41 bt900.1 0).f1).length:Int) then (if 0<((rd_L7 ((rd_T41 bt900.1 0).f1) 0).length:Int) then (if ((rd_T53 (rd_L7 ((rd_T41 bt900.1 0).f1) 0) 0).f1)=0 then (some true) else ((florinlaw05_Shown.f k x1 x2).bind fun bt908=>((operand_Of.f k bt908.1 bt908.2.1 bt908.2.2 0).bind fun bt912=>((num_Of.f k ((rd_T53 (rd_L7 ((rd_T41 bt900.1 0).f1) 0) 0).f1)).bind fun t916=>((num_Times.f k t916 (Go.bits .and .i64 x3 65535)).bind fun t917=>((num_Add.f k bt908.2.1 t917).bind fun t918=>(if t918.toList=([]:List UInt8) then (florinlaw07_EvalPeriods.j1 k (bt908.2.2.toList==([]:List UInt8)) ((rd_T53 (rd_L7 ((rd_T41 bt900.1 0).f1) 0) 0).f0) ((rd_T53 (rd_L7 ((rd_T41 bt900.1 0).f1) 0) 0).f1) ((rd_T53 (rd_L7 ((rd_T41 bt900.1 0).f1) 0) 0).f2) ((rd_T53 (rd_L7 ((rd_T41 bt900.1 0).f1) 0) 0).f3) bt908.1 t918 bt908.2.2 bt912.1 bt912.2.1 bt912.2.2) else (florinlaw07_EvalPeriods.j1 k false ((rd_T53 (rd_L7 ((rd_T41 bt900.1 0).f1) 0) 0).f0) ((rd_T53 (rd_L7 ((rd_T41 bt900.1 0).f1) 0) 0).f1) ((rd_T53 (rd_L7 ((rd_T41 bt900.1 0).f1) 0) 0).f2) ((rd_T53 (rd_L7 ((rd_T41 bt900.1 0).f1) 0) 0).f3) bt908.1 t918 bt908.2.2 bt912.1 bt912.2.1 bt912.2.2)))))))) else (none)) else (none)) else (none)))
def florinlaw07_EvalPeriods.j1:Nat→Bool→Int→Int→Bool→List (S57)→Bool→ByteArray→ByteArray→ByteArray→ByteArray→Int→Option (Bool)
 | 0,_,_,_,_,_,_,_,_,_,_,_=>none
 | k+1,x72,x908000,x908001,x908002,x908003,x912000,x912001,x912002,x916000,x916001,x916002=>if x72=true then ((operand_Of.f k x912000 (⟨#[48]⟩:ByteArray) x912002 0).bind fun bt919=>((eval_Holds.f k x908000 x908001 x908002 x908003 bt919.1 bt919.2.1 bt919.2.2).bind fun t922=>((eval_Holds.f k x908000 x908001 x908002 x908003 x916000 x916001 x916002).bind fun t923=>(some (t922==t923))))) else ((operand_Of.f k x912000 x912001 x912002 0).bind fun bt924=>((eval_Holds.f k x908000 x908001 x908002 x908003 bt924.1 bt924.2.1 bt924.2.2).bind fun t927=>((eval_Holds.f k x908000 x908001 x908002 x908003 x916000 x916001 x916002).bind fun t928=>(some (t927==t928)))))
end
def florinlaw07_EvalPeriods.f (k:Nat) (a0_0:Int) (a0_1:Int) (a0_2:Int) (a0_3:Bool) (l0_4:List (S139)) (l1:List Int) (l2:List Int) (a3:Int):Option (Bool):=(florinlaw07_head.f k).bind fun t890=>(if t890=true then (if (l0_4.length:Int)>5 then (florinlaw07_EvalPeriods.j0 k l1 l2 a3 true a0_0 a0_1 a0_2 a0_3 l0_4) else (if (l1.length:Int)>40 then (florinlaw07_EvalPeriods.j0 k l1 l2 a3 true a0_0 a0_1 a0_2 a0_3 l0_4) else (florinlaw07_EvalPeriods.j0 k l1 l2 a3 (decide ((l2.length:Int)>40)) a0_0 a0_1 a0_2 a0_3 l0_4))) else (none))
def florinlaw07_EvalPeriods.T11:Bool × List (List Nat × List Nat):=(true,[([],[]),([0],[0]),([],[]),([2],[2]),([3],[3]),([],[]),([5],[5]),([4,6,4],[4,6]),([1,7,7],[1,7]),([0,1,2,3,4,5,6,7,8],[]),([9,8,8,0,1,2,3,4,5,6,7,8],[8,9])])
def florinlaw07_EvalPeriods.B11:List Nat:=[0,1,0,4,12,0,32,124,255,511,1023]
theorem florinlaw07_EvalPeriods.tab11:rtab .any (opsOf Tryz.f6 11)=florinlaw07_EvalPeriods.T11:=by kernel_rfl
theorem florinlaw07_EvalPeriods.bits11:waitsOk florinlaw07_EvalPeriods.T11.2 florinlaw07_EvalPeriods.B11=true:=by kernel_rfl
def florinlaw07_EvalPeriods.T14:Bool × List (List Nat × List Nat):=(true,[([],[]),([],[]),([1],[1]),([0,2,2],[0,2]),([],[]),([],[]),([4,5,3],[4,5]),([3,6],[3,6]),([7,6,0,1,2,3,4,5,6,7],[7])])
def florinlaw07_EvalPeriods.B14:List Nat:=[0,0,2,7,0,0,63,127,255]
theorem florinlaw07_EvalPeriods.tab14:rtab .any (opsOf Tryz.f6 14)=florinlaw07_EvalPeriods.T14:=by kernel_rfl
theorem florinlaw07_EvalPeriods.bits14:waitsOk florinlaw07_EvalPeriods.T14.2 florinlaw07_EvalPeriods.B14=true:=by kernel_rfl
set_option maxHeartbeats 64000000 in
set_option maxRecDepth 100000 in
theorem florinlaw07_EvalPeriods.calls (k:Nat) (a0_0:Int) (a0_1:Int) (a0_2:Int) (a0_3:Bool) (P0_4_:Nat→Prop) (A0_4:Option Addr) (c0_4:Nat) (l0_4:List (S139)) (A1:Option Addr) (c1:Nat) (l1:List Int) (A2:Option Addr) (c2:Nat) (l2:List Int) (a3:Int) (r:Bool) (w:World) (hs0_4:Kd.V k139 139 w w.heap.size (fun k_=>P0_4_ k_) (.slice A0_4 l0_4.length c0_4) l0_4) (hr1:Kd.C (Kd.int .u8) w A1 l1.length l1) (hc1:l1.length≤c1) (hr2:Kd.C (Kd.int .u8) w A2 l2.length l2) (hc2:l2.length≤c2) (h:florinlaw07_EvalPeriods.f k a0_0 a0_1 a0_2 a0_3 l0_4 l1 l2 a3=some r) :
  Calls Tryz.prog 6 #[.agg #[.int .i64 a0_0,.int .i64 a0_1,.int .i64 a0_2,.bool a0_3,.slice A0_4 l0_4.length c0_4],.slice A1 l1.length c1,.slice A2 l2.length c2,.int .i64 a3] w fun e w'=>e= .returned (.bool r)∧Below w.heap.size w w':=by
 have hu46:=Tryz.underlying46
 have hu50:=Tryz.underlying50
 have hu53:=Tryz.underlying53
 have hu30:=Tryz.underlying30
 have hu27:=Tryz.underlying27
 have HO0_4:=Aside0.mk (show Kd.V k139 139 w w.heap.size (fun k_=>(P0_4_ k_∨w.heap.size≤k_)) (.slice A0_4 l0_4.length c0_4) l0_4 from Kd.V_mono hs0_4 (fun k_ hk=> .inl hk))
 have HR1:=Aside0.mk hr1
 have HC1:=Aside0.mk hc1
 clear hr1 hc1
 have HR2:=Aside0.mk hr2
 have HC2:=Aside0.mk hc2
 clear hr2 hc2
 have HB:=Aside0.mk (Below.refl w.heap.size w)
 have H:((florinlaw07_head.f k).bind fun t890=>(if t890=true then (if (l0_4.length:Int)>5 then (florinlaw07_EvalPeriods.j0 k l1 l2 a3 true a0_0 a0_1 a0_2 a0_3 l0_4) else (if (l1.length:Int)>40 then (florinlaw07_EvalPeriods.j0 k l1 l2 a3 true a0_0 a0_1 a0_2 a0_3 l0_4) else (florinlaw07_EvalPeriods.j0 k l1 l2 a3 (decide ((l2.length:Int)>40)) a0_0 a0_1 a0_2 a0_3 l0_4))) else (none)))=some r:=h
 clear h
 replace H:=Option.bind_eq_some_iff.mp H
 obtain⟨t890,A50,H⟩:=H
 have A5:=Aside0.mk A50
 clear A50
 by_cases c6:t890=true
 ·subst c6
  have H1:(if (l0_4.length:Int)>5 then (florinlaw07_EvalPeriods.j0 k l1 l2 a3 true a0_0 a0_1 a0_2 a0_3 l0_4) else (if (l1.length:Int)>40 then (florinlaw07_EvalPeriods.j0 k l1 l2 a3 true a0_0 a0_1 a0_2 a0_3 l0_4) else (florinlaw07_EvalPeriods.j0 k l1 l2 a3 (decide ((l2.length:Int)>40)) a0_0 a0_1 a0_2 a0_3 l0_4)))=some r:=by rw[if_pos rfl] at H;exact H
  clear H
  have H:=H1
  clear H1
  have HC7:=Aside0.mk H
  clear H
  go_enter Tryz.func6,Tryz.ntmps6
  go_upto_region 3 with (first|((with_reducible refine gate_dst (N:=4) rfl ?_);(try (refine gate_guard (by rfl) ?_;dsimp only));refine be_ 4 #[.int .i64 a0_0,.int .i64 a0_1,.int .i64 a0_2,.bool a0_3,.slice A0_4 l0_4.length c0_4] 46 ?_;intro gb889 hg w8 hbox hb;have BK889:=Aside0.mk (hbox);have GW889:=sz_ HB hg;have GE889:=sz_ HB hg;replace HO0_4:=Aside0.mk (Kd.V_below (Kd.V_elderB (krV_ HO0_4) gb889 (Nat.le_of_eq hg.symm)) hb);replace HB:=Aside0.mk (below_step (bl_ HB).out hb);clear hb hbox hg)|((with_reducible refine gate_callee (f:=8) rfl ?_);refine gl_ (some 14) Tryz.func8 #[] ?_;(with_reducible refine(florinlaw07_head.calls _ _ _ A5.out).mono ?_);rintro e w9 ⟨rfl,hb⟩;refine⟨_,rfl,?_⟩;replace HO0_4:=Aside0.mk (Kd.V_below (krV_ HO0_4) hb);replace BK889:=bb_ BK889 hb;replace HB:=Aside0.mk (below_step (bl_ HB).out hb);(try clear hb);(try clear hi)))
  (try simp only[Act.put,List.setIfInBounds_toArray,List.set_cons_zero,List.set_cons_succ])
  go_cut [29] (fun v29 wc=>∃(kq:Nat) (x29_6:Bool),v29= .bool x29_6∧Aside0 (florinlaw07_EvalPeriods.j0 kq l1 l2 a3 x29_6 a0_0 a0_1 a0_2 a0_3 l0_4=some r)∧Aside0 (kq≤k)∧Aside0 (Kd.V k139 139 wc w.heap.size (fun k_=>(P0_4_ k_∨w.heap.size≤k_)∧k_≠gb889) (.slice A0_4 l0_4.length c0_4) l0_4)∧Aside0 (wc.heap[gb889]? = some (.cells #[.int .i64 a0_0,.int .i64 a0_1,.int .i64 a0_2,.bool a0_3,(.slice A0_4 l0_4.length c0_4)] 46 (0,0)))∧Aside0 (Below w.heap.size w wc))
  case first =>
   have H:=HC7.out
   clear HC7
   by_cases c10:(l0_4.length:Int)>5
   ·rw[if_pos c10] at H
    have c10b0:decide (5<(l0_4.length:Int))=true:=decide_eq_true c10
    have c10b1:decide (5<l0_4.length)=true:=decide_eq_true (by omega)
    clear c10
    (first|rw[c10b0]|(simp only[i64_w,i32_w];rw[c10b0])|skip)
    have H':=Aside0.mk H
    clear H
    obtain⟨hcz11_0,hcz11_1,hcz11_2,hcz11_3,hcz11_4,hfz11_0,hfz11_1,hfz11_2,hfz11_3,hfz11_4⟩:=bo5_ BK889
    go_wp2
    go_meet
    case rel=>exact⟨_,(true),eq_,H',⟨by first|omega|exact Nat.le_refl _⟩,⟨kdV_ HO0_4.out⟩,(bk_ BK889),(bl_ HB)⟩
   ·rw[if_neg c10] at H
    have c10b0:decide (5<(l0_4.length:Int))=false:=decide_eq_false c10
    have c10b1:decide (5<l0_4.length)=false:=decide_eq_false (by omega)
    clear c10
    (first|rw[c10b0]|(simp only[i64_w,i32_w];rw[c10b0])|skip)
    by_cases c12:(l1.length:Int)>40
    ·rw[if_pos c12] at H
     have c12b0:decide (40<(l1.length:Int))=true:=decide_eq_true c12
     have c12b1:decide (40<l1.length)=true:=decide_eq_true (by omega)
     clear c12
     have H':=Aside0.mk H
     clear H
     obtain⟨hcz13_0,hcz13_1,hcz13_2,hcz13_3,hcz13_4,hfz13_0,hfz13_1,hfz13_2,hfz13_3,hfz13_4⟩:=bo5_ BK889
     go_wp2
     go_meet
     case rel=>exact⟨_,(true),eq_,H',⟨by first|omega|exact Nat.le_refl _⟩,⟨kdV_ HO0_4.out⟩,(bk_ BK889),(bl_ HB)⟩
    ·rw[if_neg c12] at H
     have c12b0:decide (40<(l1.length:Int))=false:=decide_eq_false c12
     have c12b1:decide (40<l1.length)=false:=decide_eq_false (by omega)
     clear c12
     have H':=Aside0.mk H
     clear H
     obtain⟨hcz14_0,hcz14_1,hcz14_2,hcz14_3,hcz14_4,hfz14_0,hfz14_1,hfz14_2,hfz14_3,hfz14_4⟩:=bo5_ BK889
     go_wp2
     go_meet
     case rel=>exact⟨_,(decide ((l2.length:Int)>40)),eq_,H',⟨by first|omega|exact Nat.le_refl _⟩,⟨kdV_ HO0_4.out⟩,(bk_ BK889),(bl_ HB)⟩
  case rest =>
   clear HC7
   obtain⟨kq,x29_6,rfl,HA,HJ6,HO_890004,BK889,HB⟩:=hcut
   cases kq with
   | zero=>exact absurd HA.out (by simp[florinlaw07_EvalPeriods.j0])
   | succ kj6 =>
    have H:=HA.out
    clear HA
    simp only[florinlaw07_EvalPeriods.j0] at H
    by_cases c15:x29_6=true
    ·subst c15
     have H1:(some true)=some r:=by rw[if_pos rfl] at H;exact H
     clear H
     have H:=H1
     clear H1
     obtain rfl:=Option.some.inj H
     go_wp2
     go_ret
     exact⟨ew_,(bl_ HB).out⟩
    ·replace c15:=Bool.eq_false_iff.mpr c15
     subst c15
     have H1:((florinlaw06_All.f kj6 (([(⟨1,0,0,(([(([(⟨a0_0,a0_1,a0_2,a0_3,l0_4⟩:S46)]:List (S46)))]:List (List (S46))))⟩:S50)]:List (S50))) 0).bind fun bt900=>(if 0<(bt900.1.length:Int) then (if 0<(((rd_T41 bt900.1 0).f1).length:Int) then (if 0<((rd_L7 ((rd_T41 bt900.1 0).f1) 0).length:Int) then (if ((rd_T53 (rd_L7 ((rd_T41 bt900.1 0).f1) 0) 0).f1)=0 then (some true) else ((florinlaw05_Shown.f kj6 l1 l2).bind fun bt908=>((operand_Of.f kj6 bt908.1 bt908.2.1 bt908.2.2 0).bind fun bt912=>((num_Of.f kj6 ((rd_T53 (rd_L7 ((rd_T41 bt900.1 0).f1) 0) 0).f1)).bind fun t916=>((num_Times.f kj6 t916 (Go.bits .and .i64 a3 65535)).bind fun t917=>((num_Add.f kj6 bt908.2.1 t917).bind fun t918=>(if t918.toList=([]:List UInt8) then (florinlaw07_EvalPeriods.j1 kj6 (bt908.2.2.toList==([]:List UInt8)) ((rd_T53 (rd_L7 ((rd_T41 bt900.1 0).f1) 0) 0).f0) ((rd_T53 (rd_L7 ((rd_T41 bt900.1 0).f1) 0) 0).f1) ((rd_T53 (rd_L7 ((rd_T41 bt900.1 0).f1) 0) 0).f2) ((rd_T53 (rd_L7 ((rd_T41 bt900.1 0).f1) 0) 0).f3) bt908.1 t918 bt908.2.2 bt912.1 bt912.2.1 bt912.2.2) else (florinlaw07_EvalPeriods.j1 kj6 false ((rd_T53 (rd_L7 ((rd_T41 bt900.1 0).f1) 0) 0).f0) ((rd_T53 (rd_L7 ((rd_T41 bt900.1 0).f1) 0) 0).f1) ((rd_T53 (rd_L7 ((rd_T41 bt900.1 0).f1) 0) 0).f2) ((rd_T53 (rd_L7 ((rd_T41 bt900.1 0).f1) 0) 0).f3) bt908.1 t918 bt908.2.2 bt912.1 bt912.2.1 bt912.2.2)))))))) else (none)) else (none)) else (none)))=some r:=by rw[if_neg (show ¬(false=true) by decide)] at H;exact H
     clear H
     have H:=H1
     clear H1
     obtain⟨y891,hy891⟩:∃y_:List (S46),y_=(([(⟨a0_0,a0_1,a0_2,a0_3,l0_4⟩:S46)]:List (S46))):=⟨_,rfl⟩
     replace H:((florinlaw06_All.f kj6 (([(⟨1,0,0,(([y891]:List (List (S46))))⟩:S50)]:List (S50))) 0).bind fun bt900=>(if 0<(bt900.1.length:Int) then (if 0<(((rd_T41 bt900.1 0).f1).length:Int) then (if 0<((rd_L7 ((rd_T41 bt900.1 0).f1) 0).length:Int) then (if ((rd_T53 (rd_L7 ((rd_T41 bt900.1 0).f1) 0) 0).f1)=0 then (some true) else ((florinlaw05_Shown.f kj6 l1 l2).bind fun bt908=>((operand_Of.f kj6 bt908.1 bt908.2.1 bt908.2.2 0).bind fun bt912=>((num_Of.f kj6 ((rd_T53 (rd_L7 ((rd_T41 bt900.1 0).f1) 0) 0).f1)).bind fun t916=>((num_Times.f kj6 t916 (Go.bits .and .i64 a3 65535)).bind fun t917=>((num_Add.f kj6 bt908.2.1 t917).bind fun t918=>(if t918.toList=([]:List UInt8) then (florinlaw07_EvalPeriods.j1 kj6 (bt908.2.2.toList==([]:List UInt8)) ((rd_T53 (rd_L7 ((rd_T41 bt900.1 0).f1) 0) 0).f0) ((rd_T53 (rd_L7 ((rd_T41 bt900.1 0).f1) 0) 0).f1) ((rd_T53 (rd_L7 ((rd_T41 bt900.1 0).f1) 0) 0).f2) ((rd_T53 (rd_L7 ((rd_T41 bt900.1 0).f1) 0) 0).f3) bt908.1 t918 bt908.2.2 bt912.1 bt912.2.1 bt912.2.2) else (florinlaw07_EvalPeriods.j1 kj6 false ((rd_T53 (rd_L7 ((rd_T41 bt900.1 0).f1) 0) 0).f0) ((rd_T53 (rd_L7 ((rd_T41 bt900.1 0).f1) 0) 0).f1) ((rd_T53 (rd_L7 ((rd_T41 bt900.1 0).f1) 0) 0).f2) ((rd_T53 (rd_L7 ((rd_T41 bt900.1 0).f1) 0) 0).f3) bt908.1 t918 bt908.2.2 bt912.1 bt912.2.1 bt912.2.2)))))))) else (none)) else (none)) else (none)))=some r:=by first|(rw[hy891];with_reducible exact H)|(have H2_:=(Option.bind_some _ _).symm.trans H;rw[hy891];with_reducible exact H2_)|(have H2_:=(Option.bind_some _ _).symm.trans H;with_reducible exact H2_)|with_reducible exact H|(rw[hy891];exact H)|exact H
     have Ny891:=Aside0.mk hy891
     clear hy891
     obtain⟨y894,hy894⟩:∃y_:List (List (S46)),y_=(([y891]:List (List (S46)))):=⟨_,rfl⟩
     replace H:((florinlaw06_All.f kj6 (([(⟨1,0,0,y894⟩:S50)]:List (S50))) 0).bind fun bt900=>(if 0<(bt900.1.length:Int) then (if 0<(((rd_T41 bt900.1 0).f1).length:Int) then (if 0<((rd_L7 ((rd_T41 bt900.1 0).f1) 0).length:Int) then (if ((rd_T53 (rd_L7 ((rd_T41 bt900.1 0).f1) 0) 0).f1)=0 then (some true) else ((florinlaw05_Shown.f kj6 l1 l2).bind fun bt908=>((operand_Of.f kj6 bt908.1 bt908.2.1 bt908.2.2 0).bind fun bt912=>((num_Of.f kj6 ((rd_T53 (rd_L7 ((rd_T41 bt900.1 0).f1) 0) 0).f1)).bind fun t916=>((num_Times.f kj6 t916 (Go.bits .and .i64 a3 65535)).bind fun t917=>((num_Add.f kj6 bt908.2.1 t917).bind fun t918=>(if t918.toList=([]:List UInt8) then (florinlaw07_EvalPeriods.j1 kj6 (bt908.2.2.toList==([]:List UInt8)) ((rd_T53 (rd_L7 ((rd_T41 bt900.1 0).f1) 0) 0).f0) ((rd_T53 (rd_L7 ((rd_T41 bt900.1 0).f1) 0) 0).f1) ((rd_T53 (rd_L7 ((rd_T41 bt900.1 0).f1) 0) 0).f2) ((rd_T53 (rd_L7 ((rd_T41 bt900.1 0).f1) 0) 0).f3) bt908.1 t918 bt908.2.2 bt912.1 bt912.2.1 bt912.2.2) else (florinlaw07_EvalPeriods.j1 kj6 false ((rd_T53 (rd_L7 ((rd_T41 bt900.1 0).f1) 0) 0).f0) ((rd_T53 (rd_L7 ((rd_T41 bt900.1 0).f1) 0) 0).f1) ((rd_T53 (rd_L7 ((rd_T41 bt900.1 0).f1) 0) 0).f2) ((rd_T53 (rd_L7 ((rd_T41 bt900.1 0).f1) 0) 0).f3) bt908.1 t918 bt908.2.2 bt912.1 bt912.2.1 bt912.2.2)))))))) else (none)) else (none)) else (none)))=some r:=by first|(rw[hy894];with_reducible exact H)|(have H2_:=(Option.bind_some _ _).symm.trans H;rw[hy894];with_reducible exact H2_)|(have H2_:=(Option.bind_some _ _).symm.trans H;with_reducible exact H2_)|with_reducible exact H|(rw[hy894];exact H)|exact H
     have Ny894:=Aside0.mk hy894
     clear hy894
     obtain⟨y897,hy897⟩:∃y_:List (S50),y_=(([(⟨1,0,0,y894⟩:S50)]:List (S50))):=⟨_,rfl⟩
     replace H:((florinlaw06_All.f kj6 y897 0).bind fun bt900=>(if 0<(bt900.1.length:Int) then (if 0<(((rd_T41 bt900.1 0).f1).length:Int) then (if 0<((rd_L7 ((rd_T41 bt900.1 0).f1) 0).length:Int) then (if ((rd_T53 (rd_L7 ((rd_T41 bt900.1 0).f1) 0) 0).f1)=0 then (some true) else ((florinlaw05_Shown.f kj6 l1 l2).bind fun bt908=>((operand_Of.f kj6 bt908.1 bt908.2.1 bt908.2.2 0).bind fun bt912=>((num_Of.f kj6 ((rd_T53 (rd_L7 ((rd_T41 bt900.1 0).f1) 0) 0).f1)).bind fun t916=>((num_Times.f kj6 t916 (Go.bits .and .i64 a3 65535)).bind fun t917=>((num_Add.f kj6 bt908.2.1 t917).bind fun t918=>(if t918.toList=([]:List UInt8) then (florinlaw07_EvalPeriods.j1 kj6 (bt908.2.2.toList==([]:List UInt8)) ((rd_T53 (rd_L7 ((rd_T41 bt900.1 0).f1) 0) 0).f0) ((rd_T53 (rd_L7 ((rd_T41 bt900.1 0).f1) 0) 0).f1) ((rd_T53 (rd_L7 ((rd_T41 bt900.1 0).f1) 0) 0).f2) ((rd_T53 (rd_L7 ((rd_T41 bt900.1 0).f1) 0) 0).f3) bt908.1 t918 bt908.2.2 bt912.1 bt912.2.1 bt912.2.2) else (florinlaw07_EvalPeriods.j1 kj6 false ((rd_T53 (rd_L7 ((rd_T41 bt900.1 0).f1) 0) 0).f0) ((rd_T53 (rd_L7 ((rd_T41 bt900.1 0).f1) 0) 0).f1) ((rd_T53 (rd_L7 ((rd_T41 bt900.1 0).f1) 0) 0).f2) ((rd_T53 (rd_L7 ((rd_T41 bt900.1 0).f1) 0) 0).f3) bt908.1 t918 bt908.2.2 bt912.1 bt912.2.1 bt912.2.2)))))))) else (none)) else (none)) else (none)))=some r:=by first|(rw[hy897];with_reducible exact H)|(have H2_:=(Option.bind_some _ _).symm.trans H;rw[hy897];with_reducible exact H2_)|(have H2_:=(Option.bind_some _ _).symm.trans H;with_reducible exact H2_)|with_reducible exact H|(rw[hy897];exact H)|exact H
     have Ny897:=Aside0.mk hy897
     clear hy897
     replace H:=Option.bind_eq_some_iff.mp H
     obtain⟨⟨t900,t903⟩,A160,H⟩:=H
     dsimp only at H
     have A16:=Aside0.mk A160
     clear A160
     replace H:=ifn_ H
     obtain⟨c17,H⟩:=H
     have c17b0:decide (0<(t900.length:Int))=true:=decide_eq_true c17
     have c17b1:decide (0<t900.length)=true:=decide_eq_true (by omega)
     clear c17
     replace H:=ifn_ H
     obtain⟨c18,H⟩:=H
     have c18b0:decide (0<(((rd_T41 t900 0).f1).length:Int))=true:=decide_eq_true c18
     have c18b1:decide (0<((rd_T41 t900 0).f1).length)=true:=decide_eq_true (by omega)
     clear c18
     replace H:=ifn_ H
     obtain⟨c19,H⟩:=H
     have c19b0:decide (0<((rd_L7 ((rd_T41 t900 0).f1) 0).length:Int))=true:=decide_eq_true c19
     have c19b1:decide (0<(rd_L7 ((rd_T41 t900 0).f1) 0).length)=true:=decide_eq_true (by omega)
     clear c19
     by_cases c20:((rd_T53 (rd_L7 ((rd_T41 t900 0).f1) 0) 0).f1)=0
     ·rw[if_pos c20] at H
      have c20b0:(((rd_T53 (rd_L7 ((rd_T41 t900 0).f1) 0) 0).f1)==0)=true:=beq_iff_eq.mpr c20
      have c20b1:(((rd_T53 (rd_L7 ((rd_T41 t900 0).f1) 0) 0).f1) !=0)=false:=bne_eq_false_iff_eq.mpr c20
      clear c20
      obtain rfl:=Option.some.inj H
      obtain⟨hcz21_0,hcz21_1,hcz21_2,hcz21_3,hcz21_4,hfz21_0,hfz21_1,hfz21_2,hfz21_3,hfz21_4⟩:=bo5_ BK889
      go_wp2_with (first|((with_reducible refine gate_dst (N:=32) rfl ?_);(try (refine gate_guard (by rfl) ?_;dsimp only));refine Kd.N_lit k46 _ 46 ?hg (N':=32) ?hd (xs:=([(⟨a0_0,a0_1,a0_2,a0_3,l0_4⟩:S46)]:List (S46))) (inner:=[.int .i64 a0_0,.int .i64 a0_1,.int .i64 a0_2,.bool a0_3,.slice A0_4 l0_4.length c0_4]) (ok:=(fun k_=>(P0_4_ k_∨w.heap.size≤k_)∧k_≠gb889)) (okp:=(fun k_=>(P0_4_ k_∨w.heap.size≤k_)∧k_≠gb889)) ?hr ?hp (fun _ hk=>hk) ((show ∀k_,wc.heap.size≤k_→(fun k_=>(P0_4_ k_∨w.heap.size≤k_)∧k_≠gb889) k_ from fun k_ hk=>⟨(.inr (Nat.le_trans (below_size (bl_ HB).out) hk)),Kd.freshB (bk_ BK889).out k_ hk⟩) _ (Nat.le_refl _)) (Below.refl _ _) (Nat.le_refl _) (by simp) ?_;(case hd=>rfl);(case hg=>rfl);(case hr=>first|(go_simp;done)|(go_simp;rfl));(case hp=>exact(Reps.c5 (show Kd.FK k46 _ _ (⟨a0_0,a0_1,a0_2,a0_3,l0_4⟩:S46) [.int .i64 a0_0,.int .i64 a0_1,.int .i64 a0_2,.bool a0_3,.slice A0_4 l0_4.length c0_4] from(k46_mkF _ _ (⟨a0_0,a0_1,a0_2,a0_3,l0_4⟩:S46) (Kd.V_reads' (Kd.V_mono (ok':=(fun k_=>(P0_4_ k_∨w.heap.size≤k_)∧k_≠gb889)) (HO_890004.out) (fun k_ hk=>⟨hk.1,hk.2⟩))).2.1 (Kd.V_F (Kd.V_mono (ok':=(fun k_=>(P0_4_ k_∨w.heap.size≤k_)∧k_≠gb889)) (HO_890004.out) (fun k_ hk=>⟨hk.1,hk.2⟩))))) (Reps.none _ _)));intro v892 w22 ho23 hb hg_ hnew_;clear hg_ hnew_;(first|rw[← Ny891.out] at ho23|(simp only[Int.reduceToNat] at ho23;rw[← Ny891.out] at ho23));have HO893:=Aside0.mk (Kd.N_lower ho23 (below_size (bl_ HB).out));replace HO_890004:=Aside0.mk (Kd.V_elder' (krV_ HO_890004) (Kd.N_base ho23) hb);replace BK889:=bb_ BK889 hb;replace HB:=Aside0.mk (below_step (bl_ HB).out hb);clear hb ho23;obtain⟨Ao24,co24,eo24⟩:=Kd.N_slice HO893.out;subst eo24)|((with_reducible refine gate_dst (N:=33) rfl ?_);(try (refine gate_guard (by rfl) ?_;dsimp only));refine Kd.N_lit (Kd.slice 46 k46) _ 47 ?hg (N':=33) ?hd (xs:=([y891]:List (List (S46)))) (inner:=[.slice Ao24 y891.length co24]) (ok:=(fun k_=>(P0_4_ k_∨w.heap.size≤k_)∧k_≠gb889)) (okp:=(fun k_=>(P0_4_ k_∨w.heap.size≤k_)∧k_≠gb889)) ?hr ?hp (fun _ hk=>hk) ((show ∀k_,w22.heap.size≤k_→(fun k_=>(P0_4_ k_∨w.heap.size≤k_)∧k_≠gb889) k_ from fun k_ hk=>⟨(.inr (Nat.le_trans (below_size (bl_ HB).out) hk)),Kd.freshB (bk_ BK889).out k_ hk⟩) _ (Nat.le_refl _)) (Below.refl _ _) (Nat.le_refl _) (by simp) ?_;(case hd=>rfl);(case hg=>rfl);(case hr=>first|(go_simp;done)|(go_simp;rfl));(case hp=>exact(Reps.one (show Kd.FK (Kd.slice 46 k46) _ _ y891 [.slice Ao24 y891.length co24] from(Kd.FK_slice_mk (Kd.N_reads' (Kd.N_mono (ok':=(fun k_=>(P0_4_ k_∨w.heap.size≤k_)∧k_≠gb889)) (HO893.out) (fun k_ hk=>⟨hk.1,hk.2⟩))).2.1 (Kd.N_F (Kd.N_mono (ok':=(fun k_=>(P0_4_ k_∨w.heap.size≤k_)∧k_≠gb889)) (HO893.out) (fun k_ hk=>⟨hk.1,hk.2⟩))))) (Reps.none _ _)));intro v895 w25 ho26 hb hg_ hnew_;clear hg_ hnew_;(first|rw[← Ny894.out] at ho26|(simp only[Int.reduceToNat] at ho26;rw[← Ny894.out] at ho26));have n0_:=Aside0.mk (Kd.V_elder' (krV_ HO_890004) (Kd.N_base ho26) hb);have n1_:=Aside0.mk (Kd.N_lower ho26 (below_size (bl_ HB).out));have n2_:=bb_ BK889 hb;have n3_:=Aside0.mk (below_step (bl_ HB).out hb);clear HO_890004;clear BK889;clear HB;clear HO893;have HO_890004:=n0_;have HO896:=n1_;have BK889:=n2_;have HB:=n3_;clear n0_ n1_ n2_ n3_;clear hb ho26;obtain⟨Ao27,co27,eo27⟩:=Kd.N_slice HO896.out;subst eo27)|((with_reducible refine gate_dst (N:=35) rfl ?_);(try (refine gate_guard (by rfl) ?_;dsimp only));refine Kd.N_lit k50 _ 50 ?hg (N':=35) ?hd (xs:=([(⟨1,0,0,y894⟩:S50)]:List (S50))) (inner:=[.int .i64 1,.int .i64 0,.int .i64 0,.slice Ao27 y894.length co27]) (ok:=(fun k_=>(P0_4_ k_∨w.heap.size≤k_)∧k_≠gb889)) (okp:=(fun k_=>(P0_4_ k_∨w.heap.size≤k_)∧k_≠gb889)) ?hr ?hp (fun _ hk=>hk) ((show ∀k_,w25.heap.size≤k_→(fun k_=>(P0_4_ k_∨w.heap.size≤k_)∧k_≠gb889) k_ from fun k_ hk=>⟨(.inr (Nat.le_trans (below_size (bl_ HB).out) hk)),Kd.freshB (bk_ BK889).out k_ hk⟩) _ (Nat.le_refl _)) (Below.refl _ _) (Nat.le_refl _) (by simp) ?_;(case hd=>rfl);(case hg=>rfl);(case hr=>first|(go_simp;done)|(go_simp;rfl));(case hp=>exact(Reps.c4 (show Kd.FK k50 _ _ (⟨1,0,0,y894⟩:S50) [.int .i64 1,.int .i64 0,.int .i64 0,.slice Ao27 y894.length co27] from(k50_mkF _ _ (⟨1,0,0,y894⟩:S50) (Kd.N_reads' (Kd.N_mono (ok':=(fun k_=>(P0_4_ k_∨w.heap.size≤k_)∧k_≠gb889)) (HO896.out) (fun k_ hk=>⟨hk.1,hk.2⟩))).2.1 (Kd.N_F (Kd.N_mono (ok':=(fun k_=>(P0_4_ k_∨w.heap.size≤k_)∧k_≠gb889)) (HO896.out) (fun k_ hk=>⟨hk.1,hk.2⟩))))) (Reps.none _ _)));intro v898 w28 ho29 hb hg_ hnew_;clear hg_ hnew_;(first|rw[← Ny897.out] at ho29|(simp only[Int.reduceToNat] at ho29;rw[← Ny897.out] at ho29));have n0_:=Aside0.mk (Kd.V_elder' (krV_ HO_890004) (Kd.N_base ho29) hb);have n1_:=Aside0.mk (Kd.N_lower ho29 (below_size (bl_ HB).out));have n2_:=bb_ BK889 hb;have n3_:=Aside0.mk (below_step (bl_ HB).out hb);clear HO_890004;clear BK889;clear HB;clear HO896;have HO_890004:=n0_;have HO899:=n1_;have BK889:=n2_;have HB:=n3_;clear n0_ n1_ n2_ n3_;clear hb ho29;obtain⟨Ao30,co30,eo30⟩:=Kd.N_slice HO899.out;subst eo30)|((with_reducible refine gate_callee (f:=12) rfl ?_);refine gl_ (some 36) Tryz.func12 #[.slice Ao30 y897.length co30,.int .i64 0] ?_;(with_reducible refine(florinlaw06_All.calls _ (fun k_=>((P0_4_ k_∨w.heap.size≤k_)∧k_≠gb889)) _ _ _ _ _ _ _ ?side1 A16.out).mono ?_);(case side1=>exact Kd.N_V (HO899.out));rintro e w31 ⟨v901,rfl,ho0,hb⟩;refine⟨_,rfl,?_⟩;have n0_:=Aside0.mk (Kd.V_elder' (krV_ HO_890004) (Kd.N_base ho0) hb);have n1_:=Aside0.mk (Kd.N_elder' (krN_ HO899) (Kd.N_base ho0) hb);have n2_:=Aside0.mk (Kd.N_lower (Kd.N_mono (ok':=fun k_=>(P0_4_ k_∨w.heap.size≤k_)∧k_≠gb889) ho0 (fun k_ hk_=>⟨Or.elim hk_ (fun hs_=>hs_.1) (fun hn_=>(.inr (Nat.le_trans (below_size (bl_ HB).out) hn_))),Or.elim hk_ (fun hs_=>hs_.2) (fun hn_=>(Kd.freshB (bk_ BK889).out k_ hn_))⟩)) (below_size (bl_ HB).out));have n3_:=bb_ BK889 hb;have n4_:=Aside0.mk (below_step (bl_ HB).out hb);clear HO_890004;clear HO899;clear BK889;clear HB;have HO_890004:=n0_;have HO899:=n1_;have HO902:=n2_;have BK889:=n3_;have HB:=n4_;clear n0_ n1_ n2_ n3_ n4_;(try clear hb);(try clear ho0);obtain⟨Ao32,co32,eo32⟩:=Kd.N_slice HO902.out;subst eo32;have p904:0≤(0:Int):=(by omega);have q904:0<(t900.length:Int):=od_;obtain⟨ad904,A904_1,c904_1,e904,hx904_0,hx904_1,hx904_2,hl904_1,hi904_1⟩:=at_T41 (Kd.N_reads' HO902.out).2.2 0 p904 q904;cases e904;obtain⟨ce904,hce904,hMe904,hcc904⟩:=Kd.N_get HO902.out z41 0 p904 (by first|exact q904|exact od_|(have e_:=(Kd.N_reads' HO902.out).1;omega));obtain⟨ua904_1,uc904_1,rfl,ul904_1,ge904_1⟩:=k41_openF hMe904;have hv904_1:=hcc904 1 _ rfl;rw[add_field _ _ 1 (by omega)] at hv904_1;replace hv904_1:=Option.some.inj (hv904_1.symm.trans hx904_1);injection hv904_1 with hva_ hvn_ hvc_;rw[hva_] at ge904_1;rw[hvc_] at ul904_1;have HL904_1:=Aside0.mk (show Kd.V (Kd.slice 53 k53) 54 _ w.heap.size _ _ ((rd_T41 t900 0).f1) from Kd.V_mk ul904_1 ge904_1);clear hva_ hvn_ hvc_ ge904_1 ul904_1;clear hcc904 hce904;have qi904:(0<t900.length)=True:=eq_true (by omega);(try rw[show((0:Int)).toNat=0 from rfl] at hx904_0);(try rw[show 0*3=0 from rfl] at hx904_0);(try rw[Addr.add_zero'] at hx904_0);(try rw[show((0:Int)).toNat=0 from rfl] at hx904_1);(try rw[show 0*3=0 from rfl] at hx904_1);(try rw[Addr.add_zero'] at hx904_1);(try rw[show((0:Int)).toNat=0 from rfl] at hx904_2);(try rw[show 0*3=0 from rfl] at hx904_2);(try rw[Addr.add_zero'] at hx904_2);have HR904_1:=Aside0.mk hi904_1;have HC904_1:=Aside0.mk hl904_1;clear hi904_1 hl904_1;replace p904:=eq_true p904;replace q904:=eq_true q904;have p905:0≤(0:Int):=(by omega);have q905:0<(((rd_T41 t900 0).f1).length:Int):=od_;obtain⟨ad905,A905_0,c905_0,e905,hx905_0,hl905_0,hi905_0⟩:=at_L7 (by repeat(first|(with_reducible exact HR904_1.out)|(with_reducible refine Kd.C_alloc ?_ _)|(with_reducible refine Kd.C_drewN ?_ _)|(with_reducible refine Kd.C_drew ?_)|exact HR904_1.out)) 0 p905 q905;cases e905;obtain⟨ce905,hce905,hMe905,hcc905⟩:=Kd.V_get HL904_1.out [] 0 p905 (by first|exact q905|exact od_|(have e_:=(Kd.V_reads' HL904_1.out).1;omega));obtain⟨ua905_0,uc905_0,rfl,ul905_0,ge905_0⟩:=Kd.FK_slice_open hMe905;have hv905_0:=hcc905 0 _ rfl;rw[Nat.add_zero,show((Kd.slice 53 k53)).sz=1 from rfl,Nat.mul_one] at hv905_0;replace hv905_0:=Option.some.inj (hv905_0.symm.trans hx905_0);injection hv905_0 with hva_ hvn_ hvc_;rw[hva_] at ge905_0;rw[hvc_] at ul905_0;have HL905_0:=Aside0.mk (show Kd.V k53 53 _ w.heap.size _ _ (rd_L7 ((rd_T41 t900 0).f1) 0) from Kd.V_mk ul905_0 ge905_0);clear hva_ hvn_ hvc_ ge905_0 ul905_0;clear hcc905 hce905;have qi905:(0<((rd_T41 t900 0).f1).length)=True:=eq_true (by omega);(try rw[show((0:Int)).toNat=0 from rfl] at hx905_0);(try rw[Addr.add_zero'] at hx905_0);have HR905_0:=Aside0.mk hi905_0;have HC905_0:=Aside0.mk hl905_0;clear hi905_0 hl905_0;replace p905:=eq_true p905;replace q905:=eq_true q905;have p906:0≤(0:Int):=(by omega);have q906:0<((rd_L7 ((rd_T41 t900 0).f1) 0).length:Int):=od_;obtain⟨ad906,A906_3,c906_3,e906,hx906_0,hx906_1,hx906_2,hx906_3,hl906_3,hi906_3⟩:=at_T53 (by repeat(first|(with_reducible exact HR905_0.out)|(with_reducible refine Kd.C_alloc ?_ _)|(with_reducible refine Kd.C_drewN ?_ _)|(with_reducible refine Kd.C_drew ?_)|exact HR905_0.out)) 0 p906 q906;cases e906;obtain⟨ce906,hce906,hMe906,hcc906⟩:=Kd.V_get HL905_0.out z53 0 p906 (by first|exact q906|exact od_|(have e_:=(Kd.V_reads' HL905_0.out).1;omega));obtain⟨ua906_3,uc906_3,rfl,ul906_3,ge906_3⟩:=k53_openF hMe906;have hv906_3:=hcc906 3 _ rfl;rw[add_field _ _ 3 (by omega)] at hv906_3;replace hv906_3:=Option.some.inj (hv906_3.symm.trans hx906_3);injection hv906_3 with hva_ hvn_ hvc_;rw[hva_] at ge906_3;rw[hvc_] at ul906_3;have HL906_3:=Aside0.mk (show Kd.V k57 57 _ w.heap.size _ _ ((rd_T53 (rd_L7 ((rd_T41 t900 0).f1) 0) 0).f3) from Kd.V_mk ul906_3 ge906_3);clear hva_ hvn_ hvc_ ge906_3 ul906_3;clear hcc906 hce906;have qi906:(0<(rd_L7 ((rd_T41 t900 0).f1) 0).length)=True:=eq_true (by omega);(try rw[show((0:Int)).toNat=0 from rfl] at hx906_0);(try rw[show 0*4=0 from rfl] at hx906_0);(try rw[Addr.add_zero'] at hx906_0);(try rw[show((0:Int)).toNat=0 from rfl] at hx906_1);(try rw[show 0*4=0 from rfl] at hx906_1);(try rw[Addr.add_zero'] at hx906_1);(try rw[show((0:Int)).toNat=0 from rfl] at hx906_2);(try rw[show 0*4=0 from rfl] at hx906_2);(try rw[Addr.add_zero'] at hx906_2);(try rw[show((0:Int)).toNat=0 from rfl] at hx906_3);(try rw[show 0*4=0 from rfl] at hx906_3);(try rw[Addr.add_zero'] at hx906_3);have HR906_3:=Aside0.mk hi906_3;have HC906_3:=Aside0.mk hl906_3;clear hi906_3 hl906_3;replace p906:=eq_true p906;replace q906:=eq_true q906)|((with_reducible refine gate_dst (N:=11) rfl ?_);(try (refine gate_guard (by rfl) ?_;dsimp only));refine be_ 11 #[.int .u8 0,.int .i64 0,.bool false,.slice none 0 0] 53 ?_;intro gb907 hg w33 hbox hb;have BK907:=Aside0.mk (hbox);have GW907:=sz_ HB hg;have GE907:=sz_ HB hg;have NB889_907:=na_ BK889 hg;have NB907_889:=nb_ BK889 hg;replace HO_890004:=Aside0.mk (Kd.V_below (Kd.V_elderB (krV_ HO_890004) gb907 (Nat.le_of_eq hg.symm)) hb);replace HO899:=Aside0.mk (Kd.N_below (Kd.N_elderB (krN_ HO899) gb907 (Nat.le_of_eq hg.symm)) hb);replace HO902:=Aside0.mk (Kd.N_below (Kd.N_elderB (krN_ HO902) gb907 (Nat.le_of_eq hg.symm)) hb);replace HL904_1:=Aside0.mk (Kd.V_below (Kd.V_elderB (krV_ HL904_1) gb907 (Nat.le_of_eq hg.symm)) hb);replace HL905_0:=Aside0.mk (Kd.V_below (Kd.V_elderB (krV_ HL905_0) gb907 (Nat.le_of_eq hg.symm)) hb);replace HL906_3:=Aside0.mk (Kd.V_below (Kd.V_elderB (krV_ HL906_3) gb907 (Nat.le_of_eq hg.symm)) hb);replace BK889:=bb_ BK889 hb;replace HR904_1:=Aside0.mk (Kd.C_below (by repeat(first|(with_reducible exact HR904_1.out)|(with_reducible refine Kd.C_alloc ?_ _)|(with_reducible refine Kd.C_drewN ?_ _)|(with_reducible refine Kd.C_drew ?_)|exact HR904_1.out)) hb);replace HR905_0:=Aside0.mk (Kd.C_below (by repeat(first|(with_reducible exact HR905_0.out)|(with_reducible refine Kd.C_alloc ?_ _)|(with_reducible refine Kd.C_drewN ?_ _)|(with_reducible refine Kd.C_drew ?_)|exact HR905_0.out)) hb);replace HR906_3:=Aside0.mk (Kd.C_below (by repeat(first|(with_reducible exact HR906_3.out)|(with_reducible refine Kd.C_alloc ?_ _)|(with_reducible refine Kd.C_drewN ?_ _)|(with_reducible refine Kd.C_drew ?_)|exact HR906_3.out)) hb);replace HB:=Aside0.mk (below_step (bl_ HB).out hb);clear hb hbox hg;have hnb34:=NB907_889.out;have hnc34:=NB889_907.out;obtain⟨hcz35_0,hcz35_1,hcz35_2,hcz35_3,hfz35_0,hfz35_1,hfz35_2,hfz35_3⟩:=bo4_ BK907))
      go_ret
      exact⟨ew_,(bl_ HB).out⟩
     ·rw[if_neg c20] at H
      have c20b0:(((rd_T53 (rd_L7 ((rd_T41 t900 0).f1) 0) 0).f1)==0)=false:=beq_eq_false_iff_ne.mpr c20
      have c20b1:(((rd_T53 (rd_L7 ((rd_T41 t900 0).f1) 0) 0).f1) !=0)=true:=bne_iff_ne.mpr c20
      replace H:=Option.bind_eq_some_iff.mp H
      obtain⟨⟨t908,t909,t910⟩,A360,H⟩:=H
      dsimp only at H
      have A36:=Aside0.mk A360
      clear A360
      replace H:=Option.bind_eq_some_iff.mp H
      obtain⟨⟨t912,t913,t914⟩,A370,H⟩:=H
      dsimp only at H
      have A37:=Aside0.mk A370
      clear A370
      replace H:=Option.bind_eq_some_iff.mp H
      obtain⟨t916,A380,H⟩:=H
      have A38:=Aside0.mk A380
      clear A380
      replace H:=Option.bind_eq_some_iff.mp H
      obtain⟨t917,A390,H⟩:=H
      have A39:=Aside0.mk A390
      clear A390
      replace H:=Option.bind_eq_some_iff.mp H
      obtain⟨t918,A400,H⟩:=H
      have A40:=Aside0.mk A400
      clear A400
      have HC41:=Aside0.mk H
      clear H
      obtain⟨hcz42_0,hcz42_1,hcz42_2,hcz42_3,hcz42_4,hfz42_0,hfz42_1,hfz42_2,hfz42_3,hfz42_4⟩:=bo5_ BK889
      try go_wp2_with (first|((with_reducible refine gate_dst (N:=32) rfl ?_);(try (refine gate_guard (by rfl) ?_;dsimp only));refine Kd.N_lit k46 _ 46 ?hg (N':=32) ?hd (xs:=([(⟨a0_0,a0_1,a0_2,a0_3,l0_4⟩:S46)]:List (S46))) (inner:=[.int .i64 a0_0,.int .i64 a0_1,.int .i64 a0_2,.bool a0_3,.slice A0_4 l0_4.length c0_4]) (ok:=(fun k_=>(P0_4_ k_∨w.heap.size≤k_)∧k_≠gb889)) (okp:=(fun k_=>(P0_4_ k_∨w.heap.size≤k_)∧k_≠gb889)) ?hr ?hp (fun _ hk=>hk) ((show ∀k_,wc.heap.size≤k_→(fun k_=>(P0_4_ k_∨w.heap.size≤k_)∧k_≠gb889) k_ from fun k_ hk=>⟨(.inr (Nat.le_trans (below_size (bl_ HB).out) hk)),Kd.freshB (bk_ BK889).out k_ hk⟩) _ (Nat.le_refl _)) (Below.refl _ _) (Nat.le_refl _) (by simp) ?_;(case hd=>rfl);(case hg=>rfl);(case hr=>first|(go_simp;done)|(go_simp;rfl));(case hp=>exact(Reps.c5 (show Kd.FK k46 _ _ (⟨a0_0,a0_1,a0_2,a0_3,l0_4⟩:S46) [.int .i64 a0_0,.int .i64 a0_1,.int .i64 a0_2,.bool a0_3,.slice A0_4 l0_4.length c0_4] from(k46_mkF _ _ (⟨a0_0,a0_1,a0_2,a0_3,l0_4⟩:S46) (Kd.V_reads' (Kd.V_mono (ok':=(fun k_=>(P0_4_ k_∨w.heap.size≤k_)∧k_≠gb889)) (HO_890004.out) (fun k_ hk=>⟨hk.1,hk.2⟩))).2.1 (Kd.V_F (Kd.V_mono (ok':=(fun k_=>(P0_4_ k_∨w.heap.size≤k_)∧k_≠gb889)) (HO_890004.out) (fun k_ hk=>⟨hk.1,hk.2⟩))))) (Reps.none _ _)));intro v892 w43 ho44 hb hg_ hnew_;clear hg_ hnew_;(first|rw[← Ny891.out] at ho44|(simp only[Int.reduceToNat] at ho44;rw[← Ny891.out] at ho44));have HO893:=Aside0.mk (Kd.N_lower ho44 (below_size (bl_ HB).out));replace HO_890004:=Aside0.mk (Kd.V_elder' (krV_ HO_890004) (Kd.N_base ho44) hb);replace BK889:=bb_ BK889 hb;replace HB:=Aside0.mk (below_step (bl_ HB).out hb);clear hb ho44;obtain⟨Ao45,co45,eo45⟩:=Kd.N_slice HO893.out;subst eo45)|((with_reducible refine gate_dst (N:=33) rfl ?_);(try (refine gate_guard (by rfl) ?_;dsimp only));refine Kd.N_lit (Kd.slice 46 k46) _ 47 ?hg (N':=33) ?hd (xs:=([y891]:List (List (S46)))) (inner:=[.slice Ao45 y891.length co45]) (ok:=(fun k_=>(P0_4_ k_∨w.heap.size≤k_)∧k_≠gb889)) (okp:=(fun k_=>(P0_4_ k_∨w.heap.size≤k_)∧k_≠gb889)) ?hr ?hp (fun _ hk=>hk) ((show ∀k_,w43.heap.size≤k_→(fun k_=>(P0_4_ k_∨w.heap.size≤k_)∧k_≠gb889) k_ from fun k_ hk=>⟨(.inr (Nat.le_trans (below_size (bl_ HB).out) hk)),Kd.freshB (bk_ BK889).out k_ hk⟩) _ (Nat.le_refl _)) (Below.refl _ _) (Nat.le_refl _) (by simp) ?_;(case hd=>rfl);(case hg=>rfl);(case hr=>first|(go_simp;done)|(go_simp;rfl));(case hp=>exact(Reps.one (show Kd.FK (Kd.slice 46 k46) _ _ y891 [.slice Ao45 y891.length co45] from(Kd.FK_slice_mk (Kd.N_reads' (Kd.N_mono (ok':=(fun k_=>(P0_4_ k_∨w.heap.size≤k_)∧k_≠gb889)) (HO893.out) (fun k_ hk=>⟨hk.1,hk.2⟩))).2.1 (Kd.N_F (Kd.N_mono (ok':=(fun k_=>(P0_4_ k_∨w.heap.size≤k_)∧k_≠gb889)) (HO893.out) (fun k_ hk=>⟨hk.1,hk.2⟩))))) (Reps.none _ _)));intro v895 w46 ho47 hb hg_ hnew_;clear hg_ hnew_;(first|rw[← Ny894.out] at ho47|(simp only[Int.reduceToNat] at ho47;rw[← Ny894.out] at ho47));have n0_:=Aside0.mk (Kd.V_elder' (krV_ HO_890004) (Kd.N_base ho47) hb);have n1_:=Aside0.mk (Kd.N_lower ho47 (below_size (bl_ HB).out));have n2_:=bb_ BK889 hb;have n3_:=Aside0.mk (below_step (bl_ HB).out hb);clear HO_890004;clear BK889;clear HB;clear HO893;have HO_890004:=n0_;have HO896:=n1_;have BK889:=n2_;have HB:=n3_;clear n0_ n1_ n2_ n3_;clear hb ho47;obtain⟨Ao48,co48,eo48⟩:=Kd.N_slice HO896.out;subst eo48)|((with_reducible refine gate_dst (N:=35) rfl ?_);(try (refine gate_guard (by rfl) ?_;dsimp only));refine Kd.N_lit k50 _ 50 ?hg (N':=35) ?hd (xs:=([(⟨1,0,0,y894⟩:S50)]:List (S50))) (inner:=[.int .i64 1,.int .i64 0,.int .i64 0,.slice Ao48 y894.length co48]) (ok:=(fun k_=>(P0_4_ k_∨w.heap.size≤k_)∧k_≠gb889)) (okp:=(fun k_=>(P0_4_ k_∨w.heap.size≤k_)∧k_≠gb889)) ?hr ?hp (fun _ hk=>hk) ((show ∀k_,w46.heap.size≤k_→(fun k_=>(P0_4_ k_∨w.heap.size≤k_)∧k_≠gb889) k_ from fun k_ hk=>⟨(.inr (Nat.le_trans (below_size (bl_ HB).out) hk)),Kd.freshB (bk_ BK889).out k_ hk⟩) _ (Nat.le_refl _)) (Below.refl _ _) (Nat.le_refl _) (by simp) ?_;(case hd=>rfl);(case hg=>rfl);(case hr=>first|(go_simp;done)|(go_simp;rfl));(case hp=>exact(Reps.c4 (show Kd.FK k50 _ _ (⟨1,0,0,y894⟩:S50) [.int .i64 1,.int .i64 0,.int .i64 0,.slice Ao48 y894.length co48] from(k50_mkF _ _ (⟨1,0,0,y894⟩:S50) (Kd.N_reads' (Kd.N_mono (ok':=(fun k_=>(P0_4_ k_∨w.heap.size≤k_)∧k_≠gb889)) (HO896.out) (fun k_ hk=>⟨hk.1,hk.2⟩))).2.1 (Kd.N_F (Kd.N_mono (ok':=(fun k_=>(P0_4_ k_∨w.heap.size≤k_)∧k_≠gb889)) (HO896.out) (fun k_ hk=>⟨hk.1,hk.2⟩))))) (Reps.none _ _)));intro v898 w49 ho50 hb hg_ hnew_;clear hg_ hnew_;(first|rw[← Ny897.out] at ho50|(simp only[Int.reduceToNat] at ho50;rw[← Ny897.out] at ho50));have n0_:=Aside0.mk (Kd.V_elder' (krV_ HO_890004) (Kd.N_base ho50) hb);have n1_:=Aside0.mk (Kd.N_lower ho50 (below_size (bl_ HB).out));have n2_:=bb_ BK889 hb;have n3_:=Aside0.mk (below_step (bl_ HB).out hb);clear HO_890004;clear BK889;clear HB;clear HO896;have HO_890004:=n0_;have HO899:=n1_;have BK889:=n2_;have HB:=n3_;clear n0_ n1_ n2_ n3_;clear hb ho50;obtain⟨Ao51,co51,eo51⟩:=Kd.N_slice HO899.out;subst eo51)|((with_reducible refine gate_callee (f:=12) rfl ?_);refine gl_ (some 36) Tryz.func12 #[.slice Ao51 y897.length co51,.int .i64 0] ?_;(with_reducible refine(florinlaw06_All.calls _ (fun k_=>((P0_4_ k_∨w.heap.size≤k_)∧k_≠gb889)) _ _ _ _ _ _ _ ?side1 A16.out).mono ?_);(case side1=>exact Kd.N_V (HO899.out));rintro e w52 ⟨v901,rfl,ho0,hb⟩;refine⟨_,rfl,?_⟩;have n0_:=Aside0.mk (Kd.V_elder' (krV_ HO_890004) (Kd.N_base ho0) hb);have n1_:=Aside0.mk (Kd.N_elder' (krN_ HO899) (Kd.N_base ho0) hb);have n2_:=Aside0.mk (Kd.N_lower (Kd.N_mono (ok':=fun k_=>(P0_4_ k_∨w.heap.size≤k_)∧k_≠gb889) ho0 (fun k_ hk_=>⟨Or.elim hk_ (fun hs_=>hs_.1) (fun hn_=>(.inr (Nat.le_trans (below_size (bl_ HB).out) hn_))),Or.elim hk_ (fun hs_=>hs_.2) (fun hn_=>(Kd.freshB (bk_ BK889).out k_ hn_))⟩)) (below_size (bl_ HB).out));have n3_:=bb_ BK889 hb;have n4_:=Aside0.mk (below_step (bl_ HB).out hb);clear HO_890004;clear HO899;clear BK889;clear HB;have HO_890004:=n0_;have HO899:=n1_;have HO902:=n2_;have BK889:=n3_;have HB:=n4_;clear n0_ n1_ n2_ n3_ n4_;(try clear hb);(try clear ho0);obtain⟨Ao53,co53,eo53⟩:=Kd.N_slice HO902.out;subst eo53;have p904:0≤(0:Int):=(by omega);have q904:0<(t900.length:Int):=od_;obtain⟨ad904,A904_1,c904_1,e904,hx904_0,hx904_1,hx904_2,hl904_1,hi904_1⟩:=at_T41 (Kd.N_reads' HO902.out).2.2 0 p904 q904;cases e904;obtain⟨ce904,hce904,hMe904,hcc904⟩:=Kd.N_get HO902.out z41 0 p904 (by first|exact q904|exact od_|(have e_:=(Kd.N_reads' HO902.out).1;omega));obtain⟨ua904_1,uc904_1,rfl,ul904_1,ge904_1⟩:=k41_openF hMe904;have hv904_1:=hcc904 1 _ rfl;rw[add_field _ _ 1 (by omega)] at hv904_1;replace hv904_1:=Option.some.inj (hv904_1.symm.trans hx904_1);injection hv904_1 with hva_ hvn_ hvc_;rw[hva_] at ge904_1;rw[hvc_] at ul904_1;have HL904_1:=Aside0.mk (show Kd.V (Kd.slice 53 k53) 54 _ w.heap.size _ _ ((rd_T41 t900 0).f1) from Kd.V_mk ul904_1 ge904_1);clear hva_ hvn_ hvc_ ge904_1 ul904_1;clear hcc904 hce904;have qi904:(0<t900.length)=True:=eq_true (by omega);(try rw[show((0:Int)).toNat=0 from rfl] at hx904_0);(try rw[show 0*3=0 from rfl] at hx904_0);(try rw[Addr.add_zero'] at hx904_0);(try rw[show((0:Int)).toNat=0 from rfl] at hx904_1);(try rw[show 0*3=0 from rfl] at hx904_1);(try rw[Addr.add_zero'] at hx904_1);(try rw[show((0:Int)).toNat=0 from rfl] at hx904_2);(try rw[show 0*3=0 from rfl] at hx904_2);(try rw[Addr.add_zero'] at hx904_2);have HR904_1:=Aside0.mk hi904_1;have HC904_1:=Aside0.mk hl904_1;clear hi904_1 hl904_1;replace p904:=eq_true p904;replace q904:=eq_true q904;have p905:0≤(0:Int):=(by omega);have q905:0<(((rd_T41 t900 0).f1).length:Int):=od_;obtain⟨ad905,A905_0,c905_0,e905,hx905_0,hl905_0,hi905_0⟩:=at_L7 (by repeat(first|(with_reducible exact HR904_1.out)|(with_reducible refine Kd.C_alloc ?_ _)|(with_reducible refine Kd.C_drewN ?_ _)|(with_reducible refine Kd.C_drew ?_)|exact HR904_1.out)) 0 p905 q905;cases e905;obtain⟨ce905,hce905,hMe905,hcc905⟩:=Kd.V_get HL904_1.out [] 0 p905 (by first|exact q905|exact od_|(have e_:=(Kd.V_reads' HL904_1.out).1;omega));obtain⟨ua905_0,uc905_0,rfl,ul905_0,ge905_0⟩:=Kd.FK_slice_open hMe905;have hv905_0:=hcc905 0 _ rfl;rw[Nat.add_zero,show((Kd.slice 53 k53)).sz=1 from rfl,Nat.mul_one] at hv905_0;replace hv905_0:=Option.some.inj (hv905_0.symm.trans hx905_0);injection hv905_0 with hva_ hvn_ hvc_;rw[hva_] at ge905_0;rw[hvc_] at ul905_0;have HL905_0:=Aside0.mk (show Kd.V k53 53 _ w.heap.size _ _ (rd_L7 ((rd_T41 t900 0).f1) 0) from Kd.V_mk ul905_0 ge905_0);clear hva_ hvn_ hvc_ ge905_0 ul905_0;clear hcc905 hce905;have qi905:(0<((rd_T41 t900 0).f1).length)=True:=eq_true (by omega);(try rw[show((0:Int)).toNat=0 from rfl] at hx905_0);(try rw[Addr.add_zero'] at hx905_0);have HR905_0:=Aside0.mk hi905_0;have HC905_0:=Aside0.mk hl905_0;clear hi905_0 hl905_0;replace p905:=eq_true p905;replace q905:=eq_true q905;have p906:0≤(0:Int):=(by omega);have q906:0<((rd_L7 ((rd_T41 t900 0).f1) 0).length:Int):=od_;obtain⟨ad906,A906_3,c906_3,e906,hx906_0,hx906_1,hx906_2,hx906_3,hl906_3,hi906_3⟩:=at_T53 (by repeat(first|(with_reducible exact HR905_0.out)|(with_reducible refine Kd.C_alloc ?_ _)|(with_reducible refine Kd.C_drewN ?_ _)|(with_reducible refine Kd.C_drew ?_)|exact HR905_0.out)) 0 p906 q906;cases e906;obtain⟨ce906,hce906,hMe906,hcc906⟩:=Kd.V_get HL905_0.out z53 0 p906 (by first|exact q906|exact od_|(have e_:=(Kd.V_reads' HL905_0.out).1;omega));obtain⟨ua906_3,uc906_3,rfl,ul906_3,ge906_3⟩:=k53_openF hMe906;have hv906_3:=hcc906 3 _ rfl;rw[add_field _ _ 3 (by omega)] at hv906_3;replace hv906_3:=Option.some.inj (hv906_3.symm.trans hx906_3);injection hv906_3 with hva_ hvn_ hvc_;rw[hva_] at ge906_3;rw[hvc_] at ul906_3;have HL906_3:=Aside0.mk (show Kd.V k57 57 _ w.heap.size _ _ ((rd_T53 (rd_L7 ((rd_T41 t900 0).f1) 0) 0).f3) from Kd.V_mk ul906_3 ge906_3);clear hva_ hvn_ hvc_ ge906_3 ul906_3;clear hcc906 hce906;have qi906:(0<(rd_L7 ((rd_T41 t900 0).f1) 0).length)=True:=eq_true (by omega);(try rw[show((0:Int)).toNat=0 from rfl] at hx906_0);(try rw[show 0*4=0 from rfl] at hx906_0);(try rw[Addr.add_zero'] at hx906_0);(try rw[show((0:Int)).toNat=0 from rfl] at hx906_1);(try rw[show 0*4=0 from rfl] at hx906_1);(try rw[Addr.add_zero'] at hx906_1);(try rw[show((0:Int)).toNat=0 from rfl] at hx906_2);(try rw[show 0*4=0 from rfl] at hx906_2);(try rw[Addr.add_zero'] at hx906_2);(try rw[show((0:Int)).toNat=0 from rfl] at hx906_3);(try rw[show 0*4=0 from rfl] at hx906_3);(try rw[Addr.add_zero'] at hx906_3);have HR906_3:=Aside0.mk hi906_3;have HC906_3:=Aside0.mk hl906_3;clear hi906_3 hl906_3;replace p906:=eq_true p906;replace q906:=eq_true q906)|((with_reducible refine gate_dst (N:=11) rfl ?_);(try (refine gate_guard (by rfl) ?_;dsimp only));refine be_ 11 #[.int .u8 0,.int .i64 0,.bool false,.slice none 0 0] 53 ?_;intro gb907 hg w54 hbox hb;have BK907:=Aside0.mk (hbox);have GW907:=sz_ HB hg;have GE907:=sz_ HB hg;have NB889_907:=na_ BK889 hg;have NB907_889:=nb_ BK889 hg;replace HO_890004:=Aside0.mk (Kd.V_below (Kd.V_elderB (krV_ HO_890004) gb907 (Nat.le_of_eq hg.symm)) hb);replace HO899:=Aside0.mk (Kd.N_below (Kd.N_elderB (krN_ HO899) gb907 (Nat.le_of_eq hg.symm)) hb);replace HO902:=Aside0.mk (Kd.N_below (Kd.N_elderB (krN_ HO902) gb907 (Nat.le_of_eq hg.symm)) hb);replace HL904_1:=Aside0.mk (Kd.V_below (Kd.V_elderB (krV_ HL904_1) gb907 (Nat.le_of_eq hg.symm)) hb);replace HL905_0:=Aside0.mk (Kd.V_below (Kd.V_elderB (krV_ HL905_0) gb907 (Nat.le_of_eq hg.symm)) hb);replace HL906_3:=Aside0.mk (Kd.V_below (Kd.V_elderB (krV_ HL906_3) gb907 (Nat.le_of_eq hg.symm)) hb);replace BK889:=bb_ BK889 hb;replace HR904_1:=Aside0.mk (Kd.C_below (by repeat(first|(with_reducible exact HR904_1.out)|(with_reducible refine Kd.C_alloc ?_ _)|(with_reducible refine Kd.C_drewN ?_ _)|(with_reducible refine Kd.C_drew ?_)|exact HR904_1.out)) hb);replace HR905_0:=Aside0.mk (Kd.C_below (by repeat(first|(with_reducible exact HR905_0.out)|(with_reducible refine Kd.C_alloc ?_ _)|(with_reducible refine Kd.C_drewN ?_ _)|(with_reducible refine Kd.C_drew ?_)|exact HR905_0.out)) hb);replace HR906_3:=Aside0.mk (Kd.C_below (by repeat(first|(with_reducible exact HR906_3.out)|(with_reducible refine Kd.C_alloc ?_ _)|(with_reducible refine Kd.C_drewN ?_ _)|(with_reducible refine Kd.C_drew ?_)|exact HR906_3.out)) hb);replace HB:=Aside0.mk (below_step (bl_ HB).out hb);clear hb hbox hg;have hnb55:=NB907_889.out;have hnc55:=NB889_907.out;obtain⟨hcz56_0,hcz56_1,hcz56_2,hcz56_3,hfz56_0,hfz56_1,hfz56_2,hfz56_3⟩:=bo4_ BK907)|((with_reducible refine gate_callee (f:=11) rfl ?_);refine gl_ (some 52) Tryz.func11 #[.slice A1 l1.length c1,.slice A2 l2.length c2] ?_;(with_reducible refine(florinlaw05_Shown.calls _ _ _ _ _ _ _ _ _ _ _ ?side1 ?side2 ?side3 ?side4 A36.out).mono ?_);(case side1=>exact Kd.C_below HR1.out (bl_ HB).out);(case side2=>exact HC1.out);(case side3=>exact Kd.C_below HR2.out (bl_ HB).out);(case side4=>exact HC2.out);rintro e w57 ⟨rfl,hb⟩;refine⟨_,rfl,?_⟩;have n0_:=Aside0.mk (Kd.V_below (kdV_ ((Kd.V_mono (Kd.V_far (Kd.V_far (Kd.V_far (Kd.V_far (Kd.V_mono HO_890004.out (fun k_ hk=>(⟨hk,hk.2⟩:_∧k_≠gb907))) (fun _ hk=>hk.2) _) (fun _ hk=>hk.2) _) (fun _ hk=>hk.2) _) (fun _ hk=>hk.2) _) (fun _ h_=>h_.1)))) hb);have n1_:=Aside0.mk (Kd.N_below (kdN_ ((Kd.N_mono (Kd.N_far (Kd.N_far (Kd.N_far (Kd.N_far (Kd.N_mono HO899.out (fun k_ hk=>(⟨hk,hk.2⟩:_∧k_≠gb907))) (fun _ hk=>hk.2) _) (fun _ hk=>hk.2) _) (fun _ hk=>hk.2) _) (fun _ hk=>hk.2) _) (fun _ h_=>h_.1)))) hb);have n2_:=Aside0.mk (Kd.N_below (kdN_ ((Kd.N_mono (Kd.N_far (Kd.N_far (Kd.N_far (Kd.N_far (Kd.N_mono HO902.out (fun k_ hk=>(⟨hk,hk.2⟩:_∧k_≠gb907))) (fun _ hk=>hk.2) _) (fun _ hk=>hk.2) _) (fun _ hk=>hk.2) _) (fun _ hk=>hk.2) _) (fun _ h_=>h_.1)))) hb);have n3_:=Aside0.mk (Kd.V_below (kdV_ ((Kd.V_mono (Kd.V_far (Kd.V_far (Kd.V_far (Kd.V_far (Kd.V_mono HL904_1.out (fun k_ hk=>(⟨hk,hk.2⟩:_∧k_≠gb907))) (fun _ hk=>hk.2) _) (fun _ hk=>hk.2) _) (fun _ hk=>hk.2) _) (fun _ hk=>hk.2) _) (fun _ h_=>h_.1)))) hb);have n4_:=Aside0.mk (Kd.V_below (kdV_ ((Kd.V_mono (Kd.V_far (Kd.V_far (Kd.V_far (Kd.V_far (Kd.V_mono HL905_0.out (fun k_ hk=>(⟨hk,hk.2⟩:_∧k_≠gb907))) (fun _ hk=>hk.2) _) (fun _ hk=>hk.2) _) (fun _ hk=>hk.2) _) (fun _ hk=>hk.2) _) (fun _ h_=>h_.1)))) hb);have n5_:=Aside0.mk (Kd.V_below (kdV_ ((Kd.V_mono (Kd.V_far (Kd.V_far (Kd.V_far (Kd.V_far (Kd.V_mono HL906_3.out (fun k_ hk=>(⟨hk,hk.2⟩:_∧k_≠gb907))) (fun _ hk=>hk.2) _) (fun _ hk=>hk.2) _) (fun _ hk=>hk.2) _) (fun _ hk=>hk.2) _) (fun _ h_=>h_.1)))) hb);have n6_:=bz_ BK889 hb;have n7_:=Aside0.mk (Kd.C_below ((Kd.V_reads' (kdV_ ((Kd.V_mono (Kd.V_far (Kd.V_far (Kd.V_far (Kd.V_far (Kd.V_mono HL904_1.out (fun k_ hk=>(⟨hk,hk.2⟩:_∧k_≠gb907))) (fun _ hk=>hk.2) _) (fun _ hk=>hk.2) _) (fun _ hk=>hk.2) _) (fun _ hk=>hk.2) _) (fun _ h_=>h_.1))))).2.2) hb);have n8_:=Aside0.mk (Kd.C_below ((Kd.V_reads' (kdV_ ((Kd.V_mono (Kd.V_far (Kd.V_far (Kd.V_far (Kd.V_far (Kd.V_mono HL905_0.out (fun k_ hk=>(⟨hk,hk.2⟩:_∧k_≠gb907))) (fun _ hk=>hk.2) _) (fun _ hk=>hk.2) _) (fun _ hk=>hk.2) _) (fun _ hk=>hk.2) _) (fun _ h_=>h_.1))))).2.2) hb);have n9_:=Aside0.mk (Kd.C_below ((Kd.V_reads' (kdV_ ((Kd.V_mono (Kd.V_far (Kd.V_far (Kd.V_far (Kd.V_far (Kd.V_mono HL906_3.out (fun k_ hk=>(⟨hk,hk.2⟩:_∧k_≠gb907))) (fun _ hk=>hk.2) _) (fun _ hk=>hk.2) _) (fun _ hk=>hk.2) _) (fun _ hk=>hk.2) _) (fun _ h_=>h_.1))))).2.2) hb);have n10_:=Aside0.mk (blk_below (g:=gb907) (o:= .cells #[.int .u8 ((rd_T53 (rd_L7 ((rd_T41 t900 0).f1) 0) 0).f0),.int .i64 ((rd_T53 (rd_L7 ((rd_T41 t900 0).f1) 0) 0).f1),.bool ((rd_T53 (rd_L7 ((rd_T41 t900 0).f1) 0) 0).f2),.slice A906_3 ((rd_T53 (rd_L7 ((rd_T41 t900 0).f1) 0) 0).f3).length c906_3] 53 (0,0)) ((bp_ BK907).out) hb);have n11_:=Aside0.mk (below_step (bl_ HB).out hb);clear HO_890004;clear HO899;clear HO902;clear HL904_1;clear HL905_0;clear HL906_3;clear BK889;clear HR904_1;clear HR905_0;clear HR906_3;clear BK907;clear HB;have HO_890004:=n0_;have HO899:=n1_;have HO902:=n2_;have HL904_1:=n3_;have HL905_0:=n4_;have HL906_3:=n5_;have BK889:=n6_;have HR904_1:=n7_;have HR905_0:=n8_;have HR906_3:=n9_;have BK907:=n10_;have HB:=n11_;clear n0_ n1_ n2_ n3_ n4_ n5_ n6_ n7_ n8_ n9_ n10_ n11_;(try clear hb);(try clear hi))|((with_reducible refine gate_dst (N:=12) rfl ?_);(try (refine gate_guard (by rfl) ?_;dsimp only));refine be_ 12 #[.bool false,.string (⟨#[]⟩:ByteArray),.string (⟨#[]⟩:ByteArray)] 30 ?_;intro gb911 hg w58 hbox hb;have BK911:=Aside0.mk (hbox);have GW911:=sz_ HB hg;have GE911:=sz_ HB hg;have NB889_911:=na_ BK889 hg;have NB911_889:=nb_ BK889 hg;have NB907_911:=na_ BK907 hg;have NB911_907:=nb_ BK907 hg;replace HO_890004:=Aside0.mk (Kd.V_below (Kd.V_elderB (krV_ HO_890004) gb911 (Nat.le_of_eq hg.symm)) hb);replace HO899:=Aside0.mk (Kd.N_below (Kd.N_elderB (krN_ HO899) gb911 (Nat.le_of_eq hg.symm)) hb);replace HO902:=Aside0.mk (Kd.N_below (Kd.N_elderB (krN_ HO902) gb911 (Nat.le_of_eq hg.symm)) hb);replace HL904_1:=Aside0.mk (Kd.V_below (Kd.V_elderB (krV_ HL904_1) gb911 (Nat.le_of_eq hg.symm)) hb);replace HL905_0:=Aside0.mk (Kd.V_below (Kd.V_elderB (krV_ HL905_0) gb911 (Nat.le_of_eq hg.symm)) hb);replace HL906_3:=Aside0.mk (Kd.V_below (Kd.V_elderB (krV_ HL906_3) gb911 (Nat.le_of_eq hg.symm)) hb);replace BK889:=bb_ BK889 hb;replace HR904_1:=Aside0.mk (Kd.C_below (by repeat(first|(with_reducible exact HR904_1.out)|(with_reducible refine Kd.C_alloc ?_ _)|(with_reducible refine Kd.C_drewN ?_ _)|(with_reducible refine Kd.C_drew ?_)|exact HR904_1.out)) hb);replace HR905_0:=Aside0.mk (Kd.C_below (by repeat(first|(with_reducible exact HR905_0.out)|(with_reducible refine Kd.C_alloc ?_ _)|(with_reducible refine Kd.C_drewN ?_ _)|(with_reducible refine Kd.C_drew ?_)|exact HR905_0.out)) hb);replace HR906_3:=Aside0.mk (Kd.C_below (by repeat(first|(with_reducible exact HR906_3.out)|(with_reducible refine Kd.C_alloc ?_ _)|(with_reducible refine Kd.C_drewN ?_ _)|(with_reducible refine Kd.C_drew ?_)|exact HR906_3.out)) hb);replace BK907:=bb_ BK907 hb;replace HB:=Aside0.mk (below_step (bl_ HB).out hb);clear hb hbox hg;have hnb59:=NB911_889.out;have hnc59:=NB889_911.out;have hnb60:=NB911_907.out;have hnc60:=NB907_911.out;obtain⟨hcz61_0,hcz61_1,hcz61_2,hfz61_0,hfz61_1,hfz61_2⟩:=bo3_ BK911)|((with_reducible refine gate_callee (f:=10) rfl ?_);refine gl_ (some 54) Tryz.func10 #[.agg #[.bool t908,.string t909,.string t910],.int .i64 0] ?_;(with_reducible refine(operand_Of.calls _ _ _ _ _ _ _ _ _ A37.out).mono ?_);rintro e w62 ⟨rfl,hb⟩;refine⟨_,rfl,?_⟩;have n0_:=Aside0.mk (Kd.V_below (kdV_ ((Kd.V_mono (Kd.V_far (Kd.V_far (Kd.V_far (Kd.V_mono HO_890004.out (fun k_ hk=>(⟨hk,hk.2⟩:_∧k_≠gb911))) (fun _ hk=>hk.2) _) (fun _ hk=>hk.2) _) (fun _ hk=>hk.2) _) (fun _ h_=>h_.1)))) hb);have n1_:=Aside0.mk (Kd.N_below (kdN_ ((Kd.N_mono (Kd.N_far (Kd.N_far (Kd.N_far (Kd.N_mono HO899.out (fun k_ hk=>(⟨hk,hk.2⟩:_∧k_≠gb911))) (fun _ hk=>hk.2) _) (fun _ hk=>hk.2) _) (fun _ hk=>hk.2) _) (fun _ h_=>h_.1)))) hb);have n2_:=Aside0.mk (Kd.N_below (kdN_ ((Kd.N_mono (Kd.N_far (Kd.N_far (Kd.N_far (Kd.N_mono HO902.out (fun k_ hk=>(⟨hk,hk.2⟩:_∧k_≠gb911))) (fun _ hk=>hk.2) _) (fun _ hk=>hk.2) _) (fun _ hk=>hk.2) _) (fun _ h_=>h_.1)))) hb);have n3_:=Aside0.mk (Kd.V_below (kdV_ ((Kd.V_mono (Kd.V_far (Kd.V_far (Kd.V_far (Kd.V_mono HL904_1.out (fun k_ hk=>(⟨hk,hk.2⟩:_∧k_≠gb911))) (fun _ hk=>hk.2) _) (fun _ hk=>hk.2) _) (fun _ hk=>hk.2) _) (fun _ h_=>h_.1)))) hb);have n4_:=Aside0.mk (Kd.V_below (kdV_ ((Kd.V_mono (Kd.V_far (Kd.V_far (Kd.V_far (Kd.V_mono HL905_0.out (fun k_ hk=>(⟨hk,hk.2⟩:_∧k_≠gb911))) (fun _ hk=>hk.2) _) (fun _ hk=>hk.2) _) (fun _ hk=>hk.2) _) (fun _ h_=>h_.1)))) hb);have n5_:=Aside0.mk (Kd.V_below (kdV_ ((Kd.V_mono (Kd.V_far (Kd.V_far (Kd.V_far (Kd.V_mono HL906_3.out (fun k_ hk=>(⟨hk,hk.2⟩:_∧k_≠gb911))) (fun _ hk=>hk.2) _) (fun _ hk=>hk.2) _) (fun _ hk=>hk.2) _) (fun _ h_=>h_.1)))) hb);have n6_:=bz_ BK889 hb;have n7_:=Aside0.mk (Kd.C_below ((Kd.V_reads' (kdV_ ((Kd.V_mono (Kd.V_far (Kd.V_far (Kd.V_far (Kd.V_mono HL904_1.out (fun k_ hk=>(⟨hk,hk.2⟩:_∧k_≠gb911))) (fun _ hk=>hk.2) _) (fun _ hk=>hk.2) _) (fun _ hk=>hk.2) _) (fun _ h_=>h_.1))))).2.2) hb);have n8_:=Aside0.mk (Kd.C_below ((Kd.V_reads' (kdV_ ((Kd.V_mono (Kd.V_far (Kd.V_far (Kd.V_far (Kd.V_mono HL905_0.out (fun k_ hk=>(⟨hk,hk.2⟩:_∧k_≠gb911))) (fun _ hk=>hk.2) _) (fun _ hk=>hk.2) _) (fun _ hk=>hk.2) _) (fun _ h_=>h_.1))))).2.2) hb);have n9_:=Aside0.mk (Kd.C_below ((Kd.V_reads' (kdV_ ((Kd.V_mono (Kd.V_far (Kd.V_far (Kd.V_far (Kd.V_mono HL906_3.out (fun k_ hk=>(⟨hk,hk.2⟩:_∧k_≠gb911))) (fun _ hk=>hk.2) _) (fun _ hk=>hk.2) _) (fun _ hk=>hk.2) _) (fun _ h_=>h_.1))))).2.2) hb);have n10_:=bz_ BK907 hb;have n11_:=Aside0.mk (blk_below (g:=gb911) (o:= .cells #[.bool t908,.string t909,.string t910] 30 (0,0)) ((bp_ BK911).out) hb);have n12_:=Aside0.mk (below_step (bl_ HB).out hb);clear HO_890004;clear HO899;clear HO902;clear HL904_1;clear HL905_0;clear HL906_3;clear BK889;clear HR904_1;clear HR905_0;clear HR906_3;clear BK907;clear BK911;clear HB;have HO_890004:=n0_;have HO899:=n1_;have HO902:=n2_;have HL904_1:=n3_;have HL905_0:=n4_;have HL906_3:=n5_;have BK889:=n6_;have HR904_1:=n7_;have HR905_0:=n8_;have HR906_3:=n9_;have BK907:=n10_;have BK911:=n11_;have HB:=n12_;clear n0_ n1_ n2_ n3_ n4_ n5_ n6_ n7_ n8_ n9_ n10_ n11_ n12_;(try clear hb);(try clear hi))|((with_reducible refine gate_dst (N:=13) rfl ?_);(try (refine gate_guard (by rfl) ?_;dsimp only));refine be_ 13 #[.string (⟨#[]⟩:ByteArray),.string (⟨#[]⟩:ByteArray),.int .i64 0] 27 ?_;intro gb915 hg w63 hbox hb;have BK915:=Aside0.mk (hbox);have GW915:=sz_ HB hg;have GE915:=sz_ HB hg;have NB889_915:=na_ BK889 hg;have NB915_889:=nb_ BK889 hg;have NB907_915:=na_ BK907 hg;have NB915_907:=nb_ BK907 hg;have NB911_915:=na_ BK911 hg;have NB915_911:=nb_ BK911 hg;replace HO_890004:=Aside0.mk (Kd.V_below (Kd.V_elderB (krV_ HO_890004) gb915 (Nat.le_of_eq hg.symm)) hb);replace HO899:=Aside0.mk (Kd.N_below (Kd.N_elderB (krN_ HO899) gb915 (Nat.le_of_eq hg.symm)) hb);replace HO902:=Aside0.mk (Kd.N_below (Kd.N_elderB (krN_ HO902) gb915 (Nat.le_of_eq hg.symm)) hb);replace HL904_1:=Aside0.mk (Kd.V_below (Kd.V_elderB (krV_ HL904_1) gb915 (Nat.le_of_eq hg.symm)) hb);replace HL905_0:=Aside0.mk (Kd.V_below (Kd.V_elderB (krV_ HL905_0) gb915 (Nat.le_of_eq hg.symm)) hb);replace HL906_3:=Aside0.mk (Kd.V_below (Kd.V_elderB (krV_ HL906_3) gb915 (Nat.le_of_eq hg.symm)) hb);replace BK889:=bb_ BK889 hb;replace HR904_1:=Aside0.mk (Kd.C_below (by repeat(first|(with_reducible exact HR904_1.out)|(with_reducible refine Kd.C_alloc ?_ _)|(with_reducible refine Kd.C_drewN ?_ _)|(with_reducible refine Kd.C_drew ?_)|exact HR904_1.out)) hb);replace HR905_0:=Aside0.mk (Kd.C_below (by repeat(first|(with_reducible exact HR905_0.out)|(with_reducible refine Kd.C_alloc ?_ _)|(with_reducible refine Kd.C_drewN ?_ _)|(with_reducible refine Kd.C_drew ?_)|exact HR905_0.out)) hb);replace HR906_3:=Aside0.mk (Kd.C_below (by repeat(first|(with_reducible exact HR906_3.out)|(with_reducible refine Kd.C_alloc ?_ _)|(with_reducible refine Kd.C_drewN ?_ _)|(with_reducible refine Kd.C_drew ?_)|exact HR906_3.out)) hb);replace BK907:=bb_ BK907 hb;replace BK911:=bb_ BK911 hb;replace HB:=Aside0.mk (below_step (bl_ HB).out hb);clear hb hbox hg;have hnb64:=NB915_889.out;have hnc64:=NB889_915.out;have hnb65:=NB915_907.out;have hnc65:=NB907_915.out;have hnb66:=NB915_911.out;have hnc66:=NB911_915.out;obtain⟨hcz67_0,hcz67_1,hcz67_2,hfz67_0,hfz67_1,hfz67_2⟩:=bo3_ BK915))
      obtain⟨w68,hWz1⟩:∃W_,W_=(((w63.setCell ⟨gb915,0,none⟩ (.string t912)).setCell ⟨gb915,1,none⟩ (.string t913)).setCell ⟨gb915,2,none⟩ (.int .i64 t914)):=⟨_,rfl⟩
      have n0_:Aside0 (Kd.V k139 139 w68 w.heap.size (fun k_=>(P0_4_ k_∨w.heap.size≤k_)∧some k_≠(.slice Ao51 y897.length co51:Value).ownBlock∧some k_≠(.slice (some ad904) t900.length co53:Value).ownBlock∧k_≠gb889∧k_≠gb907∧k_≠gb911∧k_≠gb915) (.slice A0_4 l0_4.length c0_4) l0_4):=by rw[hWz1];exact⟨kdV_ (Kd.V_mono (Kd.V_far (Kd.V_far (Kd.V_far (Kd.V_mono HO_890004.out (fun k_ hk=>(⟨hk,hk.2⟩:_∧k_≠gb915))) (fun _ hk=>hk.2) _) (fun _ hk=>hk.2) _) (fun _ hk=>hk.2) _) (fun _ hk=>⟨hk.1.1.1.1.1.1.1.1.1,⟨hk.1.1.1.1.1.2,⟨hk.1.1.1.1.2,⟨hk.1.1.1.1.1.1.1.1.2,⟨hk.1.1.1.2,⟨hk.1.1.2,hk.1.2⟩⟩⟩⟩⟩⟩))⟩
      have n1_:Aside0 (Kd.N k50 50 w68 w.heap.size (fun k_=>(P0_4_ k_∨w.heap.size≤k_)∧some k_≠(.slice (some ad904) t900.length co53:Value).ownBlock∧k_≠gb889∧k_≠gb907∧k_≠gb911∧k_≠gb915) (.slice Ao51 y897.length co51) y897):=by rw[hWz1];exact⟨kdN_ (Kd.N_mono (Kd.N_far (Kd.N_far (Kd.N_far (Kd.N_mono HO899.out (fun k_ hk=>(⟨hk,hk.2⟩:_∧k_≠gb915))) (fun _ hk=>hk.2) _) (fun _ hk=>hk.2) _) (fun _ hk=>hk.2) _) (fun _ hk=>⟨hk.1.1.1.1.1.1,⟨hk.1.1.1.1.2,⟨hk.1.1.1.1.1.2,⟨hk.1.1.1.2,⟨hk.1.1.2,hk.1.2⟩⟩⟩⟩⟩))⟩
      have n2_:Aside0 (Kd.N k41 41 w68 w.heap.size (fun k_=>(P0_4_ k_∨w.heap.size≤k_)∧k_≠gb889∧k_≠gb907∧k_≠gb911∧k_≠gb915) (.slice (some ad904) t900.length co53) t900):=by rw[hWz1];exact⟨kdN_ (Kd.N_mono (Kd.N_far (Kd.N_far (Kd.N_far (Kd.N_mono HO902.out (fun k_ hk=>(⟨hk,hk.2⟩:_∧k_≠gb915))) (fun _ hk=>hk.2) _) (fun _ hk=>hk.2) _) (fun _ hk=>hk.2) _) (fun _ hk=>⟨hk.1.1.1.1.1,⟨hk.1.1.1.1.2,⟨hk.1.1.1.2,⟨hk.1.1.2,hk.1.2⟩⟩⟩⟩))⟩
      have n3_:Aside0 (Kd.V (Kd.slice 53 k53) 54 w68 w.heap.size (fun k_=>(P0_4_ k_∨w.heap.size≤k_)∧some k_≠(.slice (some ad904) t900.length co53:Value).ownBlock∧k_≠gb889∧k_≠gb907∧k_≠gb911∧k_≠gb915) (.slice (some ad905) ((rd_T41 t900 0).f1).length c904_1) ((rd_T41 t900 0).f1)):=by rw[hWz1];exact⟨kdV_ (Kd.V_mono (Kd.V_far (Kd.V_far (Kd.V_far (Kd.V_mono HL904_1.out (fun k_ hk=>(⟨hk,hk.2⟩:_∧k_≠gb915))) (fun _ hk=>hk.2) _) (fun _ hk=>hk.2) _) (fun _ hk=>hk.2) _) (fun _ hk=>⟨hk.1.1.1.1.1.1,⟨hk.1.1.1.1.2,⟨hk.1.1.1.1.1.2,⟨hk.1.1.1.2,⟨hk.1.1.2,hk.1.2⟩⟩⟩⟩⟩))⟩
      have n4_:Aside0 (Kd.V k53 53 w68 w.heap.size (fun k_=>(P0_4_ k_∨w.heap.size≤k_)∧some k_≠(.slice (some ad904) t900.length co53:Value).ownBlock∧k_≠gb889∧k_≠gb907∧k_≠gb911∧k_≠gb915) (.slice (some ad906) (rd_L7 ((rd_T41 t900 0).f1) 0).length c905_0) (rd_L7 ((rd_T41 t900 0).f1) 0)):=by rw[hWz1];exact⟨kdV_ (Kd.V_mono (Kd.V_far (Kd.V_far (Kd.V_far (Kd.V_mono HL905_0.out (fun k_ hk=>(⟨hk,hk.2⟩:_∧k_≠gb915))) (fun _ hk=>hk.2) _) (fun _ hk=>hk.2) _) (fun _ hk=>hk.2) _) (fun _ hk=>⟨hk.1.1.1.1.1.1,⟨hk.1.1.1.1.2,⟨hk.1.1.1.1.1.2,⟨hk.1.1.1.2,⟨hk.1.1.2,hk.1.2⟩⟩⟩⟩⟩))⟩
      have n5_:Aside0 (Kd.V k57 57 w68 w.heap.size (fun k_=>(P0_4_ k_∨w.heap.size≤k_)∧some k_≠(.slice (some ad904) t900.length co53:Value).ownBlock∧k_≠gb889∧k_≠gb907∧k_≠gb911∧k_≠gb915) (.slice A906_3 ((rd_T53 (rd_L7 ((rd_T41 t900 0).f1) 0) 0).f3).length c906_3) ((rd_T53 (rd_L7 ((rd_T41 t900 0).f1) 0) 0).f3)):=by rw[hWz1];exact⟨kdV_ (Kd.V_mono (Kd.V_far (Kd.V_far (Kd.V_far (Kd.V_mono HL906_3.out (fun k_ hk=>(⟨hk,hk.2⟩:_∧k_≠gb915))) (fun _ hk=>hk.2) _) (fun _ hk=>hk.2) _) (fun _ hk=>hk.2) _) (fun _ hk=>⟨hk.1.1.1.1.1.1,⟨hk.1.1.1.1.2,⟨hk.1.1.1.1.1.2,⟨hk.1.1.1.2,⟨hk.1.1.2,hk.1.2⟩⟩⟩⟩⟩))⟩
      have n6_:=wh_ hWz1 (bf_ BK889)
      have n7_:=wh_ hWz1 (bf_ BK907)
      have n8_:=wh_ hWz1 (bf_ BK911)
      have n9_:Aside0 (w68.heap[gb915]? = some (.cells #[.string t912,.string t913,.int .i64 t914] 27 (0,0))):=by rw[hWz1];exact⟨(bp_ BK915).out⟩
      have n10_:=wb_ hWz1 (bl_ HB)
      (try clear HO_890004)
      (try clear HO899)
      (try clear HO902)
      (try clear HL904_1)
      (try clear HL905_0)
      (try clear HL906_3)
      (try clear BK889)
      (try clear BK907)
      (try clear BK911)
      (try clear BK915)
      (try clear HB)
      rw[← hWz1]
      clear hWz1
      have HO_890004:=n0_
      have HO899:=n1_
      have HO902:=n2_
      have HL904_1:=n3_
      have HL905_0:=n4_
      have HL906_3:=n5_
      have BK889:=n6_
      have BK907:=n7_
      have BK911:=n8_
      have BK915:=n9_
      have HB:=n10_
      clear n0_ n1_ n2_ n3_ n4_ n5_ n6_ n7_ n8_ n9_ n10_
      replace HO_890004:=Aside0.mk (Kd.V_drew HO_890004.out)
      replace HO899:=Aside0.mk (Kd.N_drew HO899.out)
      replace HO902:=Aside0.mk (Kd.N_drew HO902.out)
      replace HL904_1:=Aside0.mk (Kd.V_drew HL904_1.out)
      replace HL905_0:=Aside0.mk (Kd.V_drew HL905_0.out)
      replace HL906_3:=Aside0.mk (Kd.V_drew HL906_3.out)
      replace BK889:=Aside0.mk (blk_drew BK889.out)
      replace BK907:=Aside0.mk (blk_drew BK907.out)
      replace BK911:=Aside0.mk (blk_drew BK911.out)
      replace BK915:=Aside0.mk (blk_drew BK915.out)
      replace HB:=Aside0.mk (below_drew1 HB.out)
      refine start_ (n:=11) (S:=fun w'=>w'.cell? ⟨gb911,0,none⟩=some (.bool t908)∧w'.cell? ⟨gb911,1,none⟩=some (.string t909)∧w'.cell? ⟨gb911,2,none⟩=some (.string t910)∧w'.cell? ⟨gb907,0,none⟩=some (.int .u8 ((rd_T53 (rd_L7 ((rd_T41 t900 0).f1) 0) 0).f0))∧w'.cell? ⟨gb907,1,none⟩=some (.int .i64 ((rd_T53 (rd_L7 ((rd_T41 t900 0).f1) 0) 0).f1))∧w'.cell? ⟨gb907,2,none⟩=some (.bool ((rd_T53 (rd_L7 ((rd_T41 t900 0).f1) 0) 0).f2))∧w'.cell? ⟨gb907,3,none⟩=some (.slice A906_3 ((rd_T53 (rd_L7 ((rd_T41 t900 0).f1) 0) 0).f3).length c906_3)) (ds:=[10]) #[false,false,false,false,false,false,false,false,false,false,false] (by kernel_rfl) rfl rfl ⟨bc_ BK911 0,bc_ BK911 1,bc_ BK911 2,bc_ BK907 0,bc_ BK907 1,bc_ BK907 2,bc_ BK907 3⟩ (fun hHeld=>?_);refine with_tabW florinlaw07_EvalPeriods.tab11 florinlaw07_EvalPeriods.bits11 (fun HT_ HW_=>?_)
      generalize w68.drew=w69 at HO_890004 HO899 HO902 HL904_1 HL905_0 HL906_3 BK889 BK907 BK911 BK915 HB hHeld ⊢
      refine pu_ 0 55 (bm_ 11 1) HT_ ?_
      refine pu_ 2 57 (bm_ 11 5) HT_ ?_
      refine pu_ 5 60 (bm_ 11 37) HT_ ?_
      refine pu_ 6 61 (bm_ 11 101) HT_ ?_
      refine tk_ 1 56 (bm_ 11 103) HT_ HW_ hHeld rfl (by rintro w' ⟨s0,s1,s2,s3,s4,s5,s6⟩;go_simp;with_reducible rfl) ?_
      refine tk_ 3 58 (bm_ 11 111) HT_ HW_ hHeld rfl (by rintro w' ⟨s0,s1,s2,s3,s4,s5,s6⟩;go_simp;with_reducible rfl) ?_
      refine one_ (i:=4) (N:=some 59) (bm_ 11 127) rfl rfl (one_of HT_.out (by kernel_rfl)) (by decide) (fun K hK=>?_)
      refine gs_ Tryz.func19 #[.int .i64 ((rd_T53 (rd_L7 ((rd_T41 t900 0).f1) 0) 0).f1)] ?_
      with_reducible refine(num_Of.calls kj6 ((rd_T53 (rd_L7 ((rd_T41 t900 0).f1) 0) 0).f1) t916 _ A38.out).mono ?_
      rintro e w70 ⟨rfl,hb⟩
      refine⟨_,rfl,?_⟩
      replace HO_890004:=Aside0.mk (Kd.V_below (krV_ HO_890004) hb)
      replace HO899:=Aside0.mk (Kd.N_below (krN_ HO899) hb)
      replace HO902:=Aside0.mk (Kd.N_below (krN_ HO902) hb)
      replace HL904_1:=Aside0.mk (Kd.V_below (krV_ HL904_1) hb)
      replace HL905_0:=Aside0.mk (Kd.V_below (krV_ HL905_0) hb)
      replace HL906_3:=Aside0.mk (Kd.V_below (krV_ HL906_3) hb)
      replace BK889:=bb_ BK889 hb
      replace BK907:=bb_ BK907 hb
      replace BK911:=bb_ BK911 hb
      replace BK915:=bb_ BK915 hb
      replace HB:=Aside0.mk (below_step (bl_ HB).out hb)
      (try clear hb)
      (try clear hb2)
      (try clear hk)
      (try clear hi)
      refine hK.out _ _ ⟨bc_ BK911 0,bc_ BK911 1,bc_ BK911 2,bc_ BK907 0,bc_ BK907 1,bc_ BK907 2,bc_ BK907 3⟩ (fun hHeld=>?_)
      clear hK K
      refine nm_ 59 ?_
      refine one_ (i:=7) (N:=some 62) (bm_ 11 255) rfl rfl (one_of HT_.out (by kernel_rfl)) (by decide) (fun K hK=>?_)
      refine gs_ Tryz.func18 #[.string t916,.int .i64 (Go.bits .and .i64 a3 65535)] ?_
      with_reducible refine(num_Times.calls _ _ _ _ _ A39.out).mono ?_
      rintro e w71 ⟨rfl,hb⟩
      refine⟨_,rfl,?_⟩
      replace HO_890004:=Aside0.mk (Kd.V_below (krV_ HO_890004) hb)
      replace HO899:=Aside0.mk (Kd.N_below (krN_ HO899) hb)
      replace HO902:=Aside0.mk (Kd.N_below (krN_ HO902) hb)
      replace HL904_1:=Aside0.mk (Kd.V_below (krV_ HL904_1) hb)
      replace HL905_0:=Aside0.mk (Kd.V_below (krV_ HL905_0) hb)
      replace HL906_3:=Aside0.mk (Kd.V_below (krV_ HL906_3) hb)
      replace BK889:=bb_ BK889 hb
      replace BK907:=bb_ BK907 hb
      replace BK911:=bb_ BK911 hb
      replace BK915:=bb_ BK915 hb
      replace HB:=Aside0.mk (below_step (bl_ HB).out hb)
      (try clear hb)
      (try clear hb2)
      (try clear hk)
      (try clear hi)
      refine hK.out _ _ ⟨bc_ BK911 0,bc_ BK911 1,bc_ BK911 2,bc_ BK907 0,bc_ BK907 1,bc_ BK907 2,bc_ BK907 3⟩ (fun hHeld=>?_)
      clear hK K
      refine nm_ 62 ?_
      refine one_ (i:=8) (N:=some 63) (bm_ 11 511) rfl rfl (one_of HT_.out (by kernel_rfl)) (by decide) (fun K hK=>?_)
      refine gs_ Tryz.func17 #[.string t909,.string t917] ?_
      with_reducible refine(num_Add.calls _ _ _ _ _ A40.out).mono ?_
      rintro e w72 ⟨rfl,hb⟩
      refine⟨_,rfl,?_⟩
      replace HO_890004:=Aside0.mk (Kd.V_below (krV_ HO_890004) hb)
      replace HO899:=Aside0.mk (Kd.N_below (krN_ HO899) hb)
      replace HO902:=Aside0.mk (Kd.N_below (krN_ HO902) hb)
      replace HL904_1:=Aside0.mk (Kd.V_below (krV_ HL904_1) hb)
      replace HL905_0:=Aside0.mk (Kd.V_below (krV_ HL905_0) hb)
      replace HL906_3:=Aside0.mk (Kd.V_below (krV_ HL906_3) hb)
      replace BK889:=bb_ BK889 hb
      replace BK907:=bb_ BK907 hb
      replace BK911:=bb_ BK911 hb
      replace BK915:=bb_ BK915 hb
      replace HB:=Aside0.mk (below_step (bl_ HB).out hb)
      (try clear hb)
      (try clear hb2)
      (try clear hk)
      (try clear hi)
      refine hK.out _ _ ⟨bc_ BK911 0,bc_ BK911 1,bc_ BK911 2,bc_ BK907 0,bc_ BK907 1,bc_ BK907 2,bc_ BK907 3⟩ (fun hHeld=>?_)
      clear hK K
      refine nm_ 63 ?_
      refine pu_ 9 64 (bm_ 11 1023) HT_ ?_
      refine last_ (i:=10) (N:=none) #[true,true,true,true,true,true,true,true,true,true,true] rfl rfl (one_of HT_.out (by kernel_rfl)) (by decide) (fun K hK=>?_)
      have hs73:w72.cell? ⟨gb911,1,none⟩=some (.string t909):=bc_ BK911 1
      have hfs73:=blk_frozen BK911.out 1
      have hns73_0:=NB889_911.out
      have hns73_1:=NB907_911.out
      have hns73_3:=NB915_911.out
      have hms73_0:=NB911_889.out
      have hms73_1:=NB911_907.out
      have hms73_3:=NB911_915.out
      refine skip_ (w1:=?_) (by rfl) rfl ?_ ?_
      rotate_left
      ·go_simp
       rfl
      refine hK.out _ _ ?_
      clear hK K
      refine done_ (done_of HT_.out (by kernel_rfl)) ?_
      go_upto_region 12 with (fail)
      go_cut [72] (fun v72 wc=>∃(kq:Nat) (x72_40:Bool),v72= .bool x72_40∧Aside0 (florinlaw07_EvalPeriods.j1 kq x72_40 ((rd_T53 (rd_L7 ((rd_T41 t900 0).f1) 0) 0).f0) ((rd_T53 (rd_L7 ((rd_T41 t900 0).f1) 0) 0).f1) ((rd_T53 (rd_L7 ((rd_T41 t900 0).f1) 0) 0).f2) ((rd_T53 (rd_L7 ((rd_T41 t900 0).f1) 0) 0).f3) t908 t918 t910 t912 t913 t914=some r)∧Aside0 (kq≤kj6)∧Aside0 (Kd.V k139 139 wc w.heap.size (fun k_=>(P0_4_ k_∨w.heap.size≤k_)∧k_≠gb889∧k_≠gb907∧k_≠gb911∧k_≠gb915) (.slice A0_4 l0_4.length c0_4) l0_4)∧Aside0 (Kd.V k57 57 wc w.heap.size (fun k_=>(P0_4_ k_∨w.heap.size≤k_)∧k_≠gb889∧k_≠gb907∧k_≠gb911∧k_≠gb915) (.slice A906_3 ((rd_T53 (rd_L7 ((rd_T41 t900 0).f1) 0) 0).f3).length c906_3) ((rd_T53 (rd_L7 ((rd_T41 t900 0).f1) 0) 0).f3))∧Aside0 (wc.heap[gb889]? = some (.cells #[.int .i64 a0_0,.int .i64 a0_1,.int .i64 a0_2,.bool a0_3,(.slice A0_4 l0_4.length c0_4)] 46 (0,0)))∧Aside0 (wc.heap[gb907]? = some (.cells #[.int .u8 ((rd_T53 (rd_L7 ((rd_T41 t900 0).f1) 0) 0).f0),.int .i64 ((rd_T53 (rd_L7 ((rd_T41 t900 0).f1) 0) 0).f1),.bool ((rd_T53 (rd_L7 ((rd_T41 t900 0).f1) 0) 0).f2),(.slice A906_3 ((rd_T53 (rd_L7 ((rd_T41 t900 0).f1) 0) 0).f3).length c906_3)] 53 (0,0)))∧Aside0 (wc.heap[gb911]? = some (.cells #[.bool t908,.string t918,.string t910] 30 (0,0)))∧Aside0 (wc.heap[gb915]? = some (.cells #[.string t912,.string t913,.int .i64 t914] 27 (0,0)))∧Aside0 (Below w.heap.size w wc))
      case first =>
       have H:=HC41.out
       clear HC41
       by_cases c74:t918.toList=([]:List UInt8)
       ·rw[if_pos c74] at H
        have c74b0:(t918.toList==([]:List UInt8))=true:=beq_iff_eq.mpr c74
        have c74b1:(t918.toList !=([]:List UInt8))=false:=bne_eq_false_iff_eq.mpr c74
        have c74b2:(t918.toList.isEmpty)=true:=by rw[c74];rfl
        clear c74
        (first|rw[c74b0]|(simp only[i64_w,i32_w];rw[c74b0])|rw[c74b2]|skip)
        have H':=Aside0.mk H
        clear H
        have hnb75:=NB911_889.out
        have hnc75:=NB889_911.out
        have hnb76:=NB911_907.out
        have hnc76:=NB907_911.out
        have hnb77:=NB911_915.out
        have hnc77:=NB915_911.out
        obtain⟨hcz78_0,hcz78_1,hcz78_2,hfz78_0,hfz78_1,hfz78_2⟩:=bo3_ BK911
        go_wp2
        go_meet
        case rel=>exact⟨_,((t910.toList==([]:List UInt8))),eq_,H',⟨by have:=HJ6.out;first|omega|exact Nat.le_refl _⟩,⟨kdV_ (Kd.V_mono (Kd.V_far (Kd.V_mono HO_890004.out (fun k_ hk=>(⟨hk,hk.2.2.2.2.2.1⟩:_∧k_≠gb911))) (fun _ hk=>hk.2) _) (fun _ hk=>⟨hk.1.1,⟨hk.1.2.2.2.1,⟨hk.1.2.2.2.2.1,⟨hk.1.2.2.2.2.2.1,hk.1.2.2.2.2.2.2⟩⟩⟩⟩))⟩,⟨kdV_ (Kd.V_mono (Kd.V_far (Kd.V_mono HL906_3.out (fun k_ hk=>(⟨hk,hk.2.2.2.2.1⟩:_∧k_≠gb911))) (fun _ hk=>hk.2) _) (fun _ hk=>⟨hk.1.1,⟨hk.1.2.2.1,⟨hk.1.2.2.2.1,⟨hk.1.2.2.2.2.1,hk.1.2.2.2.2.2⟩⟩⟩⟩))⟩,⟨(bf_ BK889).out⟩,⟨(bf_ BK907).out⟩,⟨(bp_ BK911).out⟩,⟨(bf_ BK915).out⟩,(bl_ HB)⟩
       ·rw[if_neg c74] at H
        have c74b0:(t918.toList==([]:List UInt8))=false:=beq_eq_false_iff_ne.mpr c74
        have c74b1:(t918.toList !=([]:List UInt8))=true:=bne_iff_ne.mpr c74
        have c74b2:(t918.toList.isEmpty)=false:=by rw[given_isEmpty,bne_iff_ne.mpr c74];rfl
        (first|rw[c74b0]|(simp only[i64_w,i32_w];rw[c74b0])|rw[c74b2]|skip)
        have H':=Aside0.mk H
        clear H
        have hnb79:=NB911_889.out
        have hnc79:=NB889_911.out
        have hnb80:=NB911_907.out
        have hnc80:=NB907_911.out
        have hnb81:=NB911_915.out
        have hnc81:=NB915_911.out
        obtain⟨hcz82_0,hcz82_1,hcz82_2,hfz82_0,hfz82_1,hfz82_2⟩:=bo3_ BK911
        go_wp2
        go_meet
        case rel=>exact⟨_,(false),eq_,H',⟨by have:=HJ6.out;first|omega|exact Nat.le_refl _⟩,⟨kdV_ (Kd.V_mono (Kd.V_far (Kd.V_mono HO_890004.out (fun k_ hk=>(⟨hk,hk.2.2.2.2.2.1⟩:_∧k_≠gb911))) (fun _ hk=>hk.2) _) (fun _ hk=>⟨hk.1.1,⟨hk.1.2.2.2.1,⟨hk.1.2.2.2.2.1,⟨hk.1.2.2.2.2.2.1,hk.1.2.2.2.2.2.2⟩⟩⟩⟩))⟩,⟨kdV_ (Kd.V_mono (Kd.V_far (Kd.V_mono HL906_3.out (fun k_ hk=>(⟨hk,hk.2.2.2.2.1⟩:_∧k_≠gb911))) (fun _ hk=>hk.2) _) (fun _ hk=>⟨hk.1.1,⟨hk.1.2.2.1,⟨hk.1.2.2.2.1,⟨hk.1.2.2.2.2.1,hk.1.2.2.2.2.2⟩⟩⟩⟩))⟩,⟨(bf_ BK889).out⟩,⟨(bf_ BK907).out⟩,⟨(bp_ BK911).out⟩,⟨(bf_ BK915).out⟩,(bl_ HB)⟩
      case rest =>
       clear HC41
       obtain⟨kq,x72_40,rfl,HA,HJ40,HO_890004,HO_908003,BK889,BK907,BK911,BK915,HB⟩:=hcut
       cases kq with
       | zero=>exact absurd HA.out (by simp[florinlaw07_EvalPeriods.j1])
       | succ kj40 =>
        have H:=HA.out
        clear HA
        simp only[florinlaw07_EvalPeriods.j1] at H
        by_cases c83:x72_40=true
        ·subst c83
         have H1:((operand_Of.f kj40 t908 (⟨#[48]⟩:ByteArray) t910 0).bind fun bt919=>((eval_Holds.f kj40 ((rd_T53 (rd_L7 ((rd_T41 t900 0).f1) 0) 0).f0) ((rd_T53 (rd_L7 ((rd_T41 t900 0).f1) 0) 0).f1) ((rd_T53 (rd_L7 ((rd_T41 t900 0).f1) 0) 0).f2) ((rd_T53 (rd_L7 ((rd_T41 t900 0).f1) 0) 0).f3) bt919.1 bt919.2.1 bt919.2.2).bind fun t922=>((eval_Holds.f kj40 ((rd_T53 (rd_L7 ((rd_T41 t900 0).f1) 0) 0).f0) ((rd_T53 (rd_L7 ((rd_T41 t900 0).f1) 0) 0).f1) ((rd_T53 (rd_L7 ((rd_T41 t900 0).f1) 0) 0).f2) ((rd_T53 (rd_L7 ((rd_T41 t900 0).f1) 0) 0).f3) t912 t913 t914).bind fun t923=>(some (t922==t923)))))=some r:=by rw[if_pos rfl] at H;exact H
         clear H
         have H:=H1
         clear H1
         replace H:=Option.bind_eq_some_iff.mp H
         obtain⟨⟨t919,t920,t921⟩,A840,H⟩:=H
         dsimp only at H
         have A84:=Aside0.mk A840
         clear A840
         replace H:=Option.bind_eq_some_iff.mp H
         obtain⟨t922,A850,H⟩:=H
         have A85:=Aside0.mk A850
         clear A850
         replace H:=Option.bind_eq_some_iff.mp H
         obtain⟨t923,A860,H⟩:=H
         have A86:=Aside0.mk A860
         clear A860
         obtain rfl:=Option.some.inj H
         have hnb87:=NB911_889.out
         have hnc87:=NB889_911.out
         have hnb88:=NB911_907.out
         have hnc88:=NB907_911.out
         have hnb89:=NB911_915.out
         have hnc89:=NB915_911.out
         obtain⟨hcz90_0,hcz90_1,hcz90_2,hfz90_0,hfz90_1,hfz90_2⟩:=bo3_ BK911
         try go_wp2
         obtain⟨w91,hWz2⟩:∃W_,W_=(wc.setCell ⟨gb911,1,none⟩ (.string (⟨#[48]⟩:ByteArray))):=⟨_,rfl⟩
         have n0_:Aside0 (Kd.V k139 139 w91 w.heap.size (fun k_=>(P0_4_ k_∨w.heap.size≤k_)∧k_≠gb889∧k_≠gb907∧k_≠gb911∧k_≠gb915) (.slice A0_4 l0_4.length c0_4) l0_4):=by rw[hWz2];exact⟨kdV_ (Kd.V_mono (Kd.V_far (Kd.V_mono HO_890004.out (fun k_ hk=>(⟨hk,hk.2.2.2.1⟩:_∧k_≠gb911))) (fun _ hk=>hk.2) _) (fun _ hk=>⟨hk.1.1,⟨hk.1.2.1,⟨hk.1.2.2.1,⟨hk.1.2.2.2.1,hk.1.2.2.2.2⟩⟩⟩⟩))⟩
         have n1_:Aside0 (Kd.V k57 57 w91 w.heap.size (fun k_=>(P0_4_ k_∨w.heap.size≤k_)∧k_≠gb889∧k_≠gb907∧k_≠gb911∧k_≠gb915) (.slice A906_3 ((rd_T53 (rd_L7 ((rd_T41 t900 0).f1) 0) 0).f3).length c906_3) ((rd_T53 (rd_L7 ((rd_T41 t900 0).f1) 0) 0).f3)):=by rw[hWz2];exact⟨kdV_ (Kd.V_mono (Kd.V_far (Kd.V_mono HO_908003.out (fun k_ hk=>(⟨hk,hk.2.2.2.1⟩:_∧k_≠gb911))) (fun _ hk=>hk.2) _) (fun _ hk=>⟨hk.1.1,⟨hk.1.2.1,⟨hk.1.2.2.1,⟨hk.1.2.2.2.1,hk.1.2.2.2.2⟩⟩⟩⟩))⟩
         have n2_:=wh_ hWz2 (bf_ BK889)
         have n3_:=wh_ hWz2 (bf_ BK907)
         have n4_:Aside0 (w91.heap[gb911]? = some (.cells #[.bool t908,.string (⟨#[48]⟩:ByteArray),.string t910] 30 (0,0))):=by rw[hWz2];exact⟨(bp_ BK911).out⟩
         have n5_:=wh_ hWz2 (bf_ BK915)
         have n6_:=wb_ hWz2 (bl_ HB)
         (try clear HO_890004)
         (try clear HO_908003)
         (try clear BK889)
         (try clear BK907)
         (try clear BK911)
         (try clear BK915)
         (try clear HB)
         rw[← hWz2]
         clear hWz2
         have HO_890004:=n0_
         have HO_908003:=n1_
         have BK889:=n2_
         have BK907:=n3_
         have BK911:=n4_
         have BK915:=n5_
         have HB:=n6_
         clear n0_ n1_ n2_ n3_ n4_ n5_ n6_
         replace HO_890004:=Aside0.mk (Kd.V_drew HO_890004.out)
         replace HO_908003:=Aside0.mk (Kd.V_drew HO_908003.out)
         replace BK889:=Aside0.mk (blk_drew BK889.out)
         replace BK907:=Aside0.mk (blk_drew BK907.out)
         replace BK911:=Aside0.mk (blk_drew BK911.out)
         replace BK915:=Aside0.mk (blk_drew BK915.out)
         replace HB:=Aside0.mk (below_drew1 HB.out)
         refine start_ (n:=9) (S:=fun w'=>w'.cell? ⟨gb907,0,none⟩=some (.int .u8 ((rd_T53 (rd_L7 ((rd_T41 t900 0).f1) 0) 0).f0))∧w'.cell? ⟨gb907,1,none⟩=some (.int .i64 ((rd_T53 (rd_L7 ((rd_T41 t900 0).f1) 0) 0).f1))∧w'.cell? ⟨gb907,2,none⟩=some (.bool ((rd_T53 (rd_L7 ((rd_T41 t900 0).f1) 0) 0).f2))∧w'.cell? ⟨gb907,3,none⟩=some (.slice A906_3 ((rd_T53 (rd_L7 ((rd_T41 t900 0).f1) 0) 0).f3).length c906_3)∧w'.cell? ⟨gb911,0,none⟩=some (.bool t908)∧w'.cell? ⟨gb911,1,none⟩=some (.string (⟨#[48]⟩:ByteArray))∧w'.cell? ⟨gb911,2,none⟩=some (.string t910)∧w'.cell? ⟨gb915,0,none⟩=some (.string t912)∧w'.cell? ⟨gb915,1,none⟩=some (.string t913)∧w'.cell? ⟨gb915,2,none⟩=some (.int .i64 t914)) (ds:=[]) #[false,false,false,false,false,false,false,false,false] (by kernel_rfl) rfl rfl ⟨bc_ BK907 0,bc_ BK907 1,bc_ BK907 2,bc_ BK907 3,bc_ BK911 0,bc_ BK911 1,bc_ BK911 2,bc_ BK915 0,bc_ BK915 1,bc_ BK915 2⟩ (fun hHeld=>?_);refine with_tabW florinlaw07_EvalPeriods.tab14 florinlaw07_EvalPeriods.bits14 (fun HT_ HW_=>?_)
         generalize w91.drew=w92 at HO_890004 HO_908003 BK889 BK907 BK911 BK915 HB hHeld ⊢
         refine tk_ 0 74 #[true,false,false,false,false,false,false,false,false] HT_ HW_ hHeld rfl (by rintro w' ⟨s0,s1,s2,s3,s4,s5,s6,s7,s8,s9⟩;go_simp;with_reducible rfl) ?_
         refine tk_ 1 75 #[true,true,false,false,false,false,false,false,false] HT_ HW_ hHeld rfl (by rintro w' ⟨s0,s1,s2,s3,s4,s5,s6,s7,s8,s9⟩;go_simp;with_reducible rfl) ?_
         refine tk_ 4 78 #[true,true,false,false,true,false,false,false,false] HT_ HW_ hHeld rfl (by rintro w' ⟨s0,s1,s2,s3,s4,s5,s6,s7,s8,s9⟩;go_simp;with_reducible rfl) ?_
         refine tk_ 5 79 #[true,true,false,false,true,true,false,false,false] HT_ HW_ hHeld rfl (by rintro w' ⟨s0,s1,s2,s3,s4,s5,s6,s7,s8,s9⟩;go_simp;with_reducible rfl) ?_
         refine one_ (i:=2) (N:=some 76) #[true,true,true,false,true,true,false,false,false] rfl rfl (one_of HT_.out (by kernel_rfl)) (by decide) (fun K hK=>?_)
         refine gs_ Tryz.func10 #[.agg #[.bool t908,.string (⟨#[48]⟩:ByteArray),.string t910],.int .i64 0] ?_
         with_reducible refine(operand_Of.calls _ _ _ _ _ _ _ _ _ A84.out).mono ?_
         rintro e w93 ⟨rfl,hb⟩
         refine⟨_,rfl,?_⟩
         replace HO_890004:=Aside0.mk (Kd.V_below (krV_ HO_890004) hb)
         replace HO_908003:=Aside0.mk (Kd.V_below (krV_ HO_908003) hb)
         replace BK889:=bb_ BK889 hb
         replace BK907:=bb_ BK907 hb
         replace BK911:=bb_ BK911 hb
         replace BK915:=bb_ BK915 hb
         replace HB:=Aside0.mk (below_step (bl_ HB).out hb)
         (try clear hb)
         (try clear hb2)
         (try clear hk)
         (try clear hi)
         refine hK.out _ _ ⟨bc_ BK907 0,bc_ BK907 1,bc_ BK907 2,bc_ BK907 3,bc_ BK911 0,bc_ BK911 1,bc_ BK911 2,bc_ BK915 0,bc_ BK915 1,bc_ BK915 2⟩ (fun hHeld=>?_)
         clear hK K
         refine nm_ 76 ?_
         refine one_ (i:=3) (N:=some 77) #[true,true,true,true,true,true,false,false,false] rfl rfl (one_of HT_.out (by kernel_rfl)) (by decide) (fun K hK=>?_)
         refine gs_ Tryz.func15 #[.agg #[.int .u8 ((rd_T53 (rd_L7 ((rd_T41 t900 0).f1) 0) 0).f0),.int .i64 ((rd_T53 (rd_L7 ((rd_T41 t900 0).f1) 0) 0).f1),.bool ((rd_T53 (rd_L7 ((rd_T41 t900 0).f1) 0) 0).f2),.slice A906_3 ((rd_T53 (rd_L7 ((rd_T41 t900 0).f1) 0) 0).f3).length c906_3],.agg #[.string t919,.string t920,.int .i64 t921]] ?_
         with_reducible refine(eval_Holds.calls kj40 ((rd_T53 (rd_L7 ((rd_T41 t900 0).f1) 0) 0).f0) ((rd_T53 (rd_L7 ((rd_T41 t900 0).f1) 0) 0).f1) ((rd_T53 (rd_L7 ((rd_T41 t900 0).f1) 0) 0).f2) _ _ ((rd_T53 (rd_L7 ((rd_T41 t900 0).f1) 0) 0).f3) t919 t920 t921 t922 _ ?side1 ?side2 A85.out).mono ?_
         (case side1=>repeat(first|exact(Kd.V_reads' HO_908003.out).2.2|(with_reducible refine Kd.C_alloc ?_ _)|(with_reducible refine Kd.C_drewN ?_ _)|(with_reducible refine Kd.C_drew ?_)))
         (case side2=>exact(Kd.V_reads' HO_908003.out).2.1)
         rintro e w94 ⟨rfl,hb⟩
         refine⟨_,rfl,?_⟩
         replace HO_890004:=Aside0.mk (Kd.V_below (krV_ HO_890004) hb)
         replace HO_908003:=Aside0.mk (Kd.V_below (krV_ HO_908003) hb)
         replace BK889:=bb_ BK889 hb
         replace BK907:=bb_ BK907 hb
         replace BK911:=bb_ BK911 hb
         replace BK915:=bb_ BK915 hb
         replace HB:=Aside0.mk (below_step (bl_ HB).out hb)
         (try clear hb)
         (try clear hb2)
         (try clear hk)
         (try clear hi)
         refine hK.out _ _ ⟨bc_ BK907 0,bc_ BK907 1,bc_ BK907 2,bc_ BK907 3,bc_ BK911 0,bc_ BK911 1,bc_ BK911 2,bc_ BK915 0,bc_ BK915 1,bc_ BK915 2⟩ (fun hHeld=>?_)
         clear hK K
         refine nm_ 77 ?_
         refine one_ (i:=6) (N:=some 80) #[true,true,true,true,true,true,true,false,false] rfl rfl (one_of HT_.out (by kernel_rfl)) (by decide) (fun K hK=>?_)
         refine gs_ Tryz.func15 #[.agg #[.int .u8 ((rd_T53 (rd_L7 ((rd_T41 t900 0).f1) 0) 0).f0),.int .i64 ((rd_T53 (rd_L7 ((rd_T41 t900 0).f1) 0) 0).f1),.bool ((rd_T53 (rd_L7 ((rd_T41 t900 0).f1) 0) 0).f2),.slice A906_3 ((rd_T53 (rd_L7 ((rd_T41 t900 0).f1) 0) 0).f3).length c906_3],.agg #[.string t912,.string t913,.int .i64 t914]] ?_
         with_reducible refine(eval_Holds.calls kj40 ((rd_T53 (rd_L7 ((rd_T41 t900 0).f1) 0) 0).f0) ((rd_T53 (rd_L7 ((rd_T41 t900 0).f1) 0) 0).f1) ((rd_T53 (rd_L7 ((rd_T41 t900 0).f1) 0) 0).f2) _ _ ((rd_T53 (rd_L7 ((rd_T41 t900 0).f1) 0) 0).f3) t912 t913 t914 t923 _ ?side1 ?side2 A86.out).mono ?_
         (case side1=>repeat(first|exact(Kd.V_reads' HO_908003.out).2.2|(with_reducible refine Kd.C_alloc ?_ _)|(with_reducible refine Kd.C_drewN ?_ _)|(with_reducible refine Kd.C_drew ?_)))
         (case side2=>exact(Kd.V_reads' HO_908003.out).2.1)
         rintro e w95 ⟨rfl,hb⟩
         refine⟨_,rfl,?_⟩
         replace HO_890004:=Aside0.mk (Kd.V_below (krV_ HO_890004) hb)
         replace HO_908003:=Aside0.mk (Kd.V_below (krV_ HO_908003) hb)
         replace BK889:=bb_ BK889 hb
         replace BK907:=bb_ BK907 hb
         replace BK911:=bb_ BK911 hb
         replace BK915:=bb_ BK915 hb
         replace HB:=Aside0.mk (below_step (bl_ HB).out hb)
         (try clear hb)
         (try clear hb2)
         (try clear hk)
         (try clear hi)
         refine hK.out _ _ ⟨bc_ BK907 0,bc_ BK907 1,bc_ BK907 2,bc_ BK907 3,bc_ BK911 0,bc_ BK911 1,bc_ BK911 2,bc_ BK915 0,bc_ BK915 1,bc_ BK915 2⟩ (fun hHeld=>?_)
         clear hK K
         refine nm_ 80 ?_
         refine pu_ 7 81 #[true,true,true,true,true,true,true,true,false] HT_ ?_
         refine pu_ 8 8 #[true,true,true,true,true,true,true,true,true] HT_ ?_
         refine done_ (done_of HT_.out (by kernel_rfl)) ?_
         try go_wp2
         go_ret
         exact⟨ew_,(bl_ HB).out⟩
        ·replace c83:=Bool.eq_false_iff.mpr c83
         subst c83
         have H1:((operand_Of.f kj40 t908 t918 t910 0).bind fun bt924=>((eval_Holds.f kj40 ((rd_T53 (rd_L7 ((rd_T41 t900 0).f1) 0) 0).f0) ((rd_T53 (rd_L7 ((rd_T41 t900 0).f1) 0) 0).f1) ((rd_T53 (rd_L7 ((rd_T41 t900 0).f1) 0) 0).f2) ((rd_T53 (rd_L7 ((rd_T41 t900 0).f1) 0) 0).f3) bt924.1 bt924.2.1 bt924.2.2).bind fun t927=>((eval_Holds.f kj40 ((rd_T53 (rd_L7 ((rd_T41 t900 0).f1) 0) 0).f0) ((rd_T53 (rd_L7 ((rd_T41 t900 0).f1) 0) 0).f1) ((rd_T53 (rd_L7 ((rd_T41 t900 0).f1) 0) 0).f2) ((rd_T53 (rd_L7 ((rd_T41 t900 0).f1) 0) 0).f3) t912 t913 t914).bind fun t928=>(some (t927==t928)))))=some r:=by rw[if_neg (show ¬(false=true) by decide)] at H;exact H
         clear H
         have H:=H1
         clear H1
         replace H:=Option.bind_eq_some_iff.mp H
         obtain⟨⟨t924,t925,t926⟩,A960,H⟩:=H
         dsimp only at H
         have A96:=Aside0.mk A960
         clear A960
         replace H:=Option.bind_eq_some_iff.mp H
         obtain⟨t927,A970,H⟩:=H
         have A97:=Aside0.mk A970
         clear A970
         replace H:=Option.bind_eq_some_iff.mp H
         obtain⟨t928,A980,H⟩:=H
         have A98:=Aside0.mk A980
         clear A980
         obtain rfl:=Option.some.inj H
         try go_wp2
         replace HO_890004:=Aside0.mk (Kd.V_drew HO_890004.out)
         replace HO_908003:=Aside0.mk (Kd.V_drew HO_908003.out)
         replace BK889:=Aside0.mk (blk_drew BK889.out)
         replace BK907:=Aside0.mk (blk_drew BK907.out)
         replace BK911:=Aside0.mk (blk_drew BK911.out)
         replace BK915:=Aside0.mk (blk_drew BK915.out)
         replace HB:=Aside0.mk (below_drew1 HB.out)
         refine start_ (n:=9) (S:=fun w'=>w'.cell? ⟨gb907,0,none⟩=some (.int .u8 ((rd_T53 (rd_L7 ((rd_T41 t900 0).f1) 0) 0).f0))∧w'.cell? ⟨gb907,1,none⟩=some (.int .i64 ((rd_T53 (rd_L7 ((rd_T41 t900 0).f1) 0) 0).f1))∧w'.cell? ⟨gb907,2,none⟩=some (.bool ((rd_T53 (rd_L7 ((rd_T41 t900 0).f1) 0) 0).f2))∧w'.cell? ⟨gb907,3,none⟩=some (.slice A906_3 ((rd_T53 (rd_L7 ((rd_T41 t900 0).f1) 0) 0).f3).length c906_3)∧w'.cell? ⟨gb911,0,none⟩=some (.bool t908)∧w'.cell? ⟨gb911,1,none⟩=some (.string t918)∧w'.cell? ⟨gb911,2,none⟩=some (.string t910)∧w'.cell? ⟨gb915,0,none⟩=some (.string t912)∧w'.cell? ⟨gb915,1,none⟩=some (.string t913)∧w'.cell? ⟨gb915,2,none⟩=some (.int .i64 t914)) (ds:=[]) #[false,false,false,false,false,false,false,false,false] (by kernel_rfl) rfl rfl ⟨bc_ BK907 0,bc_ BK907 1,bc_ BK907 2,bc_ BK907 3,bc_ BK911 0,bc_ BK911 1,bc_ BK911 2,bc_ BK915 0,bc_ BK915 1,bc_ BK915 2⟩ (fun hHeld=>?_);refine with_tabW florinlaw07_EvalPeriods.tab14 florinlaw07_EvalPeriods.bits14 (fun HT_ HW_=>?_)
         generalize wc.drew=w99 at HO_890004 HO_908003 BK889 BK907 BK911 BK915 HB hHeld ⊢
         refine tk_ 0 74 #[true,false,false,false,false,false,false,false,false] HT_ HW_ hHeld rfl (by rintro w' ⟨s0,s1,s2,s3,s4,s5,s6,s7,s8,s9⟩;go_simp;with_reducible rfl) ?_
         refine tk_ 1 75 #[true,true,false,false,false,false,false,false,false] HT_ HW_ hHeld rfl (by rintro w' ⟨s0,s1,s2,s3,s4,s5,s6,s7,s8,s9⟩;go_simp;with_reducible rfl) ?_
         refine tk_ 4 78 #[true,true,false,false,true,false,false,false,false] HT_ HW_ hHeld rfl (by rintro w' ⟨s0,s1,s2,s3,s4,s5,s6,s7,s8,s9⟩;go_simp;with_reducible rfl) ?_
         refine tk_ 5 79 #[true,true,false,false,true,true,false,false,false] HT_ HW_ hHeld rfl (by rintro w' ⟨s0,s1,s2,s3,s4,s5,s6,s7,s8,s9⟩;go_simp;with_reducible rfl) ?_
         refine one_ (i:=2) (N:=some 76) #[true,true,true,false,true,true,false,false,false] rfl rfl (one_of HT_.out (by kernel_rfl)) (by decide) (fun K hK=>?_)
         refine gs_ Tryz.func10 #[.agg #[.bool t908,.string t918,.string t910],.int .i64 0] ?_
         with_reducible refine(operand_Of.calls _ _ _ _ _ _ _ _ _ A96.out).mono ?_
         rintro e w100 ⟨rfl,hb⟩
         refine⟨_,rfl,?_⟩
         replace HO_890004:=Aside0.mk (Kd.V_below (krV_ HO_890004) hb)
         replace HO_908003:=Aside0.mk (Kd.V_below (krV_ HO_908003) hb)
         replace BK889:=bb_ BK889 hb
         replace BK907:=bb_ BK907 hb
         replace BK911:=bb_ BK911 hb
         replace BK915:=bb_ BK915 hb
         replace HB:=Aside0.mk (below_step (bl_ HB).out hb)
         (try clear hb)
         (try clear hb2)
         (try clear hk)
         (try clear hi)
         refine hK.out _ _ ⟨bc_ BK907 0,bc_ BK907 1,bc_ BK907 2,bc_ BK907 3,bc_ BK911 0,bc_ BK911 1,bc_ BK911 2,bc_ BK915 0,bc_ BK915 1,bc_ BK915 2⟩ (fun hHeld=>?_)
         clear hK K
         refine nm_ 76 ?_
         refine one_ (i:=3) (N:=some 77) #[true,true,true,true,true,true,false,false,false] rfl rfl (one_of HT_.out (by kernel_rfl)) (by decide) (fun K hK=>?_)
         refine gs_ Tryz.func15 #[.agg #[.int .u8 ((rd_T53 (rd_L7 ((rd_T41 t900 0).f1) 0) 0).f0),.int .i64 ((rd_T53 (rd_L7 ((rd_T41 t900 0).f1) 0) 0).f1),.bool ((rd_T53 (rd_L7 ((rd_T41 t900 0).f1) 0) 0).f2),.slice A906_3 ((rd_T53 (rd_L7 ((rd_T41 t900 0).f1) 0) 0).f3).length c906_3],.agg #[.string t924,.string t925,.int .i64 t926]] ?_
         with_reducible refine(eval_Holds.calls kj40 ((rd_T53 (rd_L7 ((rd_T41 t900 0).f1) 0) 0).f0) ((rd_T53 (rd_L7 ((rd_T41 t900 0).f1) 0) 0).f1) ((rd_T53 (rd_L7 ((rd_T41 t900 0).f1) 0) 0).f2) _ _ ((rd_T53 (rd_L7 ((rd_T41 t900 0).f1) 0) 0).f3) t924 t925 t926 t927 _ ?side1 ?side2 A97.out).mono ?_
         (case side1=>repeat(first|exact(Kd.V_reads' HO_908003.out).2.2|(with_reducible refine Kd.C_alloc ?_ _)|(with_reducible refine Kd.C_drewN ?_ _)|(with_reducible refine Kd.C_drew ?_)))
         (case side2=>exact(Kd.V_reads' HO_908003.out).2.1)
         rintro e w101 ⟨rfl,hb⟩
         refine⟨_,rfl,?_⟩
         replace HO_890004:=Aside0.mk (Kd.V_below (krV_ HO_890004) hb)
         replace HO_908003:=Aside0.mk (Kd.V_below (krV_ HO_908003) hb)
         replace BK889:=bb_ BK889 hb
         replace BK907:=bb_ BK907 hb
         replace BK911:=bb_ BK911 hb
         replace BK915:=bb_ BK915 hb
         replace HB:=Aside0.mk (below_step (bl_ HB).out hb)
         (try clear hb)
         (try clear hb2)
         (try clear hk)
         (try clear hi)
         refine hK.out _ _ ⟨bc_ BK907 0,bc_ BK907 1,bc_ BK907 2,bc_ BK907 3,bc_ BK911 0,bc_ BK911 1,bc_ BK911 2,bc_ BK915 0,bc_ BK915 1,bc_ BK915 2⟩ (fun hHeld=>?_)
         clear hK K
         refine nm_ 77 ?_
         refine one_ (i:=6) (N:=some 80) #[true,true,true,true,true,true,true,false,false] rfl rfl (one_of HT_.out (by kernel_rfl)) (by decide) (fun K hK=>?_)
         refine gs_ Tryz.func15 #[.agg #[.int .u8 ((rd_T53 (rd_L7 ((rd_T41 t900 0).f1) 0) 0).f0),.int .i64 ((rd_T53 (rd_L7 ((rd_T41 t900 0).f1) 0) 0).f1),.bool ((rd_T53 (rd_L7 ((rd_T41 t900 0).f1) 0) 0).f2),.slice A906_3 ((rd_T53 (rd_L7 ((rd_T41 t900 0).f1) 0) 0).f3).length c906_3],.agg #[.string t912,.string t913,.int .i64 t914]] ?_
         with_reducible refine(eval_Holds.calls kj40 ((rd_T53 (rd_L7 ((rd_T41 t900 0).f1) 0) 0).f0) ((rd_T53 (rd_L7 ((rd_T41 t900 0).f1) 0) 0).f1) ((rd_T53 (rd_L7 ((rd_T41 t900 0).f1) 0) 0).f2) _ _ ((rd_T53 (rd_L7 ((rd_T41 t900 0).f1) 0) 0).f3) t912 t913 t914 t928 _ ?side1 ?side2 A98.out).mono ?_
         (case side1=>repeat(first|exact(Kd.V_reads' HO_908003.out).2.2|(with_reducible refine Kd.C_alloc ?_ _)|(with_reducible refine Kd.C_drewN ?_ _)|(with_reducible refine Kd.C_drew ?_)))
         (case side2=>exact(Kd.V_reads' HO_908003.out).2.1)
         rintro e w102 ⟨rfl,hb⟩
         refine⟨_,rfl,?_⟩
         replace HO_890004:=Aside0.mk (Kd.V_below (krV_ HO_890004) hb)
         replace HO_908003:=Aside0.mk (Kd.V_below (krV_ HO_908003) hb)
         replace BK889:=bb_ BK889 hb
         replace BK907:=bb_ BK907 hb
         replace BK911:=bb_ BK911 hb
         replace BK915:=bb_ BK915 hb
         replace HB:=Aside0.mk (below_step (bl_ HB).out hb)
         (try clear hb)
         (try clear hb2)
         (try clear hk)
         (try clear hi)
         refine hK.out _ _ ⟨bc_ BK907 0,bc_ BK907 1,bc_ BK907 2,bc_ BK907 3,bc_ BK911 0,bc_ BK911 1,bc_ BK911 2,bc_ BK915 0,bc_ BK915 1,bc_ BK915 2⟩ (fun hHeld=>?_)
         clear hK K
         refine nm_ 80 ?_
         refine pu_ 7 81 #[true,true,true,true,true,true,true,true,false] HT_ ?_
         refine pu_ 8 8 #[true,true,true,true,true,true,true,true,true] HT_ ?_
         refine done_ (done_of HT_.out (by kernel_rfl)) ?_
         try go_wp2
         go_ret
         exact⟨ew_,(bl_ HB).out⟩
 ·replace c6:=Bool.eq_false_iff.mpr c6
  subst c6
  have H1:(none)=some r:=by rw[if_neg (show ¬(false=true) by decide)] at H;exact H
  clear H
  have H:=H1
  clear H1
  exact absurd H (by simp)

end Go.Proofs.YtadagjgkanlmdaaGreatDoor.P
