-- written by a program of this session (wip/p2)
import Derived.Test.YtadagjgkanlmdaaGreatDoorPx0
import Derived.Test.YtadagjgkanlmdaaGreatDoorPx2
import Derived.Test.YtadagjgkanlmdaaGreatDoorPx5
import Derived.Test.YtadagjgkanlmdaaGreatDoorPx6
import Derived.Test.YtadagjgkanlmdaaGreatDoorPx9
import Derived.Test.YtadagjgkanlmdaaGreatDoorPx12
namespace Go.Proofs.YtadagjgkanlmdaaGreatDoor.P
open Go.RowKit Go.Proofs.YtadagjgkanlmdaaGreatDoorW.PrintWords Go.Proofs.YtadagjgkanlmdaaGreatDoorW.PrintLast Go.Proofs.YtadagjgkanlmdaaGreatDoorW.PrintMore
attribute [local go_sem] max2_int min2_int max_two min_two max_three min_three max_four min_four   -- for this text's walks alone
set_option linter.unusedVariables false
set_option linter.unusedSimpArgs false

/-! ### florinlaw07_EvalNots: function 4 -/
mutual
def florinlaw07_EvalNots.j0:Nat→Int→Int→List Int→List Int→Int→Bool→Int→Int→Int→Bool→List (S139)→Option (Bool)
 | 0,_,_,_,_,_,_,_,_,_,_,_=>none
 | k+1,x1,x2,x3,x4,x5,x35,x823000,x823001,x823002,x823003,x823004=>if x35=true then (some true) else ((florinlaw06_All.f k (([(⟨1,0,0,(([(([(⟨x823000,x823001,x823002,x823003,x823004⟩:S46)]:List (S46)))]:List (List (S46))))⟩:S50)]:List (S50))) 0).bind fun bt833=>(if 0<(bt833.1.length:Int) then (if 0<(((rd_T41 bt833.1 0).f1).length:Int) then (if 0<((rd_L7 ((rd_T41 bt833.1 0).f1) 0).length:Int) then ((florinlaw05_Shown.f k x3 x4).bind fun bt841=>((operand_Of.f k bt841.1 bt841.2.1 bt841.2.2 (Go.bits .and .i64 x5 15)).bind fun bt844=>((eval_Holds.f k ((rd_T53 (rd_L7 ((rd_T41 bt833.1 0).f1) 0) 0).f0) ((rd_T53 (rd_L7 ((rd_T41 bt833.1 0).f1) 0) 0).f1) ((rd_T53 (rd_L7 ((rd_T41 bt833.1 0).f1) 0) 0).f2) ((rd_T53 (rd_L7 ((rd_T41 bt833.1 0).f1) 0) 0).f3) bt844.1 bt844.2.1 bt844.2.2).bind fun t849=>((eval_Holds.f k ((rd_T53 (rd_L7 ((rd_T41 bt833.1 0).f1) 0) 0).f0) ((rd_T53 (rd_L7 ((rd_T41 bt833.1 0).f1) 0) 0).f1) (!((rd_T53 (rd_L7 ((rd_T41 bt833.1 0).f1) 0) 0).f2)) ((rd_T53 (rd_L7 ((rd_T41 bt833.1 0).f1) 0) 0).f3) bt844.1 bt844.2.1 bt844.2.2).bind fun t850=>(if (t849==t850)=true then (none) else (florinlaw07_EvalNots.j1 k x1 x2 ((rd_T53 (rd_L7 ((rd_T41 bt833.1 0).f1) 0) 0).f0) ((rd_T53 (rd_L7 ((rd_T41 bt833.1 0).f1) 0) 0).f1) false ((rd_T53 (rd_L7 ((rd_T41 bt833.1 0).f1) 0) 0).f3) bt844.1 bt844.2.1 bt844.2.2)))))) else (none)) else (none)) else (none)))
def florinlaw07_EvalNots.j1:Nat→Int→Int→Int→Int→Bool→List (S57)→ByteArray→ByteArray→Int→Option (Bool)
 | 0,_,_,_,_,_,_,_,_,_=>none
 | k+1,x1,x2,x841000,x841001,x841002,x841003,x848000,x848001,x848002=>(some (([(⟨Go.bits .and .i64 x1 65535,wrap64 ((Go.bits .and .i64 x1 65535)+(Go.bits .and .i64 x2 255))⟩:S57)]:List (S57)):List (S57))).bind fun y851=>(if y851.length+x841003.length<8796093022208 then ((some (y851++x841003:List (S57))).bind fun y854=>(if 1≤(y854.length:Int) then ((eval_Holds.f k x841000 x841001 false y854 x848000 x848001 x848002).bind fun t864=>((eval_Holds.f k x841000 x841001 x841002 x841003 x848000 x848001 x848002).bind fun t865=>(if t865=true then (some (t864==true)) else ((eval_Holds.f k x841000 x841001 false (y854.take 1) x848000 x848001 x848002).bind fun t866=>(some (t864==t866)))))) else (none))) else (none))
end
def florinlaw07_EvalNots.f (k:Nat) (a0_0:Int) (a0_1:Int) (a0_2:Int) (a0_3:Bool) (l0_4:List (S139)) (a1:Int) (a2:Int) (l3:List Int) (l4:List Int) (a5:Int):Option (Bool):=(florinlaw07_head.f k).bind fun t823=>(if t823=true then (if (l0_4.length:Int)>5 then (florinlaw07_EvalNots.j0 k a1 a2 l3 l4 a5 true a0_0 a0_1 a0_2 a0_3 l0_4) else (if (l3.length:Int)>40 then (florinlaw07_EvalNots.j0 k a1 a2 l3 l4 a5 true a0_0 a0_1 a0_2 a0_3 l0_4) else (florinlaw07_EvalNots.j0 k a1 a2 l3 l4 a5 (decide ((l4.length:Int)>40)) a0_0 a0_1 a0_2 a0_3 l0_4))) else (none))
def florinlaw07_EvalNots.T13:Bool × List (List Nat × List Nat):=(true,[([],[]),([0],[0]),([],[]),([2],[2]),([],[]),([4],[4]),([],[]),([6],[6]),([],[]),([8],[8]),([7,9],[7,9]),([5,10],[5,10]),([11],[11]),([],[]),([13],[13]),([12,14],[12,14]),([1,3,15],[1,3,15]),([],[]),([17,16,15,0,1,2,3,4,5,6,7,8,9,10,11,12,13,14,15,16,17],[16,17])])
def florinlaw07_EvalNots.B13:List Nat:=[0,1,0,4,0,16,0,64,0,256,960,2032,4080,0,8192,32752,65535,0,262143]
theorem florinlaw07_EvalNots.tab13:rtab .any (opsOf Tryz.f4 13)=florinlaw07_EvalNots.T13:=by kernel_rfl
theorem florinlaw07_EvalNots.bits13:waitsOk florinlaw07_EvalNots.T13.2 florinlaw07_EvalNots.B13=true:=by kernel_rfl
def florinlaw07_EvalNots.T14:Bool × List (List Nat × List Nat):=(true,[([],[]),([0],[0]),([],[]),([2],[2]),([],[]),([4],[4]),([5],[5]),([1,3,6],[1,3,6]),([],[]),([8,7,0,1,2,3,4,5,6,7,8],[7,8])])
def florinlaw07_EvalNots.B14:List Nat:=[0,1,0,4,0,16,48,127,0,511]
theorem florinlaw07_EvalNots.tab14:rtab .any (opsOf Tryz.f4 14)=florinlaw07_EvalNots.T14:=by kernel_rfl
theorem florinlaw07_EvalNots.bits14:waitsOk florinlaw07_EvalNots.T14.2 florinlaw07_EvalNots.B14=true:=by kernel_rfl
def florinlaw07_EvalNots.T15:Bool × List (List Nat × List Nat):=(true,[([],[]),([],[]),([0,1],[0,1]),([],[]),([],[]),([3,4,2],[3,4]),([5,5],[5]),([6],[6]),([6],[6]),([7,8,6,6],[6,7,8]),([6,9],[6,9]),([2,10],[2,10]),([11,9,0,1,2,3,4,5,6,7,8,9,10,11],[11])])
def florinlaw07_EvalNots.B15:List Nat:=[0,0,3,0,0,31,63,127,127,511,1023,2047,4095]
theorem florinlaw07_EvalNots.tab15:rtab .any (opsOf Tryz.f4 15)=florinlaw07_EvalNots.T15:=by kernel_rfl
theorem florinlaw07_EvalNots.bits15:waitsOk florinlaw07_EvalNots.T15.2 florinlaw07_EvalNots.B15=true:=by kernel_rfl
set_option maxHeartbeats 64000000 in
set_option maxRecDepth 100000 in
theorem florinlaw07_EvalNots.calls (k:Nat) (a0_0:Int) (a0_1:Int) (a0_2:Int) (a0_3:Bool) (P0_4_:Nat→Prop) (A0_4:Option Addr) (c0_4:Nat) (l0_4:List (S139)) (a1:Int) (a2:Int) (A3:Option Addr) (c3:Nat) (l3:List Int) (A4:Option Addr) (c4:Nat) (l4:List Int) (a5:Int) (r:Bool) (w:World) (hs0_4:Kd.V k139 139 w w.heap.size (fun k_=>P0_4_ k_) (.slice A0_4 l0_4.length c0_4) l0_4) (hr3:Kd.C (Kd.int .u8) w A3 l3.length l3) (hc3:l3.length≤c3) (hr4:Kd.C (Kd.int .u8) w A4 l4.length l4) (hc4:l4.length≤c4) (h:florinlaw07_EvalNots.f k a0_0 a0_1 a0_2 a0_3 l0_4 a1 a2 l3 l4 a5=some r) :
  Calls Tryz.prog 4 #[.agg #[.int .i64 a0_0,.int .i64 a0_1,.int .i64 a0_2,.bool a0_3,.slice A0_4 l0_4.length c0_4],.int .i64 a1,.int .i64 a2,.slice A3 l3.length c3,.slice A4 l4.length c4,.int .i64 a5] w fun e w'=>e= .returned (.bool r)∧Below w.heap.size w w':=by
 have hu46:=Tryz.underlying46
 have hu50:=Tryz.underlying50
 have hu53:=Tryz.underlying53
 have hu27:=Tryz.underlying27
 have hu57:=Tryz.underlying57
 have HO0_4:=Aside0.mk (show Kd.V k139 139 w w.heap.size (fun k_=>(P0_4_ k_∨w.heap.size≤k_)) (.slice A0_4 l0_4.length c0_4) l0_4 from Kd.V_mono hs0_4 (fun k_ hk=> .inl hk))
 have HR3:=Aside0.mk hr3
 have HC3:=Aside0.mk hc3
 clear hr3 hc3
 have HR4:=Aside0.mk hr4
 have HC4:=Aside0.mk hc4
 clear hr4 hc4
 have HB:=Aside0.mk (Below.refl w.heap.size w)
 have H:((florinlaw07_head.f k).bind fun t823=>(if t823=true then (if (l0_4.length:Int)>5 then (florinlaw07_EvalNots.j0 k a1 a2 l3 l4 a5 true a0_0 a0_1 a0_2 a0_3 l0_4) else (if (l3.length:Int)>40 then (florinlaw07_EvalNots.j0 k a1 a2 l3 l4 a5 true a0_0 a0_1 a0_2 a0_3 l0_4) else (florinlaw07_EvalNots.j0 k a1 a2 l3 l4 a5 (decide ((l4.length:Int)>40)) a0_0 a0_1 a0_2 a0_3 l0_4))) else (none)))=some r:=h
 clear h
 replace H:=Option.bind_eq_some_iff.mp H
 obtain⟨t823,A70,H⟩:=H
 have A7:=Aside0.mk A70
 clear A70
 by_cases c8:t823=true
 ·subst c8
  have H1:(if (l0_4.length:Int)>5 then (florinlaw07_EvalNots.j0 k a1 a2 l3 l4 a5 true a0_0 a0_1 a0_2 a0_3 l0_4) else (if (l3.length:Int)>40 then (florinlaw07_EvalNots.j0 k a1 a2 l3 l4 a5 true a0_0 a0_1 a0_2 a0_3 l0_4) else (florinlaw07_EvalNots.j0 k a1 a2 l3 l4 a5 (decide ((l4.length:Int)>40)) a0_0 a0_1 a0_2 a0_3 l0_4)))=some r:=by rw[if_pos rfl] at H;exact H
  clear H
  have H:=H1
  clear H1
  have HC9:=Aside0.mk H
  clear H
  go_enter Tryz.func4,Tryz.ntmps4
  go_upto_region 3 with (first|((with_reducible refine gate_dst (N:=6) rfl ?_);(try (refine gate_guard (by rfl) ?_;dsimp only));refine be_ 6 #[.int .i64 a0_0,.int .i64 a0_1,.int .i64 a0_2,.bool a0_3,.slice A0_4 l0_4.length c0_4] 46 ?_;intro gb822 hg w10 hbox hb;have BK822:=Aside0.mk (hbox);have GW822:=sz_ HB hg;have GE822:=sz_ HB hg;replace HO0_4:=Aside0.mk (Kd.V_below (Kd.V_elderB (krV_ HO0_4) gb822 (Nat.le_of_eq hg.symm)) hb);replace HB:=Aside0.mk (below_step (bl_ HB).out hb);clear hb hbox hg)|((with_reducible refine gate_callee (f:=8) rfl ?_);refine gl_ (some 20) Tryz.func8 #[] ?_;(with_reducible refine(florinlaw07_head.calls _ _ _ A7.out).mono ?_);rintro e w11 ⟨rfl,hb⟩;refine⟨_,rfl,?_⟩;replace HO0_4:=Aside0.mk (Kd.V_below (krV_ HO0_4) hb);replace BK822:=bb_ BK822 hb;replace HB:=Aside0.mk (below_step (bl_ HB).out hb);(try clear hb);(try clear hi)))
  (try simp only[Act.put,List.setIfInBounds_toArray,List.set_cons_zero,List.set_cons_succ])
  go_cut [35] (fun v35 wc=>∃(kq:Nat) (x35_8:Bool),v35= .bool x35_8∧Aside0 (florinlaw07_EvalNots.j0 kq a1 a2 l3 l4 a5 x35_8 a0_0 a0_1 a0_2 a0_3 l0_4=some r)∧Aside0 (kq≤k)∧Aside0 (Kd.V k139 139 wc w.heap.size (fun k_=>(P0_4_ k_∨w.heap.size≤k_)∧k_≠gb822) (.slice A0_4 l0_4.length c0_4) l0_4)∧Aside0 (wc.heap[gb822]? = some (.cells #[.int .i64 a0_0,.int .i64 a0_1,.int .i64 a0_2,.bool a0_3,(.slice A0_4 l0_4.length c0_4)] 46 (0,0)))∧Aside0 (Below w.heap.size w wc))
  case first =>
   have H:=HC9.out
   clear HC9
   by_cases c12:(l0_4.length:Int)>5
   ·rw[if_pos c12] at H
    have c12b0:decide (5<(l0_4.length:Int))=true:=decide_eq_true c12
    have c12b1:decide (5<l0_4.length)=true:=decide_eq_true (by omega)
    clear c12
    (first|rw[c12b0]|(simp only[i64_w,i32_w];rw[c12b0])|skip)
    have H':=Aside0.mk H
    clear H
    obtain⟨hcz13_0,hcz13_1,hcz13_2,hcz13_3,hcz13_4,hfz13_0,hfz13_1,hfz13_2,hfz13_3,hfz13_4⟩:=bo5_ BK822
    go_wp2
    go_meet
    case rel=>exact⟨_,(true),eq_,H',⟨by first|omega|exact Nat.le_refl _⟩,⟨kdV_ HO0_4.out⟩,(bk_ BK822),(bl_ HB)⟩
   ·rw[if_neg c12] at H
    have c12b0:decide (5<(l0_4.length:Int))=false:=decide_eq_false c12
    have c12b1:decide (5<l0_4.length)=false:=decide_eq_false (by omega)
    clear c12
    (first|rw[c12b0]|(simp only[i64_w,i32_w];rw[c12b0])|skip)
    by_cases c14:(l3.length:Int)>40
    ·rw[if_pos c14] at H
     have c14b0:decide (40<(l3.length:Int))=true:=decide_eq_true c14
     have c14b1:decide (40<l3.length)=true:=decide_eq_true (by omega)
     clear c14
     have H':=Aside0.mk H
     clear H
     obtain⟨hcz15_0,hcz15_1,hcz15_2,hcz15_3,hcz15_4,hfz15_0,hfz15_1,hfz15_2,hfz15_3,hfz15_4⟩:=bo5_ BK822
     go_wp2
     go_meet
     case rel=>exact⟨_,(true),eq_,H',⟨by first|omega|exact Nat.le_refl _⟩,⟨kdV_ HO0_4.out⟩,(bk_ BK822),(bl_ HB)⟩
    ·rw[if_neg c14] at H
     have c14b0:decide (40<(l3.length:Int))=false:=decide_eq_false c14
     have c14b1:decide (40<l3.length)=false:=decide_eq_false (by omega)
     clear c14
     have H':=Aside0.mk H
     clear H
     obtain⟨hcz16_0,hcz16_1,hcz16_2,hcz16_3,hcz16_4,hfz16_0,hfz16_1,hfz16_2,hfz16_3,hfz16_4⟩:=bo5_ BK822
     go_wp2
     go_meet
     case rel=>exact⟨_,(decide ((l4.length:Int)>40)),eq_,H',⟨by first|omega|exact Nat.le_refl _⟩,⟨kdV_ HO0_4.out⟩,(bk_ BK822),(bl_ HB)⟩
  case rest =>
   clear HC9
   obtain⟨kq,x35_8,rfl,HA,HJ8,HO_823004,BK822,HB⟩:=hcut
   cases kq with
   | zero=>exact absurd HA.out (by simp[florinlaw07_EvalNots.j0])
   | succ kj8 =>
    have H:=HA.out
    clear HA
    simp only[florinlaw07_EvalNots.j0] at H
    by_cases c17:x35_8=true
    ·subst c17
     have H1:(some true)=some r:=by rw[if_pos rfl] at H;exact H
     clear H
     have H:=H1
     clear H1
     obtain rfl:=Option.some.inj H
     go_wp2
     go_ret
     exact⟨ew_,(bl_ HB).out⟩
    ·replace c17:=Bool.eq_false_iff.mpr c17
     subst c17
     have H1:((florinlaw06_All.f kj8 (([(⟨1,0,0,(([(([(⟨a0_0,a0_1,a0_2,a0_3,l0_4⟩:S46)]:List (S46)))]:List (List (S46))))⟩:S50)]:List (S50))) 0).bind fun bt833=>(if 0<(bt833.1.length:Int) then (if 0<(((rd_T41 bt833.1 0).f1).length:Int) then (if 0<((rd_L7 ((rd_T41 bt833.1 0).f1) 0).length:Int) then ((florinlaw05_Shown.f kj8 l3 l4).bind fun bt841=>((operand_Of.f kj8 bt841.1 bt841.2.1 bt841.2.2 (Go.bits .and .i64 a5 15)).bind fun bt844=>((eval_Holds.f kj8 ((rd_T53 (rd_L7 ((rd_T41 bt833.1 0).f1) 0) 0).f0) ((rd_T53 (rd_L7 ((rd_T41 bt833.1 0).f1) 0) 0).f1) ((rd_T53 (rd_L7 ((rd_T41 bt833.1 0).f1) 0) 0).f2) ((rd_T53 (rd_L7 ((rd_T41 bt833.1 0).f1) 0) 0).f3) bt844.1 bt844.2.1 bt844.2.2).bind fun t849=>((eval_Holds.f kj8 ((rd_T53 (rd_L7 ((rd_T41 bt833.1 0).f1) 0) 0).f0) ((rd_T53 (rd_L7 ((rd_T41 bt833.1 0).f1) 0) 0).f1) (!((rd_T53 (rd_L7 ((rd_T41 bt833.1 0).f1) 0) 0).f2)) ((rd_T53 (rd_L7 ((rd_T41 bt833.1 0).f1) 0) 0).f3) bt844.1 bt844.2.1 bt844.2.2).bind fun t850=>(if (t849==t850)=true then (none) else (florinlaw07_EvalNots.j1 kj8 a1 a2 ((rd_T53 (rd_L7 ((rd_T41 bt833.1 0).f1) 0) 0).f0) ((rd_T53 (rd_L7 ((rd_T41 bt833.1 0).f1) 0) 0).f1) false ((rd_T53 (rd_L7 ((rd_T41 bt833.1 0).f1) 0) 0).f3) bt844.1 bt844.2.1 bt844.2.2)))))) else (none)) else (none)) else (none)))=some r:=by rw[if_neg (show ¬(false=true) by decide)] at H;exact H
     clear H
     have H:=H1
     clear H1
     obtain⟨y824,hy824⟩:∃y_:List (S46),y_=(([(⟨a0_0,a0_1,a0_2,a0_3,l0_4⟩:S46)]:List (S46))):=⟨_,rfl⟩
     replace H:((florinlaw06_All.f kj8 (([(⟨1,0,0,(([y824]:List (List (S46))))⟩:S50)]:List (S50))) 0).bind fun bt833=>(if 0<(bt833.1.length:Int) then (if 0<(((rd_T41 bt833.1 0).f1).length:Int) then (if 0<((rd_L7 ((rd_T41 bt833.1 0).f1) 0).length:Int) then ((florinlaw05_Shown.f kj8 l3 l4).bind fun bt841=>((operand_Of.f kj8 bt841.1 bt841.2.1 bt841.2.2 (Go.bits .and .i64 a5 15)).bind fun bt844=>((eval_Holds.f kj8 ((rd_T53 (rd_L7 ((rd_T41 bt833.1 0).f1) 0) 0).f0) ((rd_T53 (rd_L7 ((rd_T41 bt833.1 0).f1) 0) 0).f1) ((rd_T53 (rd_L7 ((rd_T41 bt833.1 0).f1) 0) 0).f2) ((rd_T53 (rd_L7 ((rd_T41 bt833.1 0).f1) 0) 0).f3) bt844.1 bt844.2.1 bt844.2.2).bind fun t849=>((eval_Holds.f kj8 ((rd_T53 (rd_L7 ((rd_T41 bt833.1 0).f1) 0) 0).f0) ((rd_T53 (rd_L7 ((rd_T41 bt833.1 0).f1) 0) 0).f1) (!((rd_T53 (rd_L7 ((rd_T41 bt833.1 0).f1) 0) 0).f2)) ((rd_T53 (rd_L7 ((rd_T41 bt833.1 0).f1) 0) 0).f3) bt844.1 bt844.2.1 bt844.2.2).bind fun t850=>(if (t849==t850)=true then (none) else (florinlaw07_EvalNots.j1 kj8 a1 a2 ((rd_T53 (rd_L7 ((rd_T41 bt833.1 0).f1) 0) 0).f0) ((rd_T53 (rd_L7 ((rd_T41 bt833.1 0).f1) 0) 0).f1) false ((rd_T53 (rd_L7 ((rd_T41 bt833.1 0).f1) 0) 0).f3) bt844.1 bt844.2.1 bt844.2.2)))))) else (none)) else (none)) else (none)))=some r:=by first|(rw[hy824];with_reducible exact H)|(have H2_:=(Option.bind_some _ _).symm.trans H;rw[hy824];with_reducible exact H2_)|(have H2_:=(Option.bind_some _ _).symm.trans H;with_reducible exact H2_)|with_reducible exact H|(rw[hy824];exact H)|exact H
     have Ny824:=Aside0.mk hy824
     clear hy824
     obtain⟨y827,hy827⟩:∃y_:List (List (S46)),y_=(([y824]:List (List (S46)))):=⟨_,rfl⟩
     replace H:((florinlaw06_All.f kj8 (([(⟨1,0,0,y827⟩:S50)]:List (S50))) 0).bind fun bt833=>(if 0<(bt833.1.length:Int) then (if 0<(((rd_T41 bt833.1 0).f1).length:Int) then (if 0<((rd_L7 ((rd_T41 bt833.1 0).f1) 0).length:Int) then ((florinlaw05_Shown.f kj8 l3 l4).bind fun bt841=>((operand_Of.f kj8 bt841.1 bt841.2.1 bt841.2.2 (Go.bits .and .i64 a5 15)).bind fun bt844=>((eval_Holds.f kj8 ((rd_T53 (rd_L7 ((rd_T41 bt833.1 0).f1) 0) 0).f0) ((rd_T53 (rd_L7 ((rd_T41 bt833.1 0).f1) 0) 0).f1) ((rd_T53 (rd_L7 ((rd_T41 bt833.1 0).f1) 0) 0).f2) ((rd_T53 (rd_L7 ((rd_T41 bt833.1 0).f1) 0) 0).f3) bt844.1 bt844.2.1 bt844.2.2).bind fun t849=>((eval_Holds.f kj8 ((rd_T53 (rd_L7 ((rd_T41 bt833.1 0).f1) 0) 0).f0) ((rd_T53 (rd_L7 ((rd_T41 bt833.1 0).f1) 0) 0).f1) (!((rd_T53 (rd_L7 ((rd_T41 bt833.1 0).f1) 0) 0).f2)) ((rd_T53 (rd_L7 ((rd_T41 bt833.1 0).f1) 0) 0).f3) bt844.1 bt844.2.1 bt844.2.2).bind fun t850=>(if (t849==t850)=true then (none) else (florinlaw07_EvalNots.j1 kj8 a1 a2 ((rd_T53 (rd_L7 ((rd_T41 bt833.1 0).f1) 0) 0).f0) ((rd_T53 (rd_L7 ((rd_T41 bt833.1 0).f1) 0) 0).f1) false ((rd_T53 (rd_L7 ((rd_T41 bt833.1 0).f1) 0) 0).f3) bt844.1 bt844.2.1 bt844.2.2)))))) else (none)) else (none)) else (none)))=some r:=by first|(rw[hy827];with_reducible exact H)|(have H2_:=(Option.bind_some _ _).symm.trans H;rw[hy827];with_reducible exact H2_)|(have H2_:=(Option.bind_some _ _).symm.trans H;with_reducible exact H2_)|with_reducible exact H|(rw[hy827];exact H)|exact H
     have Ny827:=Aside0.mk hy827
     clear hy827
     obtain⟨y830,hy830⟩:∃y_:List (S50),y_=(([(⟨1,0,0,y827⟩:S50)]:List (S50))):=⟨_,rfl⟩
     replace H:((florinlaw06_All.f kj8 y830 0).bind fun bt833=>(if 0<(bt833.1.length:Int) then (if 0<(((rd_T41 bt833.1 0).f1).length:Int) then (if 0<((rd_L7 ((rd_T41 bt833.1 0).f1) 0).length:Int) then ((florinlaw05_Shown.f kj8 l3 l4).bind fun bt841=>((operand_Of.f kj8 bt841.1 bt841.2.1 bt841.2.2 (Go.bits .and .i64 a5 15)).bind fun bt844=>((eval_Holds.f kj8 ((rd_T53 (rd_L7 ((rd_T41 bt833.1 0).f1) 0) 0).f0) ((rd_T53 (rd_L7 ((rd_T41 bt833.1 0).f1) 0) 0).f1) ((rd_T53 (rd_L7 ((rd_T41 bt833.1 0).f1) 0) 0).f2) ((rd_T53 (rd_L7 ((rd_T41 bt833.1 0).f1) 0) 0).f3) bt844.1 bt844.2.1 bt844.2.2).bind fun t849=>((eval_Holds.f kj8 ((rd_T53 (rd_L7 ((rd_T41 bt833.1 0).f1) 0) 0).f0) ((rd_T53 (rd_L7 ((rd_T41 bt833.1 0).f1) 0) 0).f1) (!((rd_T53 (rd_L7 ((rd_T41 bt833.1 0).f1) 0) 0).f2)) ((rd_T53 (rd_L7 ((rd_T41 bt833.1 0).f1) 0) 0).f3) bt844.1 bt844.2.1 bt844.2.2).bind fun t850=>(if (t849==t850)=true then (none) else (florinlaw07_EvalNots.j1 kj8 a1 a2 ((rd_T53 (rd_L7 ((rd_T41 bt833.1 0).f1) 0) 0).f0) ((rd_T53 (rd_L7 ((rd_T41 bt833.1 0).f1) 0) 0).f1) false ((rd_T53 (rd_L7 ((rd_T41 bt833.1 0).f1) 0) 0).f3) bt844.1 bt844.2.1 bt844.2.2)))))) else (none)) else (none)) else (none)))=some r:=by first|(rw[hy830];with_reducible exact H)|(have H2_:=(Option.bind_some _ _).symm.trans H;rw[hy830];with_reducible exact H2_)|(have H2_:=(Option.bind_some _ _).symm.trans H;with_reducible exact H2_)|with_reducible exact H|(rw[hy830];exact H)|exact H
     have Ny830:=Aside0.mk hy830
     clear hy830
     replace H:=Option.bind_eq_some_iff.mp H
     obtain⟨⟨t833,t836⟩,A180,H⟩:=H
     dsimp only at H
     have A18:=Aside0.mk A180
     clear A180
     replace H:=ifn_ H
     obtain⟨c19,H⟩:=H
     have c19b0:decide (0<(t833.length:Int))=true:=decide_eq_true c19
     have c19b1:decide (0<t833.length)=true:=decide_eq_true (by omega)
     clear c19
     replace H:=ifn_ H
     obtain⟨c20,H⟩:=H
     have c20b0:decide (0<(((rd_T41 t833 0).f1).length:Int))=true:=decide_eq_true c20
     have c20b1:decide (0<((rd_T41 t833 0).f1).length)=true:=decide_eq_true (by omega)
     clear c20
     replace H:=ifn_ H
     obtain⟨c21,H⟩:=H
     have c21b0:decide (0<((rd_L7 ((rd_T41 t833 0).f1) 0).length:Int))=true:=decide_eq_true c21
     have c21b1:decide (0<(rd_L7 ((rd_T41 t833 0).f1) 0).length)=true:=decide_eq_true (by omega)
     clear c21
     replace H:=Option.bind_eq_some_iff.mp H
     obtain⟨⟨t841,t842,t843⟩,A220,H⟩:=H
     dsimp only at H
     have A22:=Aside0.mk A220
     clear A220
     replace H:=Option.bind_eq_some_iff.mp H
     obtain⟨⟨t844,t845,t846⟩,A230,H⟩:=H
     dsimp only at H
     have A23:=Aside0.mk A230
     clear A230
     replace H:=Option.bind_eq_some_iff.mp H
     obtain⟨t849,A240,H⟩:=H
     have A24:=Aside0.mk A240
     clear A240
     replace H:=Option.bind_eq_some_iff.mp H
     obtain⟨t850,A250,H⟩:=H
     have A25:=Aside0.mk A250
     clear A250
     replace H:=ifp_ H
     obtain⟨c26,H⟩:=H
     have c26b0:(t849==t850)=false:=by simpa using c26
     (try (have c26b1:decide (t849=t850)=false:=by simpa using c26))
     (try (have c26b2:(t849==t850)=false:=by simpa using c26))
     (try (have c26b3:¬(t849=t850):=by simpa using c26))
     clear c26
     have HC27:=Aside0.mk H
     clear H
     obtain⟨hcz28_0,hcz28_1,hcz28_2,hcz28_3,hcz28_4,hfz28_0,hfz28_1,hfz28_2,hfz28_3,hfz28_4⟩:=bo5_ BK822
     try go_wp2_with (first|((with_reducible refine gate_dst (N:=38) rfl ?_);(try (refine gate_guard (by rfl) ?_;dsimp only));refine Kd.N_lit k46 _ 46 ?hg (N':=38) ?hd (xs:=([(⟨a0_0,a0_1,a0_2,a0_3,l0_4⟩:S46)]:List (S46))) (inner:=[.int .i64 a0_0,.int .i64 a0_1,.int .i64 a0_2,.bool a0_3,.slice A0_4 l0_4.length c0_4]) (ok:=(fun k_=>(P0_4_ k_∨w.heap.size≤k_)∧k_≠gb822)) (okp:=(fun k_=>(P0_4_ k_∨w.heap.size≤k_)∧k_≠gb822)) ?hr ?hp (fun _ hk=>hk) ((show ∀k_,wc.heap.size≤k_→(fun k_=>(P0_4_ k_∨w.heap.size≤k_)∧k_≠gb822) k_ from fun k_ hk=>⟨(.inr (Nat.le_trans (below_size (bl_ HB).out) hk)),Kd.freshB (bk_ BK822).out k_ hk⟩) _ (Nat.le_refl _)) (Below.refl _ _) (Nat.le_refl _) (by simp) ?_;(case hd=>rfl);(case hg=>rfl);(case hr=>first|(go_simp;done)|(go_simp;rfl));(case hp=>exact(Reps.c5 (show Kd.FK k46 _ _ (⟨a0_0,a0_1,a0_2,a0_3,l0_4⟩:S46) [.int .i64 a0_0,.int .i64 a0_1,.int .i64 a0_2,.bool a0_3,.slice A0_4 l0_4.length c0_4] from(k46_mkF _ _ (⟨a0_0,a0_1,a0_2,a0_3,l0_4⟩:S46) (Kd.V_reads' (Kd.V_mono (ok':=(fun k_=>(P0_4_ k_∨w.heap.size≤k_)∧k_≠gb822)) (HO_823004.out) (fun k_ hk=>⟨hk.1,hk.2⟩))).2.1 (Kd.V_F (Kd.V_mono (ok':=(fun k_=>(P0_4_ k_∨w.heap.size≤k_)∧k_≠gb822)) (HO_823004.out) (fun k_ hk=>⟨hk.1,hk.2⟩))))) (Reps.none _ _)));intro v825 w29 ho30 hb hg_ hnew_;clear hg_ hnew_;(first|rw[← Ny824.out] at ho30|(simp only[Int.reduceToNat] at ho30;rw[← Ny824.out] at ho30));have HO826:=Aside0.mk (Kd.N_lower ho30 (below_size (bl_ HB).out));replace HO_823004:=Aside0.mk (Kd.V_elder' (krV_ HO_823004) (Kd.N_base ho30) hb);replace BK822:=bb_ BK822 hb;replace HB:=Aside0.mk (below_step (bl_ HB).out hb);clear hb ho30;obtain⟨Ao31,co31,eo31⟩:=Kd.N_slice HO826.out;subst eo31)|((with_reducible refine gate_dst (N:=39) rfl ?_);(try (refine gate_guard (by rfl) ?_;dsimp only));refine Kd.N_lit (Kd.slice 46 k46) _ 47 ?hg (N':=39) ?hd (xs:=([y824]:List (List (S46)))) (inner:=[.slice Ao31 y824.length co31]) (ok:=(fun k_=>(P0_4_ k_∨w.heap.size≤k_)∧k_≠gb822)) (okp:=(fun k_=>(P0_4_ k_∨w.heap.size≤k_)∧k_≠gb822)) ?hr ?hp (fun _ hk=>hk) ((show ∀k_,w29.heap.size≤k_→(fun k_=>(P0_4_ k_∨w.heap.size≤k_)∧k_≠gb822) k_ from fun k_ hk=>⟨(.inr (Nat.le_trans (below_size (bl_ HB).out) hk)),Kd.freshB (bk_ BK822).out k_ hk⟩) _ (Nat.le_refl _)) (Below.refl _ _) (Nat.le_refl _) (by simp) ?_;(case hd=>rfl);(case hg=>rfl);(case hr=>first|(go_simp;done)|(go_simp;rfl));(case hp=>exact(Reps.one (show Kd.FK (Kd.slice 46 k46) _ _ y824 [.slice Ao31 y824.length co31] from(Kd.FK_slice_mk (Kd.N_reads' (Kd.N_mono (ok':=(fun k_=>(P0_4_ k_∨w.heap.size≤k_)∧k_≠gb822)) (HO826.out) (fun k_ hk=>⟨hk.1,hk.2⟩))).2.1 (Kd.N_F (Kd.N_mono (ok':=(fun k_=>(P0_4_ k_∨w.heap.size≤k_)∧k_≠gb822)) (HO826.out) (fun k_ hk=>⟨hk.1,hk.2⟩))))) (Reps.none _ _)));intro v828 w32 ho33 hb hg_ hnew_;clear hg_ hnew_;(first|rw[← Ny827.out] at ho33|(simp only[Int.reduceToNat] at ho33;rw[← Ny827.out] at ho33));have n0_:=Aside0.mk (Kd.V_elder' (krV_ HO_823004) (Kd.N_base ho33) hb);have n1_:=Aside0.mk (Kd.N_lower ho33 (below_size (bl_ HB).out));have n2_:=bb_ BK822 hb;have n3_:=Aside0.mk (below_step (bl_ HB).out hb);clear HO_823004;clear BK822;clear HB;clear HO826;have HO_823004:=n0_;have HO829:=n1_;have BK822:=n2_;have HB:=n3_;clear n0_ n1_ n2_ n3_;clear hb ho33;obtain⟨Ao34,co34,eo34⟩:=Kd.N_slice HO829.out;subst eo34)|((with_reducible refine gate_dst (N:=41) rfl ?_);(try (refine gate_guard (by rfl) ?_;dsimp only));refine Kd.N_lit k50 _ 50 ?hg (N':=41) ?hd (xs:=([(⟨1,0,0,y827⟩:S50)]:List (S50))) (inner:=[.int .i64 1,.int .i64 0,.int .i64 0,.slice Ao34 y827.length co34]) (ok:=(fun k_=>(P0_4_ k_∨w.heap.size≤k_)∧k_≠gb822)) (okp:=(fun k_=>(P0_4_ k_∨w.heap.size≤k_)∧k_≠gb822)) ?hr ?hp (fun _ hk=>hk) ((show ∀k_,w32.heap.size≤k_→(fun k_=>(P0_4_ k_∨w.heap.size≤k_)∧k_≠gb822) k_ from fun k_ hk=>⟨(.inr (Nat.le_trans (below_size (bl_ HB).out) hk)),Kd.freshB (bk_ BK822).out k_ hk⟩) _ (Nat.le_refl _)) (Below.refl _ _) (Nat.le_refl _) (by simp) ?_;(case hd=>rfl);(case hg=>rfl);(case hr=>first|(go_simp;done)|(go_simp;rfl));(case hp=>exact(Reps.c4 (show Kd.FK k50 _ _ (⟨1,0,0,y827⟩:S50) [.int .i64 1,.int .i64 0,.int .i64 0,.slice Ao34 y827.length co34] from(k50_mkF _ _ (⟨1,0,0,y827⟩:S50) (Kd.N_reads' (Kd.N_mono (ok':=(fun k_=>(P0_4_ k_∨w.heap.size≤k_)∧k_≠gb822)) (HO829.out) (fun k_ hk=>⟨hk.1,hk.2⟩))).2.1 (Kd.N_F (Kd.N_mono (ok':=(fun k_=>(P0_4_ k_∨w.heap.size≤k_)∧k_≠gb822)) (HO829.out) (fun k_ hk=>⟨hk.1,hk.2⟩))))) (Reps.none _ _)));intro v831 w35 ho36 hb hg_ hnew_;clear hg_ hnew_;(first|rw[← Ny830.out] at ho36|(simp only[Int.reduceToNat] at ho36;rw[← Ny830.out] at ho36));have n0_:=Aside0.mk (Kd.V_elder' (krV_ HO_823004) (Kd.N_base ho36) hb);have n1_:=Aside0.mk (Kd.N_lower ho36 (below_size (bl_ HB).out));have n2_:=bb_ BK822 hb;have n3_:=Aside0.mk (below_step (bl_ HB).out hb);clear HO_823004;clear BK822;clear HB;clear HO829;have HO_823004:=n0_;have HO832:=n1_;have BK822:=n2_;have HB:=n3_;clear n0_ n1_ n2_ n3_;clear hb ho36;obtain⟨Ao37,co37,eo37⟩:=Kd.N_slice HO832.out;subst eo37)|((with_reducible refine gate_callee (f:=12) rfl ?_);refine gl_ (some 42) Tryz.func12 #[.slice Ao37 y830.length co37,.int .i64 0] ?_;(with_reducible refine(florinlaw06_All.calls _ (fun k_=>((P0_4_ k_∨w.heap.size≤k_)∧k_≠gb822)) _ _ _ _ _ _ _ ?side1 A18.out).mono ?_);(case side1=>exact Kd.N_V (HO832.out));rintro e w38 ⟨v834,rfl,ho0,hb⟩;refine⟨_,rfl,?_⟩;have n0_:=Aside0.mk (Kd.V_elder' (krV_ HO_823004) (Kd.N_base ho0) hb);have n1_:=Aside0.mk (Kd.N_elder' (krN_ HO832) (Kd.N_base ho0) hb);have n2_:=Aside0.mk (Kd.N_lower (Kd.N_mono (ok':=fun k_=>(P0_4_ k_∨w.heap.size≤k_)∧k_≠gb822) ho0 (fun k_ hk_=>⟨Or.elim hk_ (fun hs_=>hs_.1) (fun hn_=>(.inr (Nat.le_trans (below_size (bl_ HB).out) hn_))),Or.elim hk_ (fun hs_=>hs_.2) (fun hn_=>(Kd.freshB (bk_ BK822).out k_ hn_))⟩)) (below_size (bl_ HB).out));have n3_:=bb_ BK822 hb;have n4_:=Aside0.mk (below_step (bl_ HB).out hb);clear HO_823004;clear HO832;clear BK822;clear HB;have HO_823004:=n0_;have HO832:=n1_;have HO835:=n2_;have BK822:=n3_;have HB:=n4_;clear n0_ n1_ n2_ n3_ n4_;(try clear hb);(try clear ho0);obtain⟨Ao39,co39,eo39⟩:=Kd.N_slice HO835.out;subst eo39;have p837:0≤(0:Int):=(by omega);have q837:0<(t833.length:Int):=od_;obtain⟨ad837,A837_1,c837_1,e837,hx837_0,hx837_1,hx837_2,hl837_1,hi837_1⟩:=at_T41 (Kd.N_reads' HO835.out).2.2 0 p837 q837;cases e837;obtain⟨ce837,hce837,hMe837,hcc837⟩:=Kd.N_get HO835.out z41 0 p837 (by first|exact q837|exact od_|(have e_:=(Kd.N_reads' HO835.out).1;omega));obtain⟨ua837_1,uc837_1,rfl,ul837_1,ge837_1⟩:=k41_openF hMe837;have hv837_1:=hcc837 1 _ rfl;rw[add_field _ _ 1 (by omega)] at hv837_1;replace hv837_1:=Option.some.inj (hv837_1.symm.trans hx837_1);injection hv837_1 with hva_ hvn_ hvc_;rw[hva_] at ge837_1;rw[hvc_] at ul837_1;have HL837_1:=Aside0.mk (show Kd.V (Kd.slice 53 k53) 54 _ w.heap.size _ _ ((rd_T41 t833 0).f1) from Kd.V_mk ul837_1 ge837_1);clear hva_ hvn_ hvc_ ge837_1 ul837_1;clear hcc837 hce837;have qi837:(0<t833.length)=True:=eq_true (by omega);(try rw[show((0:Int)).toNat=0 from rfl] at hx837_0);(try rw[show 0*3=0 from rfl] at hx837_0);(try rw[Addr.add_zero'] at hx837_0);(try rw[show((0:Int)).toNat=0 from rfl] at hx837_1);(try rw[show 0*3=0 from rfl] at hx837_1);(try rw[Addr.add_zero'] at hx837_1);(try rw[show((0:Int)).toNat=0 from rfl] at hx837_2);(try rw[show 0*3=0 from rfl] at hx837_2);(try rw[Addr.add_zero'] at hx837_2);have HR837_1:=Aside0.mk hi837_1;have HC837_1:=Aside0.mk hl837_1;clear hi837_1 hl837_1;replace p837:=eq_true p837;replace q837:=eq_true q837;have p838:0≤(0:Int):=(by omega);have q838:0<(((rd_T41 t833 0).f1).length:Int):=od_;obtain⟨ad838,A838_0,c838_0,e838,hx838_0,hl838_0,hi838_0⟩:=at_L7 (by repeat(first|(with_reducible exact HR837_1.out)|(with_reducible refine Kd.C_alloc ?_ _)|(with_reducible refine Kd.C_drewN ?_ _)|(with_reducible refine Kd.C_drew ?_)|exact HR837_1.out)) 0 p838 q838;cases e838;obtain⟨ce838,hce838,hMe838,hcc838⟩:=Kd.V_get HL837_1.out [] 0 p838 (by first|exact q838|exact od_|(have e_:=(Kd.V_reads' HL837_1.out).1;omega));obtain⟨ua838_0,uc838_0,rfl,ul838_0,ge838_0⟩:=Kd.FK_slice_open hMe838;have hv838_0:=hcc838 0 _ rfl;rw[Nat.add_zero,show((Kd.slice 53 k53)).sz=1 from rfl,Nat.mul_one] at hv838_0;replace hv838_0:=Option.some.inj (hv838_0.symm.trans hx838_0);injection hv838_0 with hva_ hvn_ hvc_;rw[hva_] at ge838_0;rw[hvc_] at ul838_0;have HL838_0:=Aside0.mk (show Kd.V k53 53 _ w.heap.size _ _ (rd_L7 ((rd_T41 t833 0).f1) 0) from Kd.V_mk ul838_0 ge838_0);clear hva_ hvn_ hvc_ ge838_0 ul838_0;clear hcc838 hce838;have qi838:(0<((rd_T41 t833 0).f1).length)=True:=eq_true (by omega);(try rw[show((0:Int)).toNat=0 from rfl] at hx838_0);(try rw[Addr.add_zero'] at hx838_0);have HR838_0:=Aside0.mk hi838_0;have HC838_0:=Aside0.mk hl838_0;clear hi838_0 hl838_0;replace p838:=eq_true p838;replace q838:=eq_true q838;have p839:0≤(0:Int):=(by omega);have q839:0<((rd_L7 ((rd_T41 t833 0).f1) 0).length:Int):=od_;obtain⟨ad839,A839_3,c839_3,e839,hx839_0,hx839_1,hx839_2,hx839_3,hl839_3,hi839_3⟩:=at_T53 (by repeat(first|(with_reducible exact HR838_0.out)|(with_reducible refine Kd.C_alloc ?_ _)|(with_reducible refine Kd.C_drewN ?_ _)|(with_reducible refine Kd.C_drew ?_)|exact HR838_0.out)) 0 p839 q839;cases e839;obtain⟨ce839,hce839,hMe839,hcc839⟩:=Kd.V_get HL838_0.out z53 0 p839 (by first|exact q839|exact od_|(have e_:=(Kd.V_reads' HL838_0.out).1;omega));obtain⟨ua839_3,uc839_3,rfl,ul839_3,ge839_3⟩:=k53_openF hMe839;have hv839_3:=hcc839 3 _ rfl;rw[add_field _ _ 3 (by omega)] at hv839_3;replace hv839_3:=Option.some.inj (hv839_3.symm.trans hx839_3);injection hv839_3 with hva_ hvn_ hvc_;rw[hva_] at ge839_3;rw[hvc_] at ul839_3;have HL839_3:=Aside0.mk (show Kd.V k57 57 _ w.heap.size _ _ ((rd_T53 (rd_L7 ((rd_T41 t833 0).f1) 0) 0).f3) from Kd.V_mk ul839_3 ge839_3);clear hva_ hvn_ hvc_ ge839_3 ul839_3;clear hcc839 hce839;have qi839:(0<(rd_L7 ((rd_T41 t833 0).f1) 0).length)=True:=eq_true (by omega);(try rw[show((0:Int)).toNat=0 from rfl] at hx839_0);(try rw[show 0*4=0 from rfl] at hx839_0);(try rw[Addr.add_zero'] at hx839_0);(try rw[show((0:Int)).toNat=0 from rfl] at hx839_1);(try rw[show 0*4=0 from rfl] at hx839_1);(try rw[Addr.add_zero'] at hx839_1);(try rw[show((0:Int)).toNat=0 from rfl] at hx839_2);(try rw[show 0*4=0 from rfl] at hx839_2);(try rw[Addr.add_zero'] at hx839_2);(try rw[show((0:Int)).toNat=0 from rfl] at hx839_3);(try rw[show 0*4=0 from rfl] at hx839_3);(try rw[Addr.add_zero'] at hx839_3);have HR839_3:=Aside0.mk hi839_3;have HC839_3:=Aside0.mk hl839_3;clear hi839_3 hl839_3;replace p839:=eq_true p839;replace q839:=eq_true q839)|((with_reducible refine gate_dst (N:=15) rfl ?_);(try (refine gate_guard (by rfl) ?_;dsimp only));refine be_ 15 #[.int .u8 0,.int .i64 0,.bool false,.slice none 0 0] 53 ?_;intro gb840 hg w40 hbox hb;have BK840:=Aside0.mk (hbox);have GW840:=sz_ HB hg;have GE840:=sz_ HB hg;have NB822_840:=na_ BK822 hg;have NB840_822:=nb_ BK822 hg;replace HO_823004:=Aside0.mk (Kd.V_below (Kd.V_elderB (krV_ HO_823004) gb840 (Nat.le_of_eq hg.symm)) hb);replace HO832:=Aside0.mk (Kd.N_below (Kd.N_elderB (krN_ HO832) gb840 (Nat.le_of_eq hg.symm)) hb);replace HO835:=Aside0.mk (Kd.N_below (Kd.N_elderB (krN_ HO835) gb840 (Nat.le_of_eq hg.symm)) hb);replace HL837_1:=Aside0.mk (Kd.V_below (Kd.V_elderB (krV_ HL837_1) gb840 (Nat.le_of_eq hg.symm)) hb);replace HL838_0:=Aside0.mk (Kd.V_below (Kd.V_elderB (krV_ HL838_0) gb840 (Nat.le_of_eq hg.symm)) hb);replace HL839_3:=Aside0.mk (Kd.V_below (Kd.V_elderB (krV_ HL839_3) gb840 (Nat.le_of_eq hg.symm)) hb);replace BK822:=bb_ BK822 hb;replace HR837_1:=Aside0.mk (Kd.C_below (by repeat(first|(with_reducible exact HR837_1.out)|(with_reducible refine Kd.C_alloc ?_ _)|(with_reducible refine Kd.C_drewN ?_ _)|(with_reducible refine Kd.C_drew ?_)|exact HR837_1.out)) hb);replace HR838_0:=Aside0.mk (Kd.C_below (by repeat(first|(with_reducible exact HR838_0.out)|(with_reducible refine Kd.C_alloc ?_ _)|(with_reducible refine Kd.C_drewN ?_ _)|(with_reducible refine Kd.C_drew ?_)|exact HR838_0.out)) hb);replace HR839_3:=Aside0.mk (Kd.C_below (by repeat(first|(with_reducible exact HR839_3.out)|(with_reducible refine Kd.C_alloc ?_ _)|(with_reducible refine Kd.C_drewN ?_ _)|(with_reducible refine Kd.C_drew ?_)|exact HR839_3.out)) hb);replace HB:=Aside0.mk (below_step (bl_ HB).out hb);clear hb hbox hg;have hnb41:=NB840_822.out;have hnc41:=NB822_840.out;obtain⟨hcz42_0,hcz42_1,hcz42_2,hcz42_3,hfz42_0,hfz42_1,hfz42_2,hfz42_3⟩:=bo4_ BK840)|((with_reducible refine gate_callee (f:=11) rfl ?_);refine gl_ (some 55) Tryz.func11 #[.slice A3 l3.length c3,.slice A4 l4.length c4] ?_;(with_reducible refine(florinlaw05_Shown.calls _ _ _ _ _ _ _ _ _ _ _ ?side1 ?side2 ?side3 ?side4 A22.out).mono ?_);(case side1=>exact Kd.C_below HR3.out (bl_ HB).out);(case side2=>exact HC3.out);(case side3=>exact Kd.C_below HR4.out (bl_ HB).out);(case side4=>exact HC4.out);rintro e w43 ⟨rfl,hb⟩;refine⟨_,rfl,?_⟩;have n0_:=Aside0.mk (Kd.V_below (kdV_ ((Kd.V_mono (Kd.V_far (Kd.V_far (Kd.V_far (Kd.V_far (Kd.V_mono HO_823004.out (fun k_ hk=>(⟨hk,hk.2⟩:_∧k_≠gb840))) (fun _ hk=>hk.2) _) (fun _ hk=>hk.2) _) (fun _ hk=>hk.2) _) (fun _ hk=>hk.2) _) (fun _ h_=>h_.1)))) hb);have n1_:=Aside0.mk (Kd.N_below (kdN_ ((Kd.N_mono (Kd.N_far (Kd.N_far (Kd.N_far (Kd.N_far (Kd.N_mono HO832.out (fun k_ hk=>(⟨hk,hk.2⟩:_∧k_≠gb840))) (fun _ hk=>hk.2) _) (fun _ hk=>hk.2) _) (fun _ hk=>hk.2) _) (fun _ hk=>hk.2) _) (fun _ h_=>h_.1)))) hb);have n2_:=Aside0.mk (Kd.N_below (kdN_ ((Kd.N_mono (Kd.N_far (Kd.N_far (Kd.N_far (Kd.N_far (Kd.N_mono HO835.out (fun k_ hk=>(⟨hk,hk.2⟩:_∧k_≠gb840))) (fun _ hk=>hk.2) _) (fun _ hk=>hk.2) _) (fun _ hk=>hk.2) _) (fun _ hk=>hk.2) _) (fun _ h_=>h_.1)))) hb);have n3_:=Aside0.mk (Kd.V_below (kdV_ ((Kd.V_mono (Kd.V_far (Kd.V_far (Kd.V_far (Kd.V_far (Kd.V_mono HL837_1.out (fun k_ hk=>(⟨hk,hk.2⟩:_∧k_≠gb840))) (fun _ hk=>hk.2) _) (fun _ hk=>hk.2) _) (fun _ hk=>hk.2) _) (fun _ hk=>hk.2) _) (fun _ h_=>h_.1)))) hb);have n4_:=Aside0.mk (Kd.V_below (kdV_ ((Kd.V_mono (Kd.V_far (Kd.V_far (Kd.V_far (Kd.V_far (Kd.V_mono HL838_0.out (fun k_ hk=>(⟨hk,hk.2⟩:_∧k_≠gb840))) (fun _ hk=>hk.2) _) (fun _ hk=>hk.2) _) (fun _ hk=>hk.2) _) (fun _ hk=>hk.2) _) (fun _ h_=>h_.1)))) hb);have n5_:=Aside0.mk (Kd.V_below (kdV_ ((Kd.V_mono (Kd.V_far (Kd.V_far (Kd.V_far (Kd.V_far (Kd.V_mono HL839_3.out (fun k_ hk=>(⟨hk,hk.2⟩:_∧k_≠gb840))) (fun _ hk=>hk.2) _) (fun _ hk=>hk.2) _) (fun _ hk=>hk.2) _) (fun _ hk=>hk.2) _) (fun _ h_=>h_.1)))) hb);have n6_:=bz_ BK822 hb;have n7_:=Aside0.mk (Kd.C_below ((Kd.V_reads' (kdV_ ((Kd.V_mono (Kd.V_far (Kd.V_far (Kd.V_far (Kd.V_far (Kd.V_mono HL837_1.out (fun k_ hk=>(⟨hk,hk.2⟩:_∧k_≠gb840))) (fun _ hk=>hk.2) _) (fun _ hk=>hk.2) _) (fun _ hk=>hk.2) _) (fun _ hk=>hk.2) _) (fun _ h_=>h_.1))))).2.2) hb);have n8_:=Aside0.mk (Kd.C_below ((Kd.V_reads' (kdV_ ((Kd.V_mono (Kd.V_far (Kd.V_far (Kd.V_far (Kd.V_far (Kd.V_mono HL838_0.out (fun k_ hk=>(⟨hk,hk.2⟩:_∧k_≠gb840))) (fun _ hk=>hk.2) _) (fun _ hk=>hk.2) _) (fun _ hk=>hk.2) _) (fun _ hk=>hk.2) _) (fun _ h_=>h_.1))))).2.2) hb);have n9_:=Aside0.mk (Kd.C_below ((Kd.V_reads' (kdV_ ((Kd.V_mono (Kd.V_far (Kd.V_far (Kd.V_far (Kd.V_far (Kd.V_mono HL839_3.out (fun k_ hk=>(⟨hk,hk.2⟩:_∧k_≠gb840))) (fun _ hk=>hk.2) _) (fun _ hk=>hk.2) _) (fun _ hk=>hk.2) _) (fun _ hk=>hk.2) _) (fun _ h_=>h_.1))))).2.2) hb);have n10_:=Aside0.mk (blk_below (g:=gb840) (o:= .cells #[.int .u8 ((rd_T53 (rd_L7 ((rd_T41 t833 0).f1) 0) 0).f0),.int .i64 ((rd_T53 (rd_L7 ((rd_T41 t833 0).f1) 0) 0).f1),.bool ((rd_T53 (rd_L7 ((rd_T41 t833 0).f1) 0) 0).f2),.slice A839_3 ((rd_T53 (rd_L7 ((rd_T41 t833 0).f1) 0) 0).f3).length c839_3] 53 (0,0)) ((bp_ BK840).out) hb);have n11_:=Aside0.mk (below_step (bl_ HB).out hb);clear HO_823004;clear HO832;clear HO835;clear HL837_1;clear HL838_0;clear HL839_3;clear BK822;clear HR837_1;clear HR838_0;clear HR839_3;clear BK840;clear HB;have HO_823004:=n0_;have HO832:=n1_;have HO835:=n2_;have HL837_1:=n3_;have HL838_0:=n4_;have HL839_3:=n5_;have BK822:=n6_;have HR837_1:=n7_;have HR838_0:=n8_;have HR839_3:=n9_;have BK840:=n10_;have HB:=n11_;clear n0_ n1_ n2_ n3_ n4_ n5_ n6_ n7_ n8_ n9_ n10_ n11_;(try clear hb);(try clear hi))|((with_reducible refine gate_callee (f:=10) rfl ?_);refine gl_ (some 58) Tryz.func10 #[.agg #[.bool t841,.string t842,.string t843],.int .i64 (Go.bits .and .i64 a5 15)] ?_;(with_reducible refine(operand_Of.calls _ _ _ _ _ _ _ _ _ A23.out).mono ?_);rintro e w44 ⟨rfl,hb⟩;refine⟨_,rfl,?_⟩;replace HO_823004:=Aside0.mk (Kd.V_below (krV_ HO_823004) hb);replace HO832:=Aside0.mk (Kd.N_below (krN_ HO832) hb);replace HO835:=Aside0.mk (Kd.N_below (krN_ HO835) hb);replace HL837_1:=Aside0.mk (Kd.V_below (krV_ HL837_1) hb);replace HL838_0:=Aside0.mk (Kd.V_below (krV_ HL838_0) hb);replace HL839_3:=Aside0.mk (Kd.V_below (krV_ HL839_3) hb);replace BK822:=bb_ BK822 hb;replace HR837_1:=Aside0.mk (Kd.C_below (by repeat(first|(with_reducible exact HR837_1.out)|(with_reducible refine Kd.C_alloc ?_ _)|(with_reducible refine Kd.C_drewN ?_ _)|(with_reducible refine Kd.C_drew ?_)|exact HR837_1.out)) hb);replace HR838_0:=Aside0.mk (Kd.C_below (by repeat(first|(with_reducible exact HR838_0.out)|(with_reducible refine Kd.C_alloc ?_ _)|(with_reducible refine Kd.C_drewN ?_ _)|(with_reducible refine Kd.C_drew ?_)|exact HR838_0.out)) hb);replace HR839_3:=Aside0.mk (Kd.C_below (by repeat(first|(with_reducible exact HR839_3.out)|(with_reducible refine Kd.C_alloc ?_ _)|(with_reducible refine Kd.C_drewN ?_ _)|(with_reducible refine Kd.C_drew ?_)|exact HR839_3.out)) hb);replace BK840:=bb_ BK840 hb;replace HB:=Aside0.mk (below_step (bl_ HB).out hb);(try clear hb);(try clear hi))|((with_reducible refine gate_dst (N:=16) rfl ?_);(try (refine gate_guard (by rfl) ?_;dsimp only));refine be_ 16 #[.string (⟨#[]⟩:ByteArray),.string (⟨#[]⟩:ByteArray),.int .i64 0] 27 ?_;intro gb847 hg w45 hbox hb;have BK847:=Aside0.mk (hbox);have GW847:=sz_ HB hg;have GE847:=sz_ HB hg;have NB822_847:=na_ BK822 hg;have NB847_822:=nb_ BK822 hg;have NB840_847:=na_ BK840 hg;have NB847_840:=nb_ BK840 hg;replace HO_823004:=Aside0.mk (Kd.V_below (Kd.V_elderB (krV_ HO_823004) gb847 (Nat.le_of_eq hg.symm)) hb);replace HO832:=Aside0.mk (Kd.N_below (Kd.N_elderB (krN_ HO832) gb847 (Nat.le_of_eq hg.symm)) hb);replace HO835:=Aside0.mk (Kd.N_below (Kd.N_elderB (krN_ HO835) gb847 (Nat.le_of_eq hg.symm)) hb);replace HL837_1:=Aside0.mk (Kd.V_below (Kd.V_elderB (krV_ HL837_1) gb847 (Nat.le_of_eq hg.symm)) hb);replace HL838_0:=Aside0.mk (Kd.V_below (Kd.V_elderB (krV_ HL838_0) gb847 (Nat.le_of_eq hg.symm)) hb);replace HL839_3:=Aside0.mk (Kd.V_below (Kd.V_elderB (krV_ HL839_3) gb847 (Nat.le_of_eq hg.symm)) hb);replace BK822:=bb_ BK822 hb;replace HR837_1:=Aside0.mk (Kd.C_below (by repeat(first|(with_reducible exact HR837_1.out)|(with_reducible refine Kd.C_alloc ?_ _)|(with_reducible refine Kd.C_drewN ?_ _)|(with_reducible refine Kd.C_drew ?_)|exact HR837_1.out)) hb);replace HR838_0:=Aside0.mk (Kd.C_below (by repeat(first|(with_reducible exact HR838_0.out)|(with_reducible refine Kd.C_alloc ?_ _)|(with_reducible refine Kd.C_drewN ?_ _)|(with_reducible refine Kd.C_drew ?_)|exact HR838_0.out)) hb);replace HR839_3:=Aside0.mk (Kd.C_below (by repeat(first|(with_reducible exact HR839_3.out)|(with_reducible refine Kd.C_alloc ?_ _)|(with_reducible refine Kd.C_drewN ?_ _)|(with_reducible refine Kd.C_drew ?_)|exact HR839_3.out)) hb);replace BK840:=bb_ BK840 hb;replace HB:=Aside0.mk (below_step (bl_ HB).out hb);clear hb hbox hg;have hnb46:=NB847_822.out;have hnc46:=NB822_847.out;have hnb47:=NB847_840.out;have hnc47:=NB840_847.out;obtain⟨hcz48_0,hcz48_1,hcz48_2,hfz48_0,hfz48_1,hfz48_2⟩:=bo3_ BK847;obtain⟨hcz49_0,hcz49_1,hcz49_2,hcz49_3,hfz49_0,hfz49_1,hfz49_2,hfz49_3⟩:=bo4_ BK840)|((with_reducible refine gate_dst (N:=17) rfl ?_);(try (refine gate_guard (by rfl) ?_;dsimp only));refine be_ 17 #[.int .u8 0,.int .i64 0,.bool false,.slice none 0 0] 53 ?_;intro gb848 hg w50 hbox hb;have n0_:=Aside0.mk (Kd.V_below (Kd.V_elderB (kdV_ ((Kd.V_mono (Kd.V_far (Kd.V_far (Kd.V_far (Kd.V_mono HO_823004.out (fun k_ hk=>(⟨hk,hk.2⟩:_∧k_≠gb847))) (fun _ hk=>hk.2) _) (fun _ hk=>hk.2) _) (fun _ hk=>hk.2) _) (fun _ h_=>h_.1)))) gb848 (Nat.le_of_eq hg.symm)) hb);have n1_:=Aside0.mk (Kd.N_below (Kd.N_elderB (kdN_ ((Kd.N_mono (Kd.N_far (Kd.N_far (Kd.N_far (Kd.N_mono HO832.out (fun k_ hk=>(⟨hk,hk.2⟩:_∧k_≠gb847))) (fun _ hk=>hk.2) _) (fun _ hk=>hk.2) _) (fun _ hk=>hk.2) _) (fun _ h_=>h_.1)))) gb848 (Nat.le_of_eq hg.symm)) hb);have n2_:=Aside0.mk (Kd.N_below (Kd.N_elderB (kdN_ ((Kd.N_mono (Kd.N_far (Kd.N_far (Kd.N_far (Kd.N_mono HO835.out (fun k_ hk=>(⟨hk,hk.2⟩:_∧k_≠gb847))) (fun _ hk=>hk.2) _) (fun _ hk=>hk.2) _) (fun _ hk=>hk.2) _) (fun _ h_=>h_.1)))) gb848 (Nat.le_of_eq hg.symm)) hb);have n3_:=Aside0.mk (Kd.V_below (Kd.V_elderB (kdV_ ((Kd.V_mono (Kd.V_far (Kd.V_far (Kd.V_far (Kd.V_mono HL837_1.out (fun k_ hk=>(⟨hk,hk.2⟩:_∧k_≠gb847))) (fun _ hk=>hk.2) _) (fun _ hk=>hk.2) _) (fun _ hk=>hk.2) _) (fun _ h_=>h_.1)))) gb848 (Nat.le_of_eq hg.symm)) hb);have n4_:=Aside0.mk (Kd.V_below (Kd.V_elderB (kdV_ ((Kd.V_mono (Kd.V_far (Kd.V_far (Kd.V_far (Kd.V_mono HL838_0.out (fun k_ hk=>(⟨hk,hk.2⟩:_∧k_≠gb847))) (fun _ hk=>hk.2) _) (fun _ hk=>hk.2) _) (fun _ hk=>hk.2) _) (fun _ h_=>h_.1)))) gb848 (Nat.le_of_eq hg.symm)) hb);have n5_:=Aside0.mk (Kd.V_below (Kd.V_elderB (kdV_ ((Kd.V_mono (Kd.V_far (Kd.V_far (Kd.V_far (Kd.V_mono HL839_3.out (fun k_ hk=>(⟨hk,hk.2⟩:_∧k_≠gb847))) (fun _ hk=>hk.2) _) (fun _ hk=>hk.2) _) (fun _ hk=>hk.2) _) (fun _ h_=>h_.1)))) gb848 (Nat.le_of_eq hg.symm)) hb);have n6_:=bz_ BK822 hb;have n7_:=Aside0.mk (Kd.C_below ((Kd.V_reads' (kdV_ ((Kd.V_mono (Kd.V_far (Kd.V_far (Kd.V_far (Kd.V_mono HL837_1.out (fun k_ hk=>(⟨hk,hk.2⟩:_∧k_≠gb847))) (fun _ hk=>hk.2) _) (fun _ hk=>hk.2) _) (fun _ hk=>hk.2) _) (fun _ h_=>h_.1))))).2.2) hb);have n8_:=Aside0.mk (Kd.C_below ((Kd.V_reads' (kdV_ ((Kd.V_mono (Kd.V_far (Kd.V_far (Kd.V_far (Kd.V_mono HL838_0.out (fun k_ hk=>(⟨hk,hk.2⟩:_∧k_≠gb847))) (fun _ hk=>hk.2) _) (fun _ hk=>hk.2) _) (fun _ hk=>hk.2) _) (fun _ h_=>h_.1))))).2.2) hb);have n9_:=Aside0.mk (Kd.C_below ((Kd.V_reads' (kdV_ ((Kd.V_mono (Kd.V_far (Kd.V_far (Kd.V_far (Kd.V_mono HL839_3.out (fun k_ hk=>(⟨hk,hk.2⟩:_∧k_≠gb847))) (fun _ hk=>hk.2) _) (fun _ hk=>hk.2) _) (fun _ hk=>hk.2) _) (fun _ h_=>h_.1))))).2.2) hb);have n10_:=bz_ BK840 hb;have n11_:=Aside0.mk (blk_below (g:=gb847) (o:= .cells #[.string t844,.string t845,.int .i64 t846] 27 (0,0)) ((bp_ BK847).out) hb);have n12_:=Aside0.mk (below_step (bl_ HB).out hb);have n13_:=Aside0.mk (hbox);have n14_:=sz_ HB hg;have n15_:=sz_ HB hg;have n16_:=Aside0.mk ((by rw[hg];exact Nat.ne_of_lt (blk_lt (g:=gb822) (o:= .cells #[.int .i64 a0_0,.int .i64 a0_1,.int .i64 a0_2,.bool a0_3,.slice A0_4 l0_4.length c0_4] 46 (0,0)) ((bf_ BK822).out)):gb822≠gb848));have n17_:=Aside0.mk ((by rw[hg];exact Nat.ne_of_gt (blk_lt (g:=gb822) (o:= .cells #[.int .i64 a0_0,.int .i64 a0_1,.int .i64 a0_2,.bool a0_3,.slice A0_4 l0_4.length c0_4] 46 (0,0)) ((bf_ BK822).out)):gb848≠gb822));have n18_:=Aside0.mk ((by rw[hg];exact Nat.ne_of_lt (blk_lt (g:=gb840) (o:= .cells #[.int .u8 ((rd_T53 (rd_L7 ((rd_T41 t833 0).f1) 0) 0).f0),.int .i64 ((rd_T53 (rd_L7 ((rd_T41 t833 0).f1) 0) 0).f1),.bool ((rd_T53 (rd_L7 ((rd_T41 t833 0).f1) 0) 0).f2),.slice A839_3 ((rd_T53 (rd_L7 ((rd_T41 t833 0).f1) 0) 0).f3).length c839_3] 53 (0,0)) ((bf_ BK840).out)):gb840≠gb848));have n19_:=Aside0.mk ((by rw[hg];exact Nat.ne_of_gt (blk_lt (g:=gb840) (o:= .cells #[.int .u8 ((rd_T53 (rd_L7 ((rd_T41 t833 0).f1) 0) 0).f0),.int .i64 ((rd_T53 (rd_L7 ((rd_T41 t833 0).f1) 0) 0).f1),.bool ((rd_T53 (rd_L7 ((rd_T41 t833 0).f1) 0) 0).f2),.slice A839_3 ((rd_T53 (rd_L7 ((rd_T41 t833 0).f1) 0) 0).f3).length c839_3] 53 (0,0)) ((bf_ BK840).out)):gb848≠gb840));have n20_:=Aside0.mk ((by rw[hg];exact Nat.ne_of_lt (blk_lt (g:=gb847) (o:= .cells #[.string t844,.string t845,.int .i64 t846] 27 (0,0)) ((bp_ BK847).out)):gb847≠gb848));have n21_:=Aside0.mk ((by rw[hg];exact Nat.ne_of_gt (blk_lt (g:=gb847) (o:= .cells #[.string t844,.string t845,.int .i64 t846] 27 (0,0)) ((bp_ BK847).out)):gb848≠gb847));clear HO_823004;clear HO832;clear HO835;clear HL837_1;clear HL838_0;clear HL839_3;clear BK822;clear HR837_1;clear HR838_0;clear HR839_3;clear BK840;clear BK847;clear HB;have HO_823004:=n0_;have HO832:=n1_;have HO835:=n2_;have HL837_1:=n3_;have HL838_0:=n4_;have HL839_3:=n5_;have BK822:=n6_;have HR837_1:=n7_;have HR838_0:=n8_;have HR839_3:=n9_;have BK840:=n10_;have BK847:=n11_;have HB:=n12_;have BK848:=n13_;have GW848:=n14_;have GE848:=n15_;have NB822_848:=n16_;have NB848_822:=n17_;have NB840_848:=n18_;have NB848_840:=n19_;have NB847_848:=n20_;have NB848_847:=n21_;clear n0_ n1_ n2_ n3_ n4_ n5_ n6_ n7_ n8_ n9_ n10_ n11_ n12_ n13_ n14_ n15_ n16_ n17_ n18_ n19_ n20_ n21_;clear hb hbox hg;have hnb51:=NB848_822.out;have hnc51:=NB822_848.out;have hnb52:=NB848_840.out;have hnc52:=NB840_848.out;have hnb53:=NB848_847.out;have hnc53:=NB847_848.out;obtain⟨hcz54_0,hcz54_1,hcz54_2,hcz54_3,hfz54_0,hfz54_1,hfz54_2,hfz54_3⟩:=bo4_ BK848;obtain⟨hcz55_0,hcz55_1,hcz55_2,hcz55_3,hfz55_0,hfz55_1,hfz55_2,hfz55_3⟩:=bo4_ BK840))
     obtain⟨w56,hWz1⟩:∃W_,W_=(((((w50.setCell ⟨gb848,0,none⟩ (.int .u8 ((rd_T53 (rd_L7 ((rd_T41 t833 0).f1) 0) 0).f0))).setCell ⟨gb848,1,none⟩ (.int .i64 ((rd_T53 (rd_L7 ((rd_T41 t833 0).f1) 0) 0).f1))).setCell ⟨gb848,2,none⟩ (.bool ((rd_T53 (rd_L7 ((rd_T41 t833 0).f1) 0) 0).f2))).setCell ⟨gb848,3,none⟩ (.slice A839_3 ((rd_T53 (rd_L7 ((rd_T41 t833 0).f1) 0) 0).f3).length c839_3)).setCell ⟨gb848,2,none⟩ (.bool (!((rd_T53 (rd_L7 ((rd_T41 t833 0).f1) 0) 0).f2)))):=⟨_,rfl⟩
     have n0_:Aside0 (Kd.V k139 139 w56 w.heap.size (fun k_=>(P0_4_ k_∨w.heap.size≤k_)∧some k_≠(.slice Ao37 y830.length co37:Value).ownBlock∧some k_≠(.slice (some ad837) t833.length co39:Value).ownBlock∧k_≠gb822∧k_≠gb840∧k_≠gb847∧k_≠gb848) (.slice A0_4 l0_4.length c0_4) l0_4):=by rw[hWz1];exact⟨kdV_ (Kd.V_mono (Kd.V_far (Kd.V_far (Kd.V_far (Kd.V_far (Kd.V_far (Kd.V_mono HO_823004.out (fun k_ hk=>(⟨hk,hk.2⟩:_∧k_≠gb848))) (fun _ hk=>hk.2) _) (fun _ hk=>hk.2) _) (fun _ hk=>hk.2) _) (fun _ hk=>hk.2) _) (fun _ hk=>hk.2) _) (fun _ hk=>⟨hk.1.1.1.1.1.1.1.1.1,⟨hk.1.1.1.1.1.2,⟨hk.1.1.1.1.2,⟨hk.1.1.1.1.1.1.1.1.2,⟨hk.1.1.1.2,⟨hk.1.1.2,hk.1.2⟩⟩⟩⟩⟩⟩))⟩
     have n1_:Aside0 (Kd.N k50 50 w56 w.heap.size (fun k_=>(P0_4_ k_∨w.heap.size≤k_)∧some k_≠(.slice (some ad837) t833.length co39:Value).ownBlock∧k_≠gb822∧k_≠gb840∧k_≠gb847∧k_≠gb848) (.slice Ao37 y830.length co37) y830):=by rw[hWz1];exact⟨kdN_ (Kd.N_mono (Kd.N_far (Kd.N_far (Kd.N_far (Kd.N_far (Kd.N_far (Kd.N_mono HO832.out (fun k_ hk=>(⟨hk,hk.2⟩:_∧k_≠gb848))) (fun _ hk=>hk.2) _) (fun _ hk=>hk.2) _) (fun _ hk=>hk.2) _) (fun _ hk=>hk.2) _) (fun _ hk=>hk.2) _) (fun _ hk=>⟨hk.1.1.1.1.1.1,⟨hk.1.1.1.1.2,⟨hk.1.1.1.1.1.2,⟨hk.1.1.1.2,⟨hk.1.1.2,hk.1.2⟩⟩⟩⟩⟩))⟩
     have n2_:Aside0 (Kd.N k41 41 w56 w.heap.size (fun k_=>(P0_4_ k_∨w.heap.size≤k_)∧k_≠gb822∧k_≠gb840∧k_≠gb847∧k_≠gb848) (.slice (some ad837) t833.length co39) t833):=by rw[hWz1];exact⟨kdN_ (Kd.N_mono (Kd.N_far (Kd.N_far (Kd.N_far (Kd.N_far (Kd.N_far (Kd.N_mono HO835.out (fun k_ hk=>(⟨hk,hk.2⟩:_∧k_≠gb848))) (fun _ hk=>hk.2) _) (fun _ hk=>hk.2) _) (fun _ hk=>hk.2) _) (fun _ hk=>hk.2) _) (fun _ hk=>hk.2) _) (fun _ hk=>⟨hk.1.1.1.1.1,⟨hk.1.1.1.1.2,⟨hk.1.1.1.2,⟨hk.1.1.2,hk.1.2⟩⟩⟩⟩))⟩
     have n3_:Aside0 (Kd.V (Kd.slice 53 k53) 54 w56 w.heap.size (fun k_=>(P0_4_ k_∨w.heap.size≤k_)∧some k_≠(.slice (some ad837) t833.length co39:Value).ownBlock∧k_≠gb822∧k_≠gb840∧k_≠gb847∧k_≠gb848) (.slice (some ad838) ((rd_T41 t833 0).f1).length c837_1) ((rd_T41 t833 0).f1)):=by rw[hWz1];exact⟨kdV_ (Kd.V_mono (Kd.V_far (Kd.V_far (Kd.V_far (Kd.V_far (Kd.V_far (Kd.V_mono HL837_1.out (fun k_ hk=>(⟨hk,hk.2⟩:_∧k_≠gb848))) (fun _ hk=>hk.2) _) (fun _ hk=>hk.2) _) (fun _ hk=>hk.2) _) (fun _ hk=>hk.2) _) (fun _ hk=>hk.2) _) (fun _ hk=>⟨hk.1.1.1.1.1.1,⟨hk.1.1.1.1.2,⟨hk.1.1.1.1.1.2,⟨hk.1.1.1.2,⟨hk.1.1.2,hk.1.2⟩⟩⟩⟩⟩))⟩
     have n4_:Aside0 (Kd.V k53 53 w56 w.heap.size (fun k_=>(P0_4_ k_∨w.heap.size≤k_)∧some k_≠(.slice (some ad837) t833.length co39:Value).ownBlock∧k_≠gb822∧k_≠gb840∧k_≠gb847∧k_≠gb848) (.slice (some ad839) (rd_L7 ((rd_T41 t833 0).f1) 0).length c838_0) (rd_L7 ((rd_T41 t833 0).f1) 0)):=by rw[hWz1];exact⟨kdV_ (Kd.V_mono (Kd.V_far (Kd.V_far (Kd.V_far (Kd.V_far (Kd.V_far (Kd.V_mono HL838_0.out (fun k_ hk=>(⟨hk,hk.2⟩:_∧k_≠gb848))) (fun _ hk=>hk.2) _) (fun _ hk=>hk.2) _) (fun _ hk=>hk.2) _) (fun _ hk=>hk.2) _) (fun _ hk=>hk.2) _) (fun _ hk=>⟨hk.1.1.1.1.1.1,⟨hk.1.1.1.1.2,⟨hk.1.1.1.1.1.2,⟨hk.1.1.1.2,⟨hk.1.1.2,hk.1.2⟩⟩⟩⟩⟩))⟩
     have n5_:Aside0 (Kd.V k57 57 w56 w.heap.size (fun k_=>(P0_4_ k_∨w.heap.size≤k_)∧some k_≠(.slice (some ad837) t833.length co39:Value).ownBlock∧k_≠gb822∧k_≠gb840∧k_≠gb847∧k_≠gb848) (.slice A839_3 ((rd_T53 (rd_L7 ((rd_T41 t833 0).f1) 0) 0).f3).length c839_3) ((rd_T53 (rd_L7 ((rd_T41 t833 0).f1) 0) 0).f3)):=by rw[hWz1];exact⟨kdV_ (Kd.V_mono (Kd.V_far (Kd.V_far (Kd.V_far (Kd.V_far (Kd.V_far (Kd.V_mono HL839_3.out (fun k_ hk=>(⟨hk,hk.2⟩:_∧k_≠gb848))) (fun _ hk=>hk.2) _) (fun _ hk=>hk.2) _) (fun _ hk=>hk.2) _) (fun _ hk=>hk.2) _) (fun _ hk=>hk.2) _) (fun _ hk=>⟨hk.1.1.1.1.1.1,⟨hk.1.1.1.1.2,⟨hk.1.1.1.1.1.2,⟨hk.1.1.1.2,⟨hk.1.1.2,hk.1.2⟩⟩⟩⟩⟩))⟩
     have n6_:=wh_ hWz1 (bf_ BK822)
     have n7_:=wh_ hWz1 (bf_ BK840)
     have n8_:=wh_ hWz1 (bf_ BK847)
     have n9_:Aside0 (w56.heap[gb848]? = some (.cells #[.int .u8 ((rd_T53 (rd_L7 ((rd_T41 t833 0).f1) 0) 0).f0),.int .i64 ((rd_T53 (rd_L7 ((rd_T41 t833 0).f1) 0) 0).f1),.bool (!((rd_T53 (rd_L7 ((rd_T41 t833 0).f1) 0) 0).f2)),.slice A839_3 ((rd_T53 (rd_L7 ((rd_T41 t833 0).f1) 0) 0).f3).length c839_3] 53 (0,0))):=by rw[hWz1];exact⟨(bp_ BK848).out⟩
     have n10_:=wb_ hWz1 (bl_ HB)
     (try clear HO_823004)
     (try clear HO832)
     (try clear HO835)
     (try clear HL837_1)
     (try clear HL838_0)
     (try clear HL839_3)
     (try clear BK822)
     (try clear BK840)
     (try clear BK847)
     (try clear BK848)
     (try clear HB)
     rw[← hWz1]
     clear hWz1
     have HO_823004:=n0_
     have HO832:=n1_
     have HO835:=n2_
     have HL837_1:=n3_
     have HL838_0:=n4_
     have HL839_3:=n5_
     have BK822:=n6_
     have BK840:=n7_
     have BK847:=n8_
     have BK848:=n9_
     have HB:=n10_
     clear n0_ n1_ n2_ n3_ n4_ n5_ n6_ n7_ n8_ n9_ n10_
     replace HO_823004:=Aside0.mk (Kd.V_drew HO_823004.out)
     replace HO832:=Aside0.mk (Kd.N_drew HO832.out)
     replace HO835:=Aside0.mk (Kd.N_drew HO835.out)
     replace HL837_1:=Aside0.mk (Kd.V_drew HL837_1.out)
     replace HL838_0:=Aside0.mk (Kd.V_drew HL838_0.out)
     replace HL839_3:=Aside0.mk (Kd.V_drew HL839_3.out)
     replace BK822:=Aside0.mk (blk_drew BK822.out)
     replace BK840:=Aside0.mk (blk_drew BK840.out)
     replace BK847:=Aside0.mk (blk_drew BK847.out)
     replace BK848:=Aside0.mk (blk_drew BK848.out)
     replace HB:=Aside0.mk (below_drew1 HB.out)
     refine start_ (n:=7) (S:=fun w'=>w'.cell? ⟨gb840,0,none⟩=some (.int .u8 ((rd_T53 (rd_L7 ((rd_T41 t833 0).f1) 0) 0).f0))∧w'.cell? ⟨gb840,1,none⟩=some (.int .i64 ((rd_T53 (rd_L7 ((rd_T41 t833 0).f1) 0) 0).f1))∧w'.cell? ⟨gb840,2,none⟩=some (.bool ((rd_T53 (rd_L7 ((rd_T41 t833 0).f1) 0) 0).f2))∧w'.cell? ⟨gb840,3,none⟩=some (.slice A839_3 ((rd_T53 (rd_L7 ((rd_T41 t833 0).f1) 0) 0).f3).length c839_3)∧w'.cell? ⟨gb847,0,none⟩=some (.string t844)∧w'.cell? ⟨gb847,1,none⟩=some (.string t845)∧w'.cell? ⟨gb847,2,none⟩=some (.int .i64 t846)∧w'.cell? ⟨gb848,0,none⟩=some (.int .u8 ((rd_T53 (rd_L7 ((rd_T41 t833 0).f1) 0) 0).f0))∧w'.cell? ⟨gb848,1,none⟩=some (.int .i64 ((rd_T53 (rd_L7 ((rd_T41 t833 0).f1) 0) 0).f1))∧w'.cell? ⟨gb848,2,none⟩=some (.bool (!((rd_T53 (rd_L7 ((rd_T41 t833 0).f1) 0) 0).f2)))∧w'.cell? ⟨gb848,3,none⟩=some (.slice A839_3 ((rd_T53 (rd_L7 ((rd_T41 t833 0).f1) 0) 0).f3).length c839_3)) (ds:=[]) #[false,false,false,false,false,false,false] (by kernel_rfl) rfl rfl ⟨bc_ BK840 0,bc_ BK840 1,bc_ BK840 2,bc_ BK840 3,bc_ BK847 0,bc_ BK847 1,bc_ BK847 2,bc_ BK848 0,bc_ BK848 1,bc_ BK848 2,bc_ BK848 3⟩ (fun hHeld=>?_)
     generalize w56.drew=w57 at HO_823004 HO832 HO835 HL837_1 HL838_0 HL839_3 BK822 BK840 BK847 BK848 HB hHeld ⊢
     refine tk0_ 0 64 #[true,false,false,false,false,false,false] hHeld rfl (by rintro w' ⟨s0,s1,s2,s3,s4,s5,s6,s7,s8,s9,s10⟩;go_simp;with_reducible rfl) ?_
     refine tk0_ 1 65 #[true,true,false,false,false,false,false] hHeld rfl (by rintro w' ⟨s0,s1,s2,s3,s4,s5,s6,s7,s8,s9,s10⟩;go_simp;with_reducible rfl) ?_
     refine tk0_ 3 67 #[true,true,false,true,false,false,false] hHeld rfl (by rintro w' ⟨s0,s1,s2,s3,s4,s5,s6,s7,s8,s9,s10⟩;go_simp;with_reducible rfl) ?_
     refine tk0_ 4 68 #[true,true,false,true,true,false,false] hHeld rfl (by rintro w' ⟨s0,s1,s2,s3,s4,s5,s6,s7,s8,s9,s10⟩;go_simp;with_reducible rfl) ?_
     refine one_ (i:=2) (N:=some 66) #[true,true,true,true,true,false,false] rfl rfl (by kernel_rfl) (by decide) (fun K hK=>?_)
     refine gs_ Tryz.func15 #[.agg #[.int .u8 ((rd_T53 (rd_L7 ((rd_T41 t833 0).f1) 0) 0).f0),.int .i64 ((rd_T53 (rd_L7 ((rd_T41 t833 0).f1) 0) 0).f1),.bool ((rd_T53 (rd_L7 ((rd_T41 t833 0).f1) 0) 0).f2),.slice A839_3 ((rd_T53 (rd_L7 ((rd_T41 t833 0).f1) 0) 0).f3).length c839_3],.agg #[.string t844,.string t845,.int .i64 t846]] ?_
     with_reducible refine(eval_Holds.calls kj8 ((rd_T53 (rd_L7 ((rd_T41 t833 0).f1) 0) 0).f0) ((rd_T53 (rd_L7 ((rd_T41 t833 0).f1) 0) 0).f1) ((rd_T53 (rd_L7 ((rd_T41 t833 0).f1) 0) 0).f2) _ _ ((rd_T53 (rd_L7 ((rd_T41 t833 0).f1) 0) 0).f3) t844 t845 t846 t849 _ ?side1 ?side2 A24.out).mono ?_
     (case side1=>repeat(first|exact((Kd.V_reads' (krV_ HL839_3)).2.2)|(with_reducible refine Kd.C_alloc ?_ _)|(with_reducible refine Kd.C_drewN ?_ _)|(with_reducible refine Kd.C_drew ?_)))
     (case side2=>exact HC839_3.out)
     rintro e w58 ⟨rfl,hb⟩
     refine⟨_,rfl,?_⟩
     replace HO_823004:=Aside0.mk (Kd.V_below (krV_ HO_823004) hb)
     replace HO832:=Aside0.mk (Kd.N_below (krN_ HO832) hb)
     replace HO835:=Aside0.mk (Kd.N_below (krN_ HO835) hb)
     replace HL837_1:=Aside0.mk (Kd.V_below (krV_ HL837_1) hb)
     replace HL838_0:=Aside0.mk (Kd.V_below (krV_ HL838_0) hb)
     replace HL839_3:=Aside0.mk (Kd.V_below (krV_ HL839_3) hb)
     replace BK822:=bb_ BK822 hb
     replace BK840:=bb_ BK840 hb
     replace BK847:=bb_ BK847 hb
     replace BK848:=bb_ BK848 hb
     replace HB:=Aside0.mk (below_step (bl_ HB).out hb)
     (try clear hb)
     (try clear hb2)
     (try clear hk)
     (try clear hi)
     refine hK.out _ _ ⟨bc_ BK840 0,bc_ BK840 1,bc_ BK840 2,bc_ BK840 3,bc_ BK847 0,bc_ BK847 1,bc_ BK847 2,bc_ BK848 0,bc_ BK848 1,bc_ BK848 2,bc_ BK848 3⟩ (fun hHeld=>?_)
     clear hK K
     refine nm_ 66 ?_
     refine one_ (i:=5) (N:=some 69) #[true,true,true,true,true,true,false] rfl rfl (by kernel_rfl) (by decide) (fun K hK=>?_)
     refine gs_ Tryz.func15 #[.agg #[.int .u8 ((rd_T53 (rd_L7 ((rd_T41 t833 0).f1) 0) 0).f0),.int .i64 ((rd_T53 (rd_L7 ((rd_T41 t833 0).f1) 0) 0).f1),.bool (!((rd_T53 (rd_L7 ((rd_T41 t833 0).f1) 0) 0).f2)),.slice A839_3 ((rd_T53 (rd_L7 ((rd_T41 t833 0).f1) 0) 0).f3).length c839_3],.agg #[.string t844,.string t845,.int .i64 t846]] ?_
     with_reducible refine(eval_Holds.calls kj8 ((rd_T53 (rd_L7 ((rd_T41 t833 0).f1) 0) 0).f0) ((rd_T53 (rd_L7 ((rd_T41 t833 0).f1) 0) 0).f1) (!((rd_T53 (rd_L7 ((rd_T41 t833 0).f1) 0) 0).f2)) _ _ ((rd_T53 (rd_L7 ((rd_T41 t833 0).f1) 0) 0).f3) t844 t845 t846 t850 _ ?side1 ?side2 A25.out).mono ?_
     (case side1=>repeat(first|exact((Kd.V_reads' (krV_ HL839_3)).2.2)|(with_reducible refine Kd.C_alloc ?_ _)|(with_reducible refine Kd.C_drewN ?_ _)|(with_reducible refine Kd.C_drew ?_)))
     (case side2=>exact HC839_3.out)
     rintro e w59 ⟨rfl,hb⟩
     refine⟨_,rfl,?_⟩
     replace HO_823004:=Aside0.mk (Kd.V_below (krV_ HO_823004) hb)
     replace HO832:=Aside0.mk (Kd.N_below (krN_ HO832) hb)
     replace HO835:=Aside0.mk (Kd.N_below (krN_ HO835) hb)
     replace HL837_1:=Aside0.mk (Kd.V_below (krV_ HL837_1) hb)
     replace HL838_0:=Aside0.mk (Kd.V_below (krV_ HL838_0) hb)
     replace HL839_3:=Aside0.mk (Kd.V_below (krV_ HL839_3) hb)
     replace BK822:=bb_ BK822 hb
     replace BK840:=bb_ BK840 hb
     replace BK847:=bb_ BK847 hb
     replace BK848:=bb_ BK848 hb
     replace HB:=Aside0.mk (below_step (bl_ HB).out hb)
     (try clear hb)
     (try clear hb2)
     (try clear hk)
     (try clear hi)
     refine hK.out _ _ ⟨bc_ BK840 0,bc_ BK840 1,bc_ BK840 2,bc_ BK840 3,bc_ BK847 0,bc_ BK847 1,bc_ BK847 2,bc_ BK848 0,bc_ BK848 1,bc_ BK848 2,bc_ BK848 3⟩ (fun hHeld=>?_)
     clear hK K
     refine nm_ 69 ?_
     refine pu0_ 6 70 #[true,true,true,true,true,true,true] ?_
     refine done_ (by kernel_rfl) ?_
     go_upto_region 12 with (fail)
     go_cut [] (fun wc=>∃(kq:Nat) (x841002_26:Bool),Aside0 (florinlaw07_EvalNots.j1 kq a1 a2 ((rd_T53 (rd_L7 ((rd_T41 t833 0).f1) 0) 0).f0) ((rd_T53 (rd_L7 ((rd_T41 t833 0).f1) 0) 0).f1) x841002_26 ((rd_T53 (rd_L7 ((rd_T41 t833 0).f1) 0) 0).f3) t844 t845 t846=some r)∧Aside0 (kq≤kj8)∧Aside0 (Kd.V k139 139 wc w.heap.size (fun k_=>(P0_4_ k_∨w.heap.size≤k_)∧k_≠gb822∧k_≠gb840∧k_≠gb847∧k_≠gb848) (.slice A0_4 l0_4.length c0_4) l0_4)∧Aside0 (Kd.V k57 57 wc w.heap.size (fun k_=>(P0_4_ k_∨w.heap.size≤k_)∧k_≠gb822∧k_≠gb840∧k_≠gb847∧k_≠gb848) (.slice A839_3 ((rd_T53 (rd_L7 ((rd_T41 t833 0).f1) 0) 0).f3).length c839_3) ((rd_T53 (rd_L7 ((rd_T41 t833 0).f1) 0) 0).f3))∧Aside0 (Kd.V k57 57 wc w.heap.size (fun k_=>(P0_4_ k_∨w.heap.size≤k_)∧k_≠gb822∧k_≠gb840∧k_≠gb847∧k_≠gb848) (.slice A839_3 ((rd_T53 (rd_L7 ((rd_T41 t833 0).f1) 0) 0).f3).length c839_3) ((rd_T53 (rd_L7 ((rd_T41 t833 0).f1) 0) 0).f3))∧Aside0 (wc.heap[gb822]? = some (.cells #[.int .i64 a0_0,.int .i64 a0_1,.int .i64 a0_2,.bool a0_3,(.slice A0_4 l0_4.length c0_4)] 46 (0,0)))∧Aside0 (wc.heap[gb840]? = some (.cells #[.int .u8 ((rd_T53 (rd_L7 ((rd_T41 t833 0).f1) 0) 0).f0),.int .i64 ((rd_T53 (rd_L7 ((rd_T41 t833 0).f1) 0) 0).f1),.bool x841002_26,(.slice A839_3 ((rd_T53 (rd_L7 ((rd_T41 t833 0).f1) 0) 0).f3).length c839_3)] 53 (0,0)))∧Aside0 (wc.heap[gb847]? = some (.cells #[.string t844,.string t845,.int .i64 t846] 27 (0,0)))∧Aside0 (wc.heap[gb848]? = some (.cells #[.int .u8 ((rd_T53 (rd_L7 ((rd_T41 t833 0).f1) 0) 0).f0),.int .i64 ((rd_T53 (rd_L7 ((rd_T41 t833 0).f1) 0) 0).f1),.bool (!((rd_T53 (rd_L7 ((rd_T41 t833 0).f1) 0) 0).f2)),(.slice A839_3 ((rd_T53 (rd_L7 ((rd_T41 t833 0).f1) 0) 0).f3).length c839_3)] 53 (0,0)))∧Aside0 (Below w.heap.size w wc))
     case first =>
      have H:=HC27.out
      clear HC27
      have H':=Aside0.mk H
      clear H
      have hnb60:=NB840_822.out
      have hnc60:=NB822_840.out
      have hnb61:=NB840_847.out
      have hnc61:=NB847_840.out
      have hnb62:=NB840_848.out
      have hnc62:=NB848_840.out
      obtain⟨hcz63_0,hcz63_1,hcz63_2,hcz63_3,hfz63_0,hfz63_1,hfz63_2,hfz63_3⟩:=bo4_ BK840
      go_wp2
      go_meet
      case rel=>exact⟨_,(false),H',⟨by have:=HJ8.out;first|omega|exact Nat.le_refl _⟩,⟨kdV_ (Kd.V_mono (Kd.V_far (Kd.V_mono HO_823004.out (fun k_ hk=>(⟨hk,hk.2.2.2.2.1⟩:_∧k_≠gb840))) (fun _ hk=>hk.2) _) (fun _ hk=>⟨hk.1.1,⟨hk.1.2.2.2.1,⟨hk.1.2.2.2.2.1,⟨hk.1.2.2.2.2.2.1,hk.1.2.2.2.2.2.2⟩⟩⟩⟩))⟩,⟨kdV_ (Kd.V_mono (Kd.V_far (Kd.V_mono HL839_3.out (fun k_ hk=>(⟨hk,hk.2.2.2.1⟩:_∧k_≠gb840))) (fun _ hk=>hk.2) _) (fun _ hk=>⟨hk.1.1,⟨hk.1.2.2.1,⟨hk.1.2.2.2.1,⟨hk.1.2.2.2.2.1,hk.1.2.2.2.2.2⟩⟩⟩⟩))⟩,⟨kdV_ (Kd.V_mono (Kd.V_far (Kd.V_mono HL839_3.out (fun k_ hk=>(⟨hk,hk.2.2.2.1⟩:_∧k_≠gb840))) (fun _ hk=>hk.2) _) (fun _ hk=>⟨hk.1.1,⟨hk.1.2.2.1,⟨hk.1.2.2.2.1,⟨hk.1.2.2.2.2.1,hk.1.2.2.2.2.2⟩⟩⟩⟩))⟩,⟨(bf_ BK822).out⟩,⟨(bp_ BK840).out⟩,⟨(bf_ BK847).out⟩,⟨(bf_ BK848).out⟩,(bl_ HB)⟩
     case rest =>
      clear HC27
      obtain⟨kq,x841002_26,HA,HJ26,HO_823004,HO_841003,HO_849003,BK822,BK840,BK847,BK848,HB⟩:=hcut
      cases kq with
      | zero=>exact absurd HA.out (by simp[florinlaw07_EvalNots.j1])
      | succ kj26 =>
       have H:=HA.out
       clear HA
       simp only[florinlaw07_EvalNots.j1] at H
       obtain⟨y851,hy851⟩:∃y_:List (S57),y_=(([(⟨Go.bits .and .i64 a1 65535,wrap64 ((Go.bits .and .i64 a1 65535)+(Go.bits .and .i64 a2 255))⟩:S57)]:List (S57))):=⟨_,rfl⟩
       replace H:(if y851.length+((rd_T53 (rd_L7 ((rd_T41 t833 0).f1) 0) 0).f3).length<8796093022208 then ((some (y851++((rd_T53 (rd_L7 ((rd_T41 t833 0).f1) 0) 0).f3):List (S57))).bind fun y854=>(if 1≤(y854.length:Int) then ((eval_Holds.f kj26 ((rd_T53 (rd_L7 ((rd_T41 t833 0).f1) 0) 0).f0) ((rd_T53 (rd_L7 ((rd_T41 t833 0).f1) 0) 0).f1) false y854 t844 t845 t846).bind fun t864=>((eval_Holds.f kj26 ((rd_T53 (rd_L7 ((rd_T41 t833 0).f1) 0) 0).f0) ((rd_T53 (rd_L7 ((rd_T41 t833 0).f1) 0) 0).f1) x841002_26 ((rd_T53 (rd_L7 ((rd_T41 t833 0).f1) 0) 0).f3) t844 t845 t846).bind fun t865=>(if t865=true then (some (t864==true)) else ((eval_Holds.f kj26 ((rd_T53 (rd_L7 ((rd_T41 t833 0).f1) 0) 0).f0) ((rd_T53 (rd_L7 ((rd_T41 t833 0).f1) 0) 0).f1) false (y854.take 1) t844 t845 t846).bind fun t866=>(some (t864==t866)))))) else (none))) else (none))=some r:=by first|(rw[hy851];with_reducible exact H)|(have H2_:=(Option.bind_some _ _).symm.trans H;rw[hy851];with_reducible exact H2_)|(have H2_:=(Option.bind_some _ _).symm.trans H;with_reducible exact H2_)|with_reducible exact H|(rw[hy851];exact H)|exact H
       have Ny851:=Aside0.mk hy851
       clear hy851
       replace H:=ifn_ H
       obtain⟨c64,H⟩:=H
       have LMc64:=Aside0.mk c64
       clear c64
       obtain⟨y854,hy854⟩:∃y_:List (S57),y_=(y851++((rd_T53 (rd_L7 ((rd_T41 t833 0).f1) 0) 0).f3)):=⟨_,rfl⟩
       replace H:(if 1≤(y854.length:Int) then ((eval_Holds.f kj26 ((rd_T53 (rd_L7 ((rd_T41 t833 0).f1) 0) 0).f0) ((rd_T53 (rd_L7 ((rd_T41 t833 0).f1) 0) 0).f1) false y854 t844 t845 t846).bind fun t864=>((eval_Holds.f kj26 ((rd_T53 (rd_L7 ((rd_T41 t833 0).f1) 0) 0).f0) ((rd_T53 (rd_L7 ((rd_T41 t833 0).f1) 0) 0).f1) x841002_26 ((rd_T53 (rd_L7 ((rd_T41 t833 0).f1) 0) 0).f3) t844 t845 t846).bind fun t865=>(if t865=true then (some (t864==true)) else ((eval_Holds.f kj26 ((rd_T53 (rd_L7 ((rd_T41 t833 0).f1) 0) 0).f0) ((rd_T53 (rd_L7 ((rd_T41 t833 0).f1) 0) 0).f1) false (y854.take 1) t844 t845 t846).bind fun t866=>(some (t864==t866)))))) else (none))=some r:=by first|(rw[hy854];with_reducible exact H)|(have H2_:=(Option.bind_some _ _).symm.trans H;rw[hy854];with_reducible exact H2_)|(have H2_:=(Option.bind_some _ _).symm.trans H;with_reducible exact H2_)|with_reducible exact H|(rw[hy854];exact H)|exact H
       have Ny854:=Aside0.mk hy854
       clear hy854
       replace H:=ifn_ H
       obtain⟨c65,H⟩:=H
       have c65b0:=eq_true c65
       have c65b1:decide (1≤(y854.length:Int))=true:=decide_eq_true c65
       clear c65
       obtain⟨y858,hy858⟩:∃y_:List (S57),y_=(y854.take 1):=⟨_,rfl⟩
       replace H:((eval_Holds.f kj26 ((rd_T53 (rd_L7 ((rd_T41 t833 0).f1) 0) 0).f0) ((rd_T53 (rd_L7 ((rd_T41 t833 0).f1) 0) 0).f1) false y854 t844 t845 t846).bind fun t864=>((eval_Holds.f kj26 ((rd_T53 (rd_L7 ((rd_T41 t833 0).f1) 0) 0).f0) ((rd_T53 (rd_L7 ((rd_T41 t833 0).f1) 0) 0).f1) x841002_26 ((rd_T53 (rd_L7 ((rd_T41 t833 0).f1) 0) 0).f3) t844 t845 t846).bind fun t865=>(if t865=true then (some (t864==true)) else ((eval_Holds.f kj26 ((rd_T53 (rd_L7 ((rd_T41 t833 0).f1) 0) 0).f0) ((rd_T53 (rd_L7 ((rd_T41 t833 0).f1) 0) 0).f1) false y858 t844 t845 t846).bind fun t866=>(some (t864==t866))))))=some r:=by first|(rw[hy858];with_reducible exact H)|(have H2_:=(Option.bind_some _ _).symm.trans H;rw[hy858];with_reducible exact H2_)|(have H2_:=(Option.bind_some _ _).symm.trans H;with_reducible exact H2_)|with_reducible exact H|(rw[hy858];exact H)|exact H
       have Ny858:=Aside0.mk hy858
       clear hy858
       replace H:=Option.bind_eq_some_iff.mp H
       obtain⟨t864,A660,H⟩:=H
       have A66:=Aside0.mk A660
       clear A660
       replace H:=Option.bind_eq_some_iff.mp H
       obtain⟨t865,A670,H⟩:=H
       have A67:=Aside0.mk A670
       clear A670
       by_cases c68:t865=true
       ·subst c68
        have H1:(some (t864==true))=some r:=by rw[if_pos rfl] at H;exact H
        clear H
        have H:=H1
        clear H1
        obtain rfl:=Option.some.inj H
        try go_wp2
        replace HO_823004:=Aside0.mk (Kd.V_drew HO_823004.out)
        replace HO_841003:=Aside0.mk (Kd.V_drew HO_841003.out)
        replace HO_849003:=Aside0.mk (Kd.V_drew HO_849003.out)
        replace BK822:=Aside0.mk (blk_drew BK822.out)
        replace BK840:=Aside0.mk (blk_drew BK840.out)
        replace BK847:=Aside0.mk (blk_drew BK847.out)
        replace BK848:=Aside0.mk (blk_drew BK848.out)
        replace HB:=Aside0.mk (below_drew1 HB.out)
        refine start_ (n:=19) (S:=fun w'=>w'.cell? ⟨gb840,0,none⟩=some (.int .u8 ((rd_T53 (rd_L7 ((rd_T41 t833 0).f1) 0) 0).f0))∧w'.cell? ⟨gb840,1,none⟩=some (.int .i64 ((rd_T53 (rd_L7 ((rd_T41 t833 0).f1) 0) 0).f1))∧w'.cell? ⟨gb840,2,none⟩=some (.bool x841002_26)∧w'.cell? ⟨gb840,3,none⟩=some (.slice A839_3 ((rd_T53 (rd_L7 ((rd_T41 t833 0).f1) 0) 0).f3).length c839_3)) (ds:=[]) #[false,false,false,false,false,false,false,false,false,false,false,false,false,false,false,false,false,false,false] (by kernel_rfl) rfl rfl ⟨bc_ BK840 0,bc_ BK840 1,bc_ BK840 2,bc_ BK840 3⟩ (fun hHeld=>?_);refine with_tabW florinlaw07_EvalNots.tab13 florinlaw07_EvalNots.bits13 (fun HT_ HW_=>?_)
        generalize wc.drew=w69 at HO_823004 HO_841003 HO_849003 BK822 BK840 BK847 BK848 HB hHeld ⊢
        refine pu_ 0 72 (bm_ 19 1) HT_ ?_
        refine pu_ 2 74 (bm_ 19 5) HT_ ?_
        refine pu_ 4 76 (bm_ 19 21) HT_ ?_
        refine pu_ 5 77 (bm_ 19 53) HT_ ?_
        refine pu_ 6 78 (bm_ 19 117) HT_ ?_
        refine pu_ 7 79 (bm_ 19 245) HT_ ?_
        refine pu_ 8 80 (bm_ 19 501) HT_ ?_
        refine pu_ 9 81 (bm_ 19 1013) HT_ ?_
        refine pu_ 10 82 (bm_ 19 2037) HT_ ?_
        refine pu_ 11 83 (bm_ 19 4085) HT_ ?_
        refine pu_ 13 85 (bm_ 19 12277) HT_ ?_
        refine tk_ 1 73 (bm_ 19 12279) HT_ HW_ hHeld rfl (by rintro w' ⟨s0,s1,s2,s3⟩;go_simp;with_reducible rfl) ?_
        refine tk_ 3 75 (bm_ 19 12287) HT_ HW_ hHeld rfl (by rintro w' ⟨s0,s1,s2,s3⟩;go_simp;with_reducible rfl) ?_
        refine tk_ 14 86 (bm_ 19 28671) HT_ HW_ hHeld rfl (by rintro w' ⟨s0,s1,s2,s3⟩;go_simp;with_reducible rfl) ?_
        refine join_ (σ:=Value × Value × Nat) 1 #[true,true,true,true,true,true,true,true,true,true,true,true,true,true,true,true,true,true,false] (fun s_=>[(84,s_.1),(87,s_.2.1),(18,.pointer (some ⟨s_.2.2,0,none⟩)),(88,.agg #[.int .u8 ((rd_T53 (rd_L7 ((rd_T41 t833 0).f1) 0) 0).f0),.int .i64 ((rd_T53 (rd_L7 ((rd_T41 t833 0).f1) 0) 0).f1),.bool false,s_.2.1])]) (fun s_ w'=>(w'.cell? ⟨gb840,0,none⟩=some (.int .u8 ((rd_T53 (rd_L7 ((rd_T41 t833 0).f1) 0) 0).f0))∧w'.cell? ⟨gb840,1,none⟩=some (.int .i64 ((rd_T53 (rd_L7 ((rd_T41 t833 0).f1) 0) 0).f1))∧w'.cell? ⟨gb840,2,none⟩=some (.bool x841002_26)∧w'.cell? ⟨gb840,3,none⟩=some (.slice A839_3 ((rd_T53 (rd_L7 ((rd_T41 t833 0).f1) 0) 0).f3).length c839_3))∧(Kd.R k57 57 w' w.heap.size (fun k_=>(w.heap.size≤k_)) s_.2.1 y854)∧(Kd.V k139 139 w' w.heap.size (fun k_=>(P0_4_ k_∨w.heap.size≤k_)∧some k_≠(s_.2.1:Value).ownBlock∧k_≠gb822∧k_≠gb840∧k_≠gb847∧k_≠gb848∧k_≠s_.2.2) (.slice A0_4 l0_4.length c0_4) l0_4)∧(Kd.V k57 57 w' w.heap.size (fun k_=>(P0_4_ k_∨w.heap.size≤k_)∧some k_≠(s_.2.1:Value).ownBlock∧k_≠gb822∧k_≠gb840∧k_≠gb847∧k_≠gb848∧k_≠s_.2.2) (.slice A839_3 ((rd_T53 (rd_L7 ((rd_T41 t833 0).f1) 0) 0).f3).length c839_3) ((rd_T53 (rd_L7 ((rd_T41 t833 0).f1) 0) 0).f3))∧(Kd.V k57 57 w' w.heap.size (fun k_=>(P0_4_ k_∨w.heap.size≤k_)∧some k_≠(s_.2.1:Value).ownBlock∧k_≠gb822∧k_≠gb840∧k_≠gb847∧k_≠gb848∧k_≠s_.2.2) (.slice A839_3 ((rd_T53 (rd_L7 ((rd_T41 t833 0).f1) 0) 0).f3).length c839_3) ((rd_T53 (rd_L7 ((rd_T41 t833 0).f1) 0) 0).f3))∧(w'.heap[gb822]? = some (.cells #[.int .i64 a0_0,.int .i64 a0_1,.int .i64 a0_2,.bool a0_3,.slice A0_4 l0_4.length c0_4] 46 (0,0)))∧(w'.heap[gb840]? = some (.cells #[.int .u8 ((rd_T53 (rd_L7 ((rd_T41 t833 0).f1) 0) 0).f0),.int .i64 ((rd_T53 (rd_L7 ((rd_T41 t833 0).f1) 0) 0).f1),.bool x841002_26,.slice A839_3 ((rd_T53 (rd_L7 ((rd_T41 t833 0).f1) 0) 0).f3).length c839_3] 53 (0,0)))∧(w'.heap[gb847]? = some (.cells #[.string t844,.string t845,.int .i64 t846] 27 (0,0)))∧(w'.heap[gb848]? = some (.cells #[.int .u8 ((rd_T53 (rd_L7 ((rd_T41 t833 0).f1) 0) 0).f0),.int .i64 ((rd_T53 (rd_L7 ((rd_T41 t833 0).f1) 0) 0).f1),.bool (!((rd_T53 (rd_L7 ((rd_T41 t833 0).f1) 0) 0).f2)),.slice A839_3 ((rd_T53 (rd_L7 ((rd_T41 t833 0).f1) 0) 0).f3).length c839_3] 53 (0,0)))∧(w'.heap[s_.2.2]? = some (.cells #[.int .u8 0,.int .i64 0,.bool false,.slice none 0 0] 53 (0,0)))∧(w.heap.size≤s_.2.2)∧(w.heap.size≤s_.2.2)∧(gb822≠s_.2.2)∧(s_.2.2≠gb822)∧(gb840≠s_.2.2)∧(s_.2.2≠gb840)∧(gb847≠s_.2.2)∧(s_.2.2≠gb847)∧(gb848≠s_.2.2)∧(s_.2.2≠gb848)∧(Below w.heap.size w w')) ?_ ?_
        rotate_left
        ·intro hCont
         refine two_ (i:=12) (j:=17) (Ni:=some 84) (Nj:=some 18) #[true,true,true,true,true,true,true,true,true,true,true,true,true,true,true,false,false,false,false] #[true,true,true,true,true,true,true,true,true,true,true,true,false,true,true,false,false,true,false] rfl rfl rfl rfl (two_of HT_.out (by kernel_rfl)) (by decide) (by decide) (fun K hK=>?_) (fun K hK=>?_)
         ·skip
          refine Kd.R_lit_step k57 _ 57 ?hg (N:=84) ?hd (xs:=([(⟨Go.bits .and .i64 a1 65535,wrap64 ((Go.bits .and .i64 a1 65535)+(Go.bits .and .i64 a2 255))⟩:S57)]:List (S57))) (inner:=[.int .i64 (Go.bits .and .i64 a1 65535),.int .i64 (wrap64 ((Go.bits .and .i64 a1 65535)+(Go.bits .and .i64 a2 255)))]) (ok:=fun _=>True) (okp:=fun _=>True) ?hr ?hp (fun _ hk=>hk) trivial (Below.refl _ _) (Nat.le_refl _) (by simp) ?_;(case hd=>rfl);(case hg=>rfl);(case hr=>first|(go_simp;done)|(go_simp;rfl));(case hp=>exact(Reps.c2 (show Kd.M k57 _ _ _ (⟨Go.bits .and .i64 a1 65535,wrap64 ((Go.bits .and .i64 a1 65535)+(Go.bits .and .i64 a2 255))⟩:S57) [.int .i64 (Go.bits .and .i64 a1 65535),.int .i64 (wrap64 ((Go.bits .and .i64 a1 65535)+(Go.bits .and .i64 a2 255)))] from(k57_mkM _ _ _ (⟨Go.bits .and .i64 a1 65535,wrap64 ((Go.bits .and .i64 a1 65535)+(Go.bits .and .i64 a2 255))⟩:S57) )) (Reps.none _ _)))
          intro v852 w70 ho71 hb hg_ hnew_
          clear hg_ hnew_
          (first|rw[← Ny851.out] at ho71|(simp only[Int.reduceToNat] at ho71;rw[← Ny851.out] at ho71))
          have n0_:=Aside0.mk (Kd.V_elder' (krV_ HO_823004) (Kd.R_base ho71) hb)
          have n1_:=Aside0.mk (Kd.V_elder' (krV_ HO_841003) (Kd.R_base ho71) hb)
          have n2_:=Aside0.mk (Kd.V_elder' (krV_ HO_849003) (Kd.R_base ho71) hb)
          have n3_:=Aside0.mk (Kd.R_lower (Kd.R_newM (M:=fun k_=>(w.heap.size≤k_)) ho71 (below_size (bl_ HB).out) (fun k_ h_=>h_)) (below_size (bl_ HB).out))
          have n4_:=bb_ BK822 hb
          have n5_:=bb_ BK840 hb
          have n6_:=bb_ BK847 hb
          have n7_:=bb_ BK848 hb
          have n8_:=Aside0.mk (below_step (bl_ HB).out hb)
          clear HO_823004
          clear HO_841003
          clear HO_849003
          clear BK822
          clear BK840
          clear BK847
          clear BK848
          clear HB
          have HO_823004:=n0_
          have HO_841003:=n1_
          have HO_849003:=n2_
          have HO853:=n3_
          have BK822:=n4_
          have BK840:=n5_
          have BK847:=n6_
          have BK848:=n7_
          have HB:=n8_
          clear n0_ n1_ n2_ n3_ n4_ n5_ n6_ n7_ n8_
          clear hb ho71
          refine hK.out _ _ ⟨bc_ BK840 0,bc_ BK840 1,bc_ BK840 2,bc_ BK840 3⟩ (fun hHeld=>?_)
          clear hK K
          refine nm_ 84 ?_
          refine two_ (i:=15) (j:=17) (Ni:=some 87) (Nj:=some 18) #[true,true,true,true,true,true,true,true,true,true,true,true,true,true,true,true,false,false,false] #[true,true,true,true,true,true,true,true,true,true,true,true,true,true,true,false,false,true,false] rfl rfl rfl rfl (two_of HT_.out (by kernel_rfl)) (by decide) (by decide) (fun K hK=>?_) (fun K hK=>?_)
          ·skip
           refine Kd.R_append_rows_step k57 (w0:=w) w.heap.size (by rfl) (.tmp 84) (.tmp 86) 51 57 (.agg #[(.int .i64 0),(.int .i64 0)]) 16 rfl Tryz.underlying51 info57 rfl (by decide) (by omega) v852 y851 ((rd_T53 (rd_L7 ((rd_T41 t833 0).f1) 0) 0).f3) _ _ _ (fun k_=>(w.heap.size≤k_)) (fun _=>False) rfl rfl ?aO ?aR (fun _ _ h=>h) (fun _ h=>h.elim) ?aF ?aB ?aS ?aL ?_
           (case aR=>repeat(first|exact(Kd.V_reads' HO_841003.out).2.2|(with_reducible refine Kd.C_alloc ?_ _)|(with_reducible refine Kd.C_drewN ?_ _)|(with_reducible refine Kd.C_drew ?_)))
           (case aB=>exact(bl_ HB).out)
           (case aF=>exact(fun k_ hk=>(Nat.le_trans (below_size (bl_ HB).out) hk)))
           (case aO=>exact(kdR_ (Kd.R_mono HO853.out (fun _ hk=>hk.1))))
           (case aS=>exact(below_size (bl_ HB).out))
           (case aL=>have:=LMc64.out;omega)
           intro v855 w72 ho hb hg hat
           rw[← Ny854.out] at ho
           have n0_:=Aside0.mk (Kd.V_afterv (ok:=(fun k_=>(P0_4_ k_∨w.heap.size≤k_)∧k_≠gb822∧k_≠gb840∧k_≠gb847∧k_≠gb848)) (krV_ HO_823004) hg hat)
           have n1_:=Aside0.mk (Kd.V_afterv (ok:=(fun k_=>(P0_4_ k_∨w.heap.size≤k_)∧k_≠gb822∧k_≠gb840∧k_≠gb847∧k_≠gb848)) (krV_ HO_841003) hg hat)
           have n2_:=Aside0.mk (Kd.V_afterv (ok:=(fun k_=>(P0_4_ k_∨w.heap.size≤k_)∧k_≠gb822∧k_≠gb840∧k_≠gb847∧k_≠gb848)) (krV_ HO_849003) hg hat)
           have n3_:=Aside0.mk (blk_grown (bk_ BK822).out hg (Kd.R_ne HO853.out BK822.out (by decide)))
           have n4_:=Aside0.mk (blk_grown (bk_ BK840).out hg (Kd.R_ne HO853.out BK840.out (by decide)))
           have n5_:=Aside0.mk (blk_grown (bk_ BK847).out hg (Kd.R_ne HO853.out BK847.out (by decide)))
           have n6_:=Aside0.mk (blk_grown (bk_ BK848).out hg (Kd.R_ne HO853.out BK848.out (by decide)))
           have n7_:=Aside0.mk (hb)
           have n8_:=Aside0.mk (ho)
           clear HO_823004
           clear HO_841003
           clear HO_849003
           clear BK822
           clear BK840
           clear BK847
           clear BK848
           clear HB
           clear HO853
           have HO_823004:=n0_
           have HO_841003:=n1_
           have HO_849003:=n2_
           have BK822:=n3_
           have BK840:=n4_
           have BK847:=n5_
           have BK848:=n6_
           have HB:=n7_
           have HO856:=n8_
           clear n0_ n1_ n2_ n3_ n4_ n5_ n6_ n7_ n8_
           clear ho hb hg hat
           obtain⟨Ao73,co73,eo73⟩:=Kd.R_slice HO856.out
           (first|subst eo73|(injection eo73 with f1_ f2_ f3_;have f4_:=f1_.symm;have f5_:=f3_.symm;clear f1_ f2_ f3_;subst f4_;subst f5_))
           refine hK.out _ _ ⟨bc_ BK840 0,bc_ BK840 1,bc_ BK840 2,bc_ BK840 3⟩ (fun hHeld=>?_)
           clear hK K
           refine nm_ 87 ?_
           refine pu_ 16 88 (bm_ 19 131071) HT_ ?_
           refine one_ (i:=17) (N:=some 18) (bm_ 19 262143) rfl rfl (one_of HT_.out (by kernel_rfl)) (by decide) (fun K hK=>?_)
           refine box_step ?hg (N:=18) ?hd (cs:= #[.int .u8 0,.int .i64 0,.bool false,.slice none 0 0]) (t:=53) ?hr ?_;(case hd=>rfl);(case hg=>rfl);(case hr=>first|(go_simp;done)|(go_simp;rfl))
           intro gb857 hg w74 hbox hb
           have n0_:=Aside0.mk (Kd.V_below (Kd.V_elderB (krV_ HO_823004) gb857 (Nat.le_of_eq hg.symm)) hb)
           have n1_:=Aside0.mk (Kd.V_below (Kd.V_elderB (krV_ HO_841003) gb857 (Nat.le_of_eq hg.symm)) hb)
           have n2_:=Aside0.mk (Kd.V_below (Kd.V_elderB (krV_ HO_849003) gb857 (Nat.le_of_eq hg.symm)) hb)
           have n3_:=kb_ HO856 hb
           have n4_:=bb_ BK822 hb
           have n5_:=bb_ BK840 hb
           have n6_:=bb_ BK847 hb
           have n7_:=bb_ BK848 hb
           have n8_:=Aside0.mk (below_step (bl_ HB).out hb)
           have n9_:=Aside0.mk (hbox)
           have n10_:=sz_ HB hg
           have n11_:=sz_ HB hg
           have n12_:=na_ BK822 hg
           have n13_:=nb_ BK822 hg
           have n14_:=na_ BK840 hg
           have n15_:=nb_ BK840 hg
           have n16_:=na_ BK847 hg
           have n17_:=nb_ BK847 hg
           have n18_:=na_ BK848 hg
           have n19_:=nb_ BK848 hg
           clear HO_823004
           clear HO_841003
           clear HO_849003
           clear HO856
           clear BK822
           clear BK840
           clear BK847
           clear BK848
           clear HB
           have HO_823004:=n0_
           have HO_841003:=n1_
           have HO_849003:=n2_
           have HO856:=n3_
           have BK822:=n4_
           have BK840:=n5_
           have BK847:=n6_
           have BK848:=n7_
           have HB:=n8_
           have BK857:=n9_
           have GW857:=n10_
           have GE857:=n11_
           have NB822_857:=n12_
           have NB857_822:=n13_
           have NB840_857:=n14_
           have NB857_840:=n15_
           have NB847_857:=n16_
           have NB857_847:=n17_
           have NB848_857:=n18_
           have NB857_848:=n19_
           clear n0_ n1_ n2_ n3_ n4_ n5_ n6_ n7_ n8_ n9_ n10_ n11_ n12_ n13_ n14_ n15_ n16_ n17_ n18_ n19_
           clear hb hbox hg
           refine hK.out _ _ ⟨bc_ BK840 0,bc_ BK840 1,bc_ BK840 2,bc_ BK840 3⟩ (fun hHeld=>?_)
           clear hK K
           refine nm_ 18 ?_
           exact norm_ (by simp only[putAll,Act.put,List.setIfInBounds_toArray,List.set_cons_zero,List.set_cons_succ]) (hCont (v852,.slice Ao73 y854.length co73,gb857) _ ⟨hHeld,(kr_ HO856),(kdV_ (Kd.V_mono HO_823004.out (fun _ hk=>⟨hk.1.1.1,⟨hk.1.2,⟨hk.1.1.2.1,⟨hk.1.1.2.2.1,⟨hk.1.1.2.2.2.1,⟨hk.1.1.2.2.2.2,hk.2⟩⟩⟩⟩⟩⟩))),(kdV_ (Kd.V_mono HO_841003.out (fun _ hk=>⟨hk.1.1.1,⟨hk.1.2,⟨hk.1.1.2.1,⟨hk.1.1.2.2.1,⟨hk.1.1.2.2.2.1,⟨hk.1.1.2.2.2.2,hk.2⟩⟩⟩⟩⟩⟩))),(kdV_ (Kd.V_mono HO_849003.out (fun _ hk=>⟨hk.1.1.1,⟨hk.1.2,⟨hk.1.1.2.1,⟨hk.1.1.2.2.1,⟨hk.1.1.2.2.2.1,⟨hk.1.1.2.2.2.2,hk.2⟩⟩⟩⟩⟩⟩))),(bk_ BK822).out,(bk_ BK840).out,(bk_ BK847).out,(bk_ BK848).out,(bk_ BK857).out,GW857.out,GE857.out,NB822_857.out,NB857_822.out,NB840_857.out,NB857_840.out,NB847_857.out,NB857_847.out,NB848_857.out,NB857_848.out,(bl_ HB).out⟩)
          ·skip
           refine box_step ?hg (N:=18) ?hd (cs:= #[.int .u8 0,.int .i64 0,.bool false,.slice none 0 0]) (t:=53) ?hr ?_;(case hd=>rfl);(case hg=>rfl);(case hr=>first|(go_simp;done)|(go_simp;rfl))
           intro gb857 hg w72 hbox hb
           have n0_:=Aside0.mk (Kd.V_below (Kd.V_elderB (krV_ HO_823004) gb857 (Nat.le_of_eq hg.symm)) hb)
           have n1_:=Aside0.mk (Kd.V_below (Kd.V_elderB (krV_ HO_841003) gb857 (Nat.le_of_eq hg.symm)) hb)
           have n2_:=Aside0.mk (Kd.V_below (Kd.V_elderB (krV_ HO_849003) gb857 (Nat.le_of_eq hg.symm)) hb)
           have n3_:=kb_ HO853 hb
           have n4_:=bb_ BK822 hb
           have n5_:=bb_ BK840 hb
           have n6_:=bb_ BK847 hb
           have n7_:=bb_ BK848 hb
           have n8_:=Aside0.mk (below_step (bl_ HB).out hb)
           have n9_:=Aside0.mk (hbox)
           have n10_:=sz_ HB hg
           have n11_:=sz_ HB hg
           have n12_:=na_ BK822 hg
           have n13_:=nb_ BK822 hg
           have n14_:=na_ BK840 hg
           have n15_:=nb_ BK840 hg
           have n16_:=na_ BK847 hg
           have n17_:=nb_ BK847 hg
           have n18_:=na_ BK848 hg
           have n19_:=nb_ BK848 hg
           clear HO_823004
           clear HO_841003
           clear HO_849003
           clear HO853
           clear BK822
           clear BK840
           clear BK847
           clear BK848
           clear HB
           have HO_823004:=n0_
           have HO_841003:=n1_
           have HO_849003:=n2_
           have HO853:=n3_
           have BK822:=n4_
           have BK840:=n5_
           have BK847:=n6_
           have BK848:=n7_
           have HB:=n8_
           have BK857:=n9_
           have GW857:=n10_
           have GE857:=n11_
           have NB822_857:=n12_
           have NB857_822:=n13_
           have NB840_857:=n14_
           have NB857_840:=n15_
           have NB847_857:=n16_
           have NB857_847:=n17_
           have NB848_857:=n18_
           have NB857_848:=n19_
           clear n0_ n1_ n2_ n3_ n4_ n5_ n6_ n7_ n8_ n9_ n10_ n11_ n12_ n13_ n14_ n15_ n16_ n17_ n18_ n19_
           clear hb hbox hg
           refine hK.out _ _ ⟨bc_ BK840 0,bc_ BK840 1,bc_ BK840 2,bc_ BK840 3⟩ (fun hHeld=>?_)
           clear hK K
           refine nm_ 18 ?_
           refine one_ (i:=15) (N:=some 87) (bm_ 19 196607) rfl rfl (one_of HT_.out (by kernel_rfl)) (by decide) (fun K hK=>?_)
           refine Kd.R_append_rows_step k57 (w0:=w) w.heap.size (by rfl) (.tmp 84) (.tmp 86) 51 57 (.agg #[(.int .i64 0),(.int .i64 0)]) 16 rfl Tryz.underlying51 info57 rfl (by decide) (by omega) v852 y851 ((rd_T53 (rd_L7 ((rd_T41 t833 0).f1) 0) 0).f3) _ _ _ (fun k_=>(w.heap.size≤k_)) (fun _=>False) rfl rfl ?aO ?aR (fun _ _ h=>h) (fun _ h=>h.elim) ?aF ?aB ?aS ?aL ?_
           (case aR=>repeat(first|exact(Kd.V_reads' HO_841003.out).2.2|(with_reducible refine Kd.C_alloc ?_ _)|(with_reducible refine Kd.C_drewN ?_ _)|(with_reducible refine Kd.C_drew ?_)))
           (case aB=>exact(bl_ HB).out)
           (case aF=>exact(fun k_ hk=>(Nat.le_trans (below_size (bl_ HB).out) hk)))
           (case aO=>exact(kdR_ (Kd.R_mono HO853.out (fun _ hk=>hk.1))))
           (case aS=>exact(below_size (bl_ HB).out))
           (case aL=>have:=LMc64.out;omega)
           intro v855 w73 ho hb hg hat
           rw[← Ny854.out] at ho
           have n0_:=Aside0.mk (Kd.V_afterv (ok:=(fun k_=>(P0_4_ k_∨w.heap.size≤k_)∧k_≠gb822∧k_≠gb840∧k_≠gb847∧k_≠gb848∧k_≠gb857)) (kdV_ (Kd.V_mono HO_823004.out (fun _ hk=>⟨⟨hk.1.1.1,⟨hk.1.1.2.1,⟨hk.1.1.2.2.1,⟨hk.1.1.2.2.2.1,⟨hk.1.1.2.2.2.2,hk.2⟩⟩⟩⟩⟩,hk.1.2⟩))) hg hat)
           have n1_:=Aside0.mk (Kd.V_afterv (ok:=(fun k_=>(P0_4_ k_∨w.heap.size≤k_)∧k_≠gb822∧k_≠gb840∧k_≠gb847∧k_≠gb848∧k_≠gb857)) (kdV_ (Kd.V_mono HO_841003.out (fun _ hk=>⟨⟨hk.1.1.1,⟨hk.1.1.2.1,⟨hk.1.1.2.2.1,⟨hk.1.1.2.2.2.1,⟨hk.1.1.2.2.2.2,hk.2⟩⟩⟩⟩⟩,hk.1.2⟩))) hg hat)
           have n2_:=Aside0.mk (Kd.V_afterv (ok:=(fun k_=>(P0_4_ k_∨w.heap.size≤k_)∧k_≠gb822∧k_≠gb840∧k_≠gb847∧k_≠gb848∧k_≠gb857)) (kdV_ (Kd.V_mono HO_849003.out (fun _ hk=>⟨⟨hk.1.1.1,⟨hk.1.1.2.1,⟨hk.1.1.2.2.1,⟨hk.1.1.2.2.2.1,⟨hk.1.1.2.2.2.2,hk.2⟩⟩⟩⟩⟩,hk.1.2⟩))) hg hat)
           have n3_:=Aside0.mk (blk_grown (bk_ BK822).out hg (Kd.R_ne HO853.out BK822.out (by decide)))
           have n4_:=Aside0.mk (blk_grown (bk_ BK840).out hg (Kd.R_ne HO853.out BK840.out (by decide)))
           have n5_:=Aside0.mk (blk_grown (bk_ BK847).out hg (Kd.R_ne HO853.out BK847.out (by decide)))
           have n6_:=Aside0.mk (blk_grown (bk_ BK848).out hg (Kd.R_ne HO853.out BK848.out (by decide)))
           have n7_:=Aside0.mk (blk_grown (bk_ BK857).out hg (Kd.R_ne HO853.out BK857.out (by decide)))
           have n8_:=Aside0.mk (hb)
           have n9_:=Aside0.mk (ho)
           clear HO_823004
           clear HO_841003
           clear HO_849003
           clear BK822
           clear BK840
           clear BK847
           clear BK848
           clear BK857
           clear HB
           clear HO853
           have HO_823004:=n0_
           have HO_841003:=n1_
           have HO_849003:=n2_
           have BK822:=n3_
           have BK840:=n4_
           have BK847:=n5_
           have BK848:=n6_
           have BK857:=n7_
           have HB:=n8_
           have HO856:=n9_
           clear n0_ n1_ n2_ n3_ n4_ n5_ n6_ n7_ n8_ n9_
           clear ho hb hg hat
           obtain⟨Ao74,co74,eo74⟩:=Kd.R_slice HO856.out
           (first|subst eo74|(injection eo74 with f1_ f2_ f3_;have f4_:=f1_.symm;have f5_:=f3_.symm;clear f1_ f2_ f3_;subst f4_;subst f5_))
           refine hK.out _ _ ⟨bc_ BK840 0,bc_ BK840 1,bc_ BK840 2,bc_ BK840 3⟩ (fun hHeld=>?_)
           clear hK K
           refine nm_ 87 ?_
           refine pu_ 16 88 (bm_ 19 262143) HT_ ?_
           exact norm_ (by simp only[putAll,Act.put,List.setIfInBounds_toArray,List.set_cons_zero,List.set_cons_succ]) (hCont (v852,.slice Ao74 y854.length co74,gb857) _ ⟨hHeld,(kr_ HO856),(kdV_ (Kd.V_mono HO_823004.out (fun _ hk=>⟨hk.1.1,⟨hk.2,⟨hk.1.2.1,⟨hk.1.2.2.1,⟨hk.1.2.2.2.1,⟨hk.1.2.2.2.2.1,hk.1.2.2.2.2.2⟩⟩⟩⟩⟩⟩))),(kdV_ (Kd.V_mono HO_841003.out (fun _ hk=>⟨hk.1.1,⟨hk.2,⟨hk.1.2.1,⟨hk.1.2.2.1,⟨hk.1.2.2.2.1,⟨hk.1.2.2.2.2.1,hk.1.2.2.2.2.2⟩⟩⟩⟩⟩⟩))),(kdV_ (Kd.V_mono HO_849003.out (fun _ hk=>⟨hk.1.1,⟨hk.2,⟨hk.1.2.1,⟨hk.1.2.2.1,⟨hk.1.2.2.2.1,⟨hk.1.2.2.2.2.1,hk.1.2.2.2.2.2⟩⟩⟩⟩⟩⟩))),(bk_ BK822).out,(bk_ BK840).out,(bk_ BK847).out,(bk_ BK848).out,(bk_ BK857).out,GW857.out,GE857.out,NB822_857.out,NB857_822.out,NB840_857.out,NB857_840.out,NB847_857.out,NB857_847.out,NB848_857.out,NB857_848.out,(bl_ HB).out⟩)
         ·skip
          refine box_step ?hg (N:=18) ?hd (cs:= #[.int .u8 0,.int .i64 0,.bool false,.slice none 0 0]) (t:=53) ?hr ?_;(case hd=>rfl);(case hg=>rfl);(case hr=>first|(go_simp;done)|(go_simp;rfl))
          intro gb857 hg w70 hbox hb
          have n0_:=Aside0.mk (Kd.V_below (Kd.V_elderB (krV_ HO_823004) gb857 (Nat.le_of_eq hg.symm)) hb)
          have n1_:=Aside0.mk (Kd.V_below (Kd.V_elderB (krV_ HO_841003) gb857 (Nat.le_of_eq hg.symm)) hb)
          have n2_:=Aside0.mk (Kd.V_below (Kd.V_elderB (krV_ HO_849003) gb857 (Nat.le_of_eq hg.symm)) hb)
          have n3_:=bb_ BK822 hb
          have n4_:=bb_ BK840 hb
          have n5_:=bb_ BK847 hb
          have n6_:=bb_ BK848 hb
          have n7_:=Aside0.mk (below_step (bl_ HB).out hb)
          have n8_:=Aside0.mk (hbox)
          have n9_:=sz_ HB hg
          have n10_:=sz_ HB hg
          have n11_:=na_ BK822 hg
          have n12_:=nb_ BK822 hg
          have n13_:=na_ BK840 hg
          have n14_:=nb_ BK840 hg
          have n15_:=na_ BK847 hg
          have n16_:=nb_ BK847 hg
          have n17_:=na_ BK848 hg
          have n18_:=nb_ BK848 hg
          clear HO_823004
          clear HO_841003
          clear HO_849003
          clear BK822
          clear BK840
          clear BK847
          clear BK848
          clear HB
          have HO_823004:=n0_
          have HO_841003:=n1_
          have HO_849003:=n2_
          have BK822:=n3_
          have BK840:=n4_
          have BK847:=n5_
          have BK848:=n6_
          have HB:=n7_
          have BK857:=n8_
          have GW857:=n9_
          have GE857:=n10_
          have NB822_857:=n11_
          have NB857_822:=n12_
          have NB840_857:=n13_
          have NB857_840:=n14_
          have NB847_857:=n15_
          have NB857_847:=n16_
          have NB848_857:=n17_
          have NB857_848:=n18_
          clear n0_ n1_ n2_ n3_ n4_ n5_ n6_ n7_ n8_ n9_ n10_ n11_ n12_ n13_ n14_ n15_ n16_ n17_ n18_
          clear hb hbox hg
          refine hK.out _ _ ⟨bc_ BK840 0,bc_ BK840 1,bc_ BK840 2,bc_ BK840 3⟩ (fun hHeld=>?_)
          clear hK K
          refine nm_ 18 ?_
          refine one_ (i:=12) (N:=some 84) (bm_ 19 163839) rfl rfl (one_of HT_.out (by kernel_rfl)) (by decide) (fun K hK=>?_)
          refine Kd.R_lit_step k57 _ 57 ?hg (N:=84) ?hd (xs:=([(⟨Go.bits .and .i64 a1 65535,wrap64 ((Go.bits .and .i64 a1 65535)+(Go.bits .and .i64 a2 255))⟩:S57)]:List (S57))) (inner:=[.int .i64 (Go.bits .and .i64 a1 65535),.int .i64 (wrap64 ((Go.bits .and .i64 a1 65535)+(Go.bits .and .i64 a2 255)))]) (ok:=fun _=>True) (okp:=fun _=>True) ?hr ?hp (fun _ hk=>hk) trivial (Below.refl _ _) (Nat.le_refl _) (by simp) ?_;(case hd=>rfl);(case hg=>rfl);(case hr=>first|(go_simp;done)|(go_simp;rfl));(case hp=>exact(Reps.c2 (show Kd.M k57 _ _ _ (⟨Go.bits .and .i64 a1 65535,wrap64 ((Go.bits .and .i64 a1 65535)+(Go.bits .and .i64 a2 255))⟩:S57) [.int .i64 (Go.bits .and .i64 a1 65535),.int .i64 (wrap64 ((Go.bits .and .i64 a1 65535)+(Go.bits .and .i64 a2 255)))] from(k57_mkM _ _ _ (⟨Go.bits .and .i64 a1 65535,wrap64 ((Go.bits .and .i64 a1 65535)+(Go.bits .and .i64 a2 255))⟩:S57) )) (Reps.none _ _)))
          intro v852 w71 ho72 hb hg_ hnew_
          clear hg_ hnew_
          (first|rw[← Ny851.out] at ho72|(simp only[Int.reduceToNat] at ho72;rw[← Ny851.out] at ho72))
          have n0_:=Aside0.mk (Kd.V_elder' (krV_ HO_823004) (Kd.R_base ho72) hb)
          have n1_:=Aside0.mk (Kd.V_elder' (krV_ HO_841003) (Kd.R_base ho72) hb)
          have n2_:=Aside0.mk (Kd.V_elder' (krV_ HO_849003) (Kd.R_base ho72) hb)
          have n3_:=Aside0.mk (Kd.R_lower (Kd.R_newM (M:=fun k_=>(w.heap.size≤k_)) ho72 (below_size (bl_ HB).out) (fun k_ h_=>h_)) (below_size (bl_ HB).out))
          have n4_:=bb_ BK822 hb
          have n5_:=bb_ BK840 hb
          have n6_:=bb_ BK847 hb
          have n7_:=bb_ BK848 hb
          have n8_:=bb_ BK857 hb
          have n9_:=Aside0.mk (below_step (bl_ HB).out hb)
          clear HO_823004
          clear HO_841003
          clear HO_849003
          clear BK822
          clear BK840
          clear BK847
          clear BK848
          clear BK857
          clear HB
          have HO_823004:=n0_
          have HO_841003:=n1_
          have HO_849003:=n2_
          have HO853:=n3_
          have BK822:=n4_
          have BK840:=n5_
          have BK847:=n6_
          have BK848:=n7_
          have BK857:=n8_
          have HB:=n9_
          clear n0_ n1_ n2_ n3_ n4_ n5_ n6_ n7_ n8_ n9_
          clear hb ho72
          refine hK.out _ _ ⟨bc_ BK840 0,bc_ BK840 1,bc_ BK840 2,bc_ BK840 3⟩ (fun hHeld=>?_)
          clear hK K
          refine nm_ 84 ?_
          refine one_ (i:=15) (N:=some 87) (bm_ 19 196607) rfl rfl (one_of HT_.out (by kernel_rfl)) (by decide) (fun K hK=>?_)
          refine Kd.R_append_rows_step k57 (w0:=w) w.heap.size (by rfl) (.tmp 84) (.tmp 86) 51 57 (.agg #[(.int .i64 0),(.int .i64 0)]) 16 rfl Tryz.underlying51 info57 rfl (by decide) (by omega) v852 y851 ((rd_T53 (rd_L7 ((rd_T41 t833 0).f1) 0) 0).f3) _ _ _ (fun k_=>(w.heap.size≤k_)) (fun _=>False) rfl rfl ?aO ?aR (fun _ _ h=>h) (fun _ h=>h.elim) ?aF ?aB ?aS ?aL ?_
          (case aR=>repeat(first|exact(Kd.V_reads' HO_841003.out).2.2|(with_reducible refine Kd.C_alloc ?_ _)|(with_reducible refine Kd.C_drewN ?_ _)|(with_reducible refine Kd.C_drew ?_)))
          (case aB=>exact(bl_ HB).out)
          (case aF=>exact(fun k_ hk=>(Nat.le_trans (below_size (bl_ HB).out) hk)))
          (case aO=>exact(kdR_ (Kd.R_mono HO853.out (fun _ hk=>hk.1))))
          (case aS=>exact(below_size (bl_ HB).out))
          (case aL=>have:=LMc64.out;omega)
          intro v855 w73 ho hb hg hat
          rw[← Ny854.out] at ho
          have n0_:=Aside0.mk (Kd.V_afterv (ok:=(fun k_=>(P0_4_ k_∨w.heap.size≤k_)∧k_≠gb822∧k_≠gb840∧k_≠gb847∧k_≠gb848∧k_≠gb857)) (kdV_ (Kd.V_mono HO_823004.out (fun _ hk=>⟨⟨hk.1.1.1,⟨hk.1.1.2.1,⟨hk.1.1.2.2.1,⟨hk.1.1.2.2.2.1,⟨hk.1.1.2.2.2.2,hk.1.2⟩⟩⟩⟩⟩,hk.2⟩))) hg hat)
          have n1_:=Aside0.mk (Kd.V_afterv (ok:=(fun k_=>(P0_4_ k_∨w.heap.size≤k_)∧k_≠gb822∧k_≠gb840∧k_≠gb847∧k_≠gb848∧k_≠gb857)) (kdV_ (Kd.V_mono HO_841003.out (fun _ hk=>⟨⟨hk.1.1.1,⟨hk.1.1.2.1,⟨hk.1.1.2.2.1,⟨hk.1.1.2.2.2.1,⟨hk.1.1.2.2.2.2,hk.1.2⟩⟩⟩⟩⟩,hk.2⟩))) hg hat)
          have n2_:=Aside0.mk (Kd.V_afterv (ok:=(fun k_=>(P0_4_ k_∨w.heap.size≤k_)∧k_≠gb822∧k_≠gb840∧k_≠gb847∧k_≠gb848∧k_≠gb857)) (kdV_ (Kd.V_mono HO_849003.out (fun _ hk=>⟨⟨hk.1.1.1,⟨hk.1.1.2.1,⟨hk.1.1.2.2.1,⟨hk.1.1.2.2.2.1,⟨hk.1.1.2.2.2.2,hk.1.2⟩⟩⟩⟩⟩,hk.2⟩))) hg hat)
          have n3_:=Aside0.mk (blk_grown (bk_ BK822).out hg (Kd.R_ne HO853.out BK822.out (by decide)))
          have n4_:=Aside0.mk (blk_grown (bk_ BK840).out hg (Kd.R_ne HO853.out BK840.out (by decide)))
          have n5_:=Aside0.mk (blk_grown (bk_ BK847).out hg (Kd.R_ne HO853.out BK847.out (by decide)))
          have n6_:=Aside0.mk (blk_grown (bk_ BK848).out hg (Kd.R_ne HO853.out BK848.out (by decide)))
          have n7_:=Aside0.mk (blk_grown (bk_ BK857).out hg (Kd.R_ne HO853.out BK857.out (by decide)))
          have n8_:=Aside0.mk (hb)
          have n9_:=Aside0.mk (ho)
          clear HO_823004
          clear HO_841003
          clear HO_849003
          clear BK822
          clear BK840
          clear BK847
          clear BK848
          clear BK857
          clear HB
          clear HO853
          have HO_823004:=n0_
          have HO_841003:=n1_
          have HO_849003:=n2_
          have BK822:=n3_
          have BK840:=n4_
          have BK847:=n5_
          have BK848:=n6_
          have BK857:=n7_
          have HB:=n8_
          have HO856:=n9_
          clear n0_ n1_ n2_ n3_ n4_ n5_ n6_ n7_ n8_ n9_
          clear ho hb hg hat
          obtain⟨Ao74,co74,eo74⟩:=Kd.R_slice HO856.out
          (first|subst eo74|(injection eo74 with f1_ f2_ f3_;have f4_:=f1_.symm;have f5_:=f3_.symm;clear f1_ f2_ f3_;subst f4_;subst f5_))
          refine hK.out _ _ ⟨bc_ BK840 0,bc_ BK840 1,bc_ BK840 2,bc_ BK840 3⟩ (fun hHeld=>?_)
          clear hK K
          refine nm_ 87 ?_
          refine pu_ 16 88 (bm_ 19 262143) HT_ ?_
          exact norm_ (by simp only[putAll,Act.put,List.setIfInBounds_toArray,List.set_cons_zero,List.set_cons_succ]) (hCont (v852,.slice Ao74 y854.length co74,gb857) _ ⟨hHeld,(kr_ HO856),(kdV_ (Kd.V_mono HO_823004.out (fun _ hk=>⟨hk.1.1,⟨hk.2,⟨hk.1.2.1,⟨hk.1.2.2.1,⟨hk.1.2.2.2.1,⟨hk.1.2.2.2.2.1,hk.1.2.2.2.2.2⟩⟩⟩⟩⟩⟩))),(kdV_ (Kd.V_mono HO_841003.out (fun _ hk=>⟨hk.1.1,⟨hk.2,⟨hk.1.2.1,⟨hk.1.2.2.1,⟨hk.1.2.2.2.1,⟨hk.1.2.2.2.2.1,hk.1.2.2.2.2.2⟩⟩⟩⟩⟩⟩))),(kdV_ (Kd.V_mono HO_849003.out (fun _ hk=>⟨hk.1.1,⟨hk.2,⟨hk.1.2.1,⟨hk.1.2.2.1,⟨hk.1.2.2.2.1,⟨hk.1.2.2.2.2.1,hk.1.2.2.2.2.2⟩⟩⟩⟩⟩⟩))),(bk_ BK822).out,(bk_ BK840).out,(bk_ BK847).out,(bk_ BK848).out,(bk_ BK857).out,GW857.out,GE857.out,NB822_857.out,NB857_822.out,NB840_857.out,NB857_840.out,NB847_857.out,NB857_847.out,NB848_857.out,NB857_848.out,(bl_ HB).out⟩)
        rintro⟨v852,v855,gb857⟩ w75 ⟨hS_,h0_,h1_,h2_,h3_,h4_,h5_,h6_,h7_,h8_,h9_,h10_,h11_,h12_,h13_,h14_,h15_,h16_,h17_,h18_,h19_⟩
        have n0_:Aside0 (Kd.R k57 57 w75 w.heap.size (fun k_=>(w.heap.size≤k_)) v855 y854):=⟨h0_⟩
        have n1_:Aside0 (Kd.V k139 139 w75 w.heap.size (fun k_=>(P0_4_ k_∨w.heap.size≤k_)∧some k_≠(v855:Value).ownBlock∧k_≠gb822∧k_≠gb840∧k_≠gb847∧k_≠gb848∧k_≠gb857) (.slice A0_4 l0_4.length c0_4) l0_4):=⟨h1_⟩
        have n2_:Aside0 (Kd.V k57 57 w75 w.heap.size (fun k_=>(P0_4_ k_∨w.heap.size≤k_)∧some k_≠(v855:Value).ownBlock∧k_≠gb822∧k_≠gb840∧k_≠gb847∧k_≠gb848∧k_≠gb857) (.slice A839_3 ((rd_T53 (rd_L7 ((rd_T41 t833 0).f1) 0) 0).f3).length c839_3) ((rd_T53 (rd_L7 ((rd_T41 t833 0).f1) 0) 0).f3)):=⟨h2_⟩
        have n3_:Aside0 (Kd.V k57 57 w75 w.heap.size (fun k_=>(P0_4_ k_∨w.heap.size≤k_)∧some k_≠(v855:Value).ownBlock∧k_≠gb822∧k_≠gb840∧k_≠gb847∧k_≠gb848∧k_≠gb857) (.slice A839_3 ((rd_T53 (rd_L7 ((rd_T41 t833 0).f1) 0) 0).f3).length c839_3) ((rd_T53 (rd_L7 ((rd_T41 t833 0).f1) 0) 0).f3)):=⟨h3_⟩
        have n4_:Aside0 (w75.heap[gb822]? = some (.cells #[.int .i64 a0_0,.int .i64 a0_1,.int .i64 a0_2,.bool a0_3,.slice A0_4 l0_4.length c0_4] 46 (0,0))):=⟨h4_⟩
        have n5_:Aside0 (w75.heap[gb840]? = some (.cells #[.int .u8 ((rd_T53 (rd_L7 ((rd_T41 t833 0).f1) 0) 0).f0),.int .i64 ((rd_T53 (rd_L7 ((rd_T41 t833 0).f1) 0) 0).f1),.bool x841002_26,.slice A839_3 ((rd_T53 (rd_L7 ((rd_T41 t833 0).f1) 0) 0).f3).length c839_3] 53 (0,0))):=⟨h5_⟩
        have n6_:Aside0 (w75.heap[gb847]? = some (.cells #[.string t844,.string t845,.int .i64 t846] 27 (0,0))):=⟨h6_⟩
        have n7_:Aside0 (w75.heap[gb848]? = some (.cells #[.int .u8 ((rd_T53 (rd_L7 ((rd_T41 t833 0).f1) 0) 0).f0),.int .i64 ((rd_T53 (rd_L7 ((rd_T41 t833 0).f1) 0) 0).f1),.bool (!((rd_T53 (rd_L7 ((rd_T41 t833 0).f1) 0) 0).f2)),.slice A839_3 ((rd_T53 (rd_L7 ((rd_T41 t833 0).f1) 0) 0).f3).length c839_3] 53 (0,0))):=⟨h7_⟩
        have n8_:Aside0 (w75.heap[gb857]? = some (.cells #[.int .u8 0,.int .i64 0,.bool false,.slice none 0 0] 53 (0,0))):=⟨h8_⟩
        have n9_:Aside0 (w.heap.size≤gb857):=⟨h9_⟩
        have n10_:Aside0 (w.heap.size≤gb857):=⟨h10_⟩
        have n11_:Aside0 (gb822≠gb857):=⟨h11_⟩
        have n12_:Aside0 (gb857≠gb822):=⟨h12_⟩
        have n13_:Aside0 (gb840≠gb857):=⟨h13_⟩
        have n14_:Aside0 (gb857≠gb840):=⟨h14_⟩
        have n15_:Aside0 (gb847≠gb857):=⟨h15_⟩
        have n16_:Aside0 (gb857≠gb847):=⟨h16_⟩
        have n17_:Aside0 (gb848≠gb857):=⟨h17_⟩
        have n18_:Aside0 (gb857≠gb848):=⟨h18_⟩
        have n19_:Aside0 (Below w.heap.size w w75):=⟨h19_⟩
        clear HO_823004
        clear HO_841003
        clear HO_849003
        clear BK822
        clear BK840
        clear BK847
        clear BK848
        clear HB
        clear h0_ h1_ h2_ h3_ h4_ h5_ h6_ h7_ h8_ h9_ h10_ h11_ h12_ h13_ h14_ h15_ h16_ h17_ h18_ h19_
        have HO856:=n0_
        have HO_823004:=n1_
        have HO_841003:=n2_
        have HO_849003:=n3_
        have BK822:=n4_
        have BK840:=n5_
        have BK847:=n6_
        have BK848:=n7_
        have BK857:=n8_
        have GW857:=n9_
        have GE857:=n10_
        have NB822_857:=n11_
        have NB857_822:=n12_
        have NB840_857:=n13_
        have NB857_840:=n14_
        have NB847_857:=n15_
        have NB857_847:=n16_
        have NB848_857:=n17_
        have NB857_848:=n18_
        have HB:=n19_
        clear n0_ n1_ n2_ n3_ n4_ n5_ n6_ n7_ n8_ n9_ n10_ n11_ n12_ n13_ n14_ n15_ n16_ n17_ n18_ n19_
        have hHeld:w75.cell? ⟨gb840,0,none⟩=some (.int .u8 ((rd_T53 (rd_L7 ((rd_T41 t833 0).f1) 0) 0).f0))∧w75.cell? ⟨gb840,1,none⟩=some (.int .i64 ((rd_T53 (rd_L7 ((rd_T41 t833 0).f1) 0) 0).f1))∧w75.cell? ⟨gb840,2,none⟩=some (.bool x841002_26)∧w75.cell? ⟨gb840,3,none⟩=some (.slice A839_3 ((rd_T53 (rd_L7 ((rd_T41 t833 0).f1) 0) 0).f3).length c839_3):=hS_
        obtain⟨Ao76,co76,eo76⟩:=Kd.R_slice HO856.out
        (first|subst eo76|(injection eo76 with f1_ f2_ f3_;have f4_:=f1_.symm;have f5_:=f3_.symm;clear f1_ f2_ f3_;subst f4_;subst f5_))
        refine norm_ (a':=?_) ?_ ?_
        rotate_left
        ·simp only[putAll,Act.put,List.setIfInBounds_toArray,List.set_cons_zero,List.set_cons_succ]
         rfl
        refine one_ (i:=18) (N:=none) (bm_ 19 524287) rfl rfl (one_of HT_.out (by kernel_rfl)) (by decide) (fun K hK=>?_)
        have hs77:w75.cell? ⟨gb857,0,none⟩=some (.int .u8 0):=bc_ BK857 0
        have hfs77:=blk_frozen BK857.out 0
        have hns77_0:=NB822_857.out
        have hns77_1:=NB840_857.out
        have hns77_2:=NB847_857.out
        have hns77_3:=NB848_857.out
        have hms77_0:=NB857_822.out
        have hms77_1:=NB857_840.out
        have hms77_2:=NB857_847.out
        have hms77_3:=NB857_848.out
        have hs78:w75.cell? ⟨gb857,1,none⟩=some (.int .i64 0):=bc_ BK857 1
        have hfs78:=blk_frozen BK857.out 1
        have hns78_0:=NB822_857.out
        have hns78_1:=NB840_857.out
        have hns78_2:=NB847_857.out
        have hns78_3:=NB848_857.out
        have hms78_0:=NB857_822.out
        have hms78_1:=NB857_840.out
        have hms78_2:=NB857_847.out
        have hms78_3:=NB857_848.out
        have hs79:w75.cell? ⟨gb857,2,none⟩=some (.bool false):=bc_ BK857 2
        have hfs79:=blk_frozen BK857.out 2
        have hns79_0:=NB822_857.out
        have hns79_1:=NB840_857.out
        have hns79_2:=NB847_857.out
        have hns79_3:=NB848_857.out
        have hms79_0:=NB857_822.out
        have hms79_1:=NB857_840.out
        have hms79_2:=NB857_847.out
        have hms79_3:=NB857_848.out
        have hs80:w75.cell? ⟨gb857,3,none⟩=some (.slice none 0 0):=bc_ BK857 3
        have hfs80:=blk_frozen BK857.out 3
        have hns80_0:=NB822_857.out
        have hns80_1:=NB840_857.out
        have hns80_2:=NB847_857.out
        have hns80_3:=NB848_857.out
        have hms80_0:=NB857_822.out
        have hms80_1:=NB857_840.out
        have hms80_2:=NB857_847.out
        have hms80_3:=NB857_848.out
        refine skip_ (w1:=?_) (by rfl) rfl ?_ ?_
        rotate_left
        ·go_simp
         rfl
        refine hK.out _ _ ⟨((cell_far (p:=⟨gb857,_,none⟩) NB840_857.out _).trans (((cell_far (p:=⟨gb857,_,none⟩) NB840_857.out _).trans (((cell_far (p:=⟨gb857,_,none⟩) NB840_857.out _).trans (((cell_far (p:=⟨gb857,_,none⟩) NB840_857.out _).trans (hHeld.1)))))))),((cell_far (p:=⟨gb857,_,none⟩) NB840_857.out _).trans (((cell_far (p:=⟨gb857,_,none⟩) NB840_857.out _).trans (((cell_far (p:=⟨gb857,_,none⟩) NB840_857.out _).trans (((cell_far (p:=⟨gb857,_,none⟩) NB840_857.out _).trans (hHeld.2.1)))))))),((cell_far (p:=⟨gb857,_,none⟩) NB840_857.out _).trans (((cell_far (p:=⟨gb857,_,none⟩) NB840_857.out _).trans (((cell_far (p:=⟨gb857,_,none⟩) NB840_857.out _).trans (((cell_far (p:=⟨gb857,_,none⟩) NB840_857.out _).trans (hHeld.2.2.1)))))))),((cell_far (p:=⟨gb857,_,none⟩) NB840_857.out _).trans (((cell_far (p:=⟨gb857,_,none⟩) NB840_857.out _).trans (((cell_far (p:=⟨gb857,_,none⟩) NB840_857.out _).trans (((cell_far (p:=⟨gb857,_,none⟩) NB840_857.out _).trans (hHeld.2.2.2))))))))⟩ (fun hHeld=>?_)
        clear hK K
        refine done_ (done_of HT_.out (by kernel_rfl)) ?_
        try go_wp2
        obtain⟨w81,hWz2⟩:∃W_,W_=((((w75.setCell ⟨gb857,0,none⟩ (.int .u8 ((rd_T53 (rd_L7 ((rd_T41 t833 0).f1) 0) 0).f0))).setCell ⟨gb857,1,none⟩ (.int .i64 ((rd_T53 (rd_L7 ((rd_T41 t833 0).f1) 0) 0).f1))).setCell ⟨gb857,2,none⟩ (.bool false)).setCell ⟨gb857,3,none⟩ (.slice Ao76 y854.length co76)):=⟨_,rfl⟩
        have n0_:Aside0 (Kd.V k139 139 w81 w.heap.size (fun k_=>(P0_4_ k_∨w.heap.size≤k_)∧some k_≠(.slice Ao76 y854.length co76:Value).ownBlock∧k_≠gb822∧k_≠gb840∧k_≠gb847∧k_≠gb848∧k_≠gb857) (.slice A0_4 l0_4.length c0_4) l0_4):=by rw[hWz2];exact⟨kdV_ (Kd.V_mono (Kd.V_far (Kd.V_far (Kd.V_far (Kd.V_far (Kd.V_mono HO_823004.out (fun k_ hk=>(⟨hk,hk.2.2.2.2.2.2⟩:_∧k_≠gb857))) (fun _ hk=>hk.2) _) (fun _ hk=>hk.2) _) (fun _ hk=>hk.2) _) (fun _ hk=>hk.2) _) (fun _ hk=>⟨hk.1.1,⟨hk.1.2.1,⟨hk.1.2.2.1,⟨hk.1.2.2.2.1,⟨hk.1.2.2.2.2.1,⟨hk.1.2.2.2.2.2.1,hk.1.2.2.2.2.2.2⟩⟩⟩⟩⟩⟩))⟩
        have n1_:Aside0 (Kd.V k57 57 w81 w.heap.size (fun k_=>(P0_4_ k_∨w.heap.size≤k_)∧some k_≠(.slice Ao76 y854.length co76:Value).ownBlock∧k_≠gb822∧k_≠gb840∧k_≠gb847∧k_≠gb848∧k_≠gb857) (.slice A839_3 ((rd_T53 (rd_L7 ((rd_T41 t833 0).f1) 0) 0).f3).length c839_3) ((rd_T53 (rd_L7 ((rd_T41 t833 0).f1) 0) 0).f3)):=by rw[hWz2];exact⟨kdV_ (Kd.V_mono (Kd.V_far (Kd.V_far (Kd.V_far (Kd.V_far (Kd.V_mono HO_841003.out (fun k_ hk=>(⟨hk,hk.2.2.2.2.2.2⟩:_∧k_≠gb857))) (fun _ hk=>hk.2) _) (fun _ hk=>hk.2) _) (fun _ hk=>hk.2) _) (fun _ hk=>hk.2) _) (fun _ hk=>⟨hk.1.1,⟨hk.1.2.1,⟨hk.1.2.2.1,⟨hk.1.2.2.2.1,⟨hk.1.2.2.2.2.1,⟨hk.1.2.2.2.2.2.1,hk.1.2.2.2.2.2.2⟩⟩⟩⟩⟩⟩))⟩
        have n2_:Aside0 (Kd.V k57 57 w81 w.heap.size (fun k_=>(P0_4_ k_∨w.heap.size≤k_)∧some k_≠(.slice Ao76 y854.length co76:Value).ownBlock∧k_≠gb822∧k_≠gb840∧k_≠gb847∧k_≠gb848∧k_≠gb857) (.slice A839_3 ((rd_T53 (rd_L7 ((rd_T41 t833 0).f1) 0) 0).f3).length c839_3) ((rd_T53 (rd_L7 ((rd_T41 t833 0).f1) 0) 0).f3)):=by rw[hWz2];exact⟨kdV_ (Kd.V_mono (Kd.V_far (Kd.V_far (Kd.V_far (Kd.V_far (Kd.V_mono HO_849003.out (fun k_ hk=>(⟨hk,hk.2.2.2.2.2.2⟩:_∧k_≠gb857))) (fun _ hk=>hk.2) _) (fun _ hk=>hk.2) _) (fun _ hk=>hk.2) _) (fun _ hk=>hk.2) _) (fun _ hk=>⟨hk.1.1,⟨hk.1.2.1,⟨hk.1.2.2.1,⟨hk.1.2.2.2.1,⟨hk.1.2.2.2.2.1,⟨hk.1.2.2.2.2.2.1,hk.1.2.2.2.2.2.2⟩⟩⟩⟩⟩⟩))⟩
        have n3_:Aside0 (Kd.R k57 57 w81 w.heap.size (fun k_=>(w.heap.size≤k_)) (.slice Ao76 y854.length co76) y854):=by rw[hWz2];exact⟨kdR_ (Kd.R_mono (Kd.R_far (Kd.R_far (Kd.R_far (Kd.R_far (Kd.R_types HO856.out BK857.out (by decide)) (fun _ hk=>hk.2) _) (fun _ hk=>hk.2) _) (fun _ hk=>hk.2) _) (fun _ hk=>hk.2) _) (fun _ hk=>hk.1))⟩
        have n4_:=wh_ hWz2 (bf_ BK822)
        have n5_:=wh_ hWz2 (bf_ BK840)
        have n6_:=wh_ hWz2 (bf_ BK847)
        have n7_:=wh_ hWz2 (bf_ BK848)
        have n8_:Aside0 (w81.heap[gb857]? = some (.cells #[.int .u8 ((rd_T53 (rd_L7 ((rd_T41 t833 0).f1) 0) 0).f0),.int .i64 ((rd_T53 (rd_L7 ((rd_T41 t833 0).f1) 0) 0).f1),.bool false,.slice Ao76 y854.length co76] 53 (0,0))):=by rw[hWz2];exact⟨(bp_ BK857).out⟩
        have n9_:=wb_ hWz2 (bl_ HB)
        (try clear HO_823004)
        (try clear HO_841003)
        (try clear HO_849003)
        (try clear HO856)
        (try clear BK822)
        (try clear BK840)
        (try clear BK847)
        (try clear BK848)
        (try clear BK857)
        (try clear HB)
        rw[← hWz2]
        clear hWz2
        have HO_823004:=n0_
        have HO_841003:=n1_
        have HO_849003:=n2_
        have HO856:=n3_
        have BK822:=n4_
        have BK840:=n5_
        have BK847:=n6_
        have BK848:=n7_
        have BK857:=n8_
        have HB:=n9_
        clear n0_ n1_ n2_ n3_ n4_ n5_ n6_ n7_ n8_ n9_
        replace HO_823004:=Aside0.mk (Kd.V_drew HO_823004.out)
        replace HO_841003:=Aside0.mk (Kd.V_drew HO_841003.out)
        replace HO_849003:=Aside0.mk (Kd.V_drew HO_849003.out)
        replace HO856:=Aside0.mk (Kd.R_drew HO856.out)
        replace BK822:=Aside0.mk (blk_drew BK822.out)
        replace BK840:=Aside0.mk (blk_drew BK840.out)
        replace BK847:=Aside0.mk (blk_drew BK847.out)
        replace BK848:=Aside0.mk (blk_drew BK848.out)
        replace BK857:=Aside0.mk (blk_drew BK857.out)
        replace HB:=Aside0.mk (below_drew1 HB.out)
        have q83:(1:Int)≤((y854.length:Int):Int):=od_
        obtain⟨i083,hi083,_,hsz83,_⟩:=info_parts info57
        have hroom83:y854.length≤co76:=(Kd.R_reads' HO856.out).2.1
        have hC83:Kd.F k57 _ _ Ao76 y854.length y854:=(Kd.V_at (base:=w.heap.size) (Kd.V_mono (ok':=(fun k_=>((((((P0_4_ k_∨w.heap.size≤k_)∧k_≠gb822)∧k_≠gb840)∧k_≠gb847)∧k_≠gb848)∧k_≠gb857))) (Kd.R_V (Kd.R_types (Kd.R_types (Kd.R_types (Kd.R_types (Kd.R_types (HO856.out) BK822.out (by decide)) BK840.out (by decide)) BK847.out (by decide)) BK848.out (by decide)) BK857.out (by decide))) (fun k_ hk=>⟨⟨⟨⟨⟨(.inr (hk.1.1.1.1.1)),hk.1.1.1.1.2⟩,hk.1.1.1.2⟩,hk.1.1.2⟩,hk.1.2⟩,hk.2⟩))).2.2
        have hcut83:=cut_to (P:=Tryz.prog) 51 57 .i64 Tryz.underlying51 hi083 Ao76 y854.length co76 1 (by omega) q83 hroom83
        have hr83:=Kd.F_take (m:=1) hC83 (by omega)
        have hy83:y858.length=(1:Int).toNat:=(by rw[Ny858.out,List.length_take];omega)
        rw[← Ny858.out] at hr83
        rw[← hy83] at hcut83
        have HO862:=Aside0.mk (show Kd.V k57 57 _ w.heap.size _ (.slice Ao76 y858.length co76) y858 from Kd.V_mk (by omega) hr83)
        have HC862:=Aside0.mk (show y858.length≤co76 from by omega)
        clear hr83 hC83 hroom83 hi083 hsz83
        have KY83:=Aside0.mk hy83
        clear hy83
        replace q83:=eq_true q83
        refine start_ (n:=10) (S:=fun w'=>w'.cell? ⟨gb840,0,none⟩=some (.int .u8 ((rd_T53 (rd_L7 ((rd_T41 t833 0).f1) 0) 0).f0))∧w'.cell? ⟨gb840,1,none⟩=some (.int .i64 ((rd_T53 (rd_L7 ((rd_T41 t833 0).f1) 0) 0).f1))∧w'.cell? ⟨gb840,2,none⟩=some (.bool x841002_26)∧w'.cell? ⟨gb840,3,none⟩=some (.slice A839_3 ((rd_T53 (rd_L7 ((rd_T41 t833 0).f1) 0) 0).f3).length c839_3)∧w'.cell? ⟨gb857,0,none⟩=some (.int .u8 ((rd_T53 (rd_L7 ((rd_T41 t833 0).f1) 0) 0).f0))∧w'.cell? ⟨gb857,1,none⟩=some (.int .i64 ((rd_T53 (rd_L7 ((rd_T41 t833 0).f1) 0) 0).f1))∧w'.cell? ⟨gb857,2,none⟩=some (.bool false)∧w'.cell? ⟨gb857,3,none⟩=some (.slice Ao76 y854.length co76)) (ds:=[]) #[false,false,false,false,false,false,false,false,false,false] (by kernel_rfl) rfl rfl ⟨bc_ BK840 0,bc_ BK840 1,bc_ BK840 2,bc_ BK840 3,bc_ BK857 0,bc_ BK857 1,bc_ BK857 2,bc_ BK857 3⟩ (fun hHeld=>?_);refine with_tabW florinlaw07_EvalNots.tab14 florinlaw07_EvalNots.bits14 (fun HT_ HW_=>?_)
        generalize w81.drew=w82 at HO_823004 HO_841003 HO_849003 HO856 BK822 BK840 BK847 BK848 BK857 HB HO862 hHeld ⊢
        refine pu_ 0 89 (bm_ 10 1) HT_ ?_
        refine pu_ 2 91 (bm_ 10 5) HT_ ?_
        refine pu_ 4 93 (bm_ 10 21) HT_ ?_
        refine tk_ 1 90 (bm_ 10 23) HT_ HW_ hHeld rfl (by rintro w' ⟨s0,s1,s2,s3,s4,s5,s6,s7⟩;go_simp;with_reducible rfl) ?_
        refine tk_ 3 92 (bm_ 10 31) HT_ HW_ hHeld rfl (by rintro w' ⟨s0,s1,s2,s3,s4,s5,s6,s7⟩;go_simp;with_reducible rfl) ?_
        refine tk_ 5 94 (bm_ 10 63) HT_ HW_ hHeld rfl (by rintro w' ⟨s0,s1,s2,s3,s4,s5,s6,s7⟩;go_simp;with_reducible rfl) ?_
        refine pu_ 6 95 (bm_ 10 127) HT_ ?_
        refine pu_ 7 96 (bm_ 10 255) HT_ ?_
        refine one_ (i:=8) (N:=some 19) (bm_ 10 511) rfl rfl (one_of HT_.out (by kernel_rfl)) (by decide) (fun K hK=>?_)
        refine box_step ?hg (N:=19) ?hd (cs:= #[.int .u8 0,.int .i64 0,.bool false,.slice none 0 0]) (t:=53) ?hr ?_;(case hd=>rfl);(case hg=>rfl);(case hr=>first|(go_simp;done)|(go_simp;rfl))
        intro gb863 hg w84 hbox hb
        have n0_:=Aside0.mk (Kd.V_below (Kd.V_elderB (krV_ HO_823004) gb863 (Nat.le_of_eq hg.symm)) hb)
        have n1_:=Aside0.mk (Kd.V_below (Kd.V_elderB (krV_ HO_841003) gb863 (Nat.le_of_eq hg.symm)) hb)
        have n2_:=Aside0.mk (Kd.V_below (Kd.V_elderB (krV_ HO_849003) gb863 (Nat.le_of_eq hg.symm)) hb)
        have n3_:=kb_ HO856 hb
        have n4_:=Aside0.mk (Kd.V_below (Kd.V_elderB (krV_ HO862) gb863 (Nat.le_of_eq hg.symm)) hb)
        have n5_:=bb_ BK822 hb
        have n6_:=bb_ BK840 hb
        have n7_:=bb_ BK847 hb
        have n8_:=bb_ BK848 hb
        have n9_:=bb_ BK857 hb
        have n10_:=Aside0.mk (below_step (bl_ HB).out hb)
        have n11_:=Aside0.mk (hbox)
        have n12_:=sz_ HB hg
        have n13_:=sz_ HB hg
        have n14_:=na_ BK822 hg
        have n15_:=nb_ BK822 hg
        have n16_:=na_ BK840 hg
        have n17_:=nb_ BK840 hg
        have n18_:=na_ BK847 hg
        have n19_:=nb_ BK847 hg
        have n20_:=na_ BK848 hg
        have n21_:=nb_ BK848 hg
        have n22_:=na_ BK857 hg
        have n23_:=nb_ BK857 hg
        clear HO_823004
        clear HO_841003
        clear HO_849003
        clear HO856
        clear HO862
        clear BK822
        clear BK840
        clear BK847
        clear BK848
        clear BK857
        clear HB
        have HO_823004:=n0_
        have HO_841003:=n1_
        have HO_849003:=n2_
        have HO856:=n3_
        have HO862:=n4_
        have BK822:=n5_
        have BK840:=n6_
        have BK847:=n7_
        have BK848:=n8_
        have BK857:=n9_
        have HB:=n10_
        have BK863:=n11_
        have GW863:=n12_
        have GE863:=n13_
        have NB822_863:=n14_
        have NB863_822:=n15_
        have NB840_863:=n16_
        have NB863_840:=n17_
        have NB847_863:=n18_
        have NB863_847:=n19_
        have NB848_863:=n20_
        have NB863_848:=n21_
        have NB857_863:=n22_
        have NB863_857:=n23_
        clear n0_ n1_ n2_ n3_ n4_ n5_ n6_ n7_ n8_ n9_ n10_ n11_ n12_ n13_ n14_ n15_ n16_ n17_ n18_ n19_ n20_ n21_ n22_ n23_
        clear hb hbox hg
        refine hK.out _ _ ⟨bc_ BK840 0,bc_ BK840 1,bc_ BK840 2,bc_ BK840 3,bc_ BK857 0,bc_ BK857 1,bc_ BK857 2,bc_ BK857 3⟩ (fun hHeld=>?_)
        clear hK K
        refine nm_ 19 ?_
        refine one_ (i:=9) (N:=none) (bm_ 10 1023) rfl rfl (one_of HT_.out (by kernel_rfl)) (by decide) (fun K hK=>?_)
        have hs85:w84.cell? ⟨gb863,0,none⟩=some (.int .u8 0):=bc_ BK863 0
        have hfs85:=blk_frozen BK863.out 0
        have hns85_0:=NB822_863.out
        have hns85_1:=NB840_863.out
        have hns85_2:=NB847_863.out
        have hns85_3:=NB848_863.out
        have hns85_4:=NB857_863.out
        have hms85_0:=NB863_822.out
        have hms85_1:=NB863_840.out
        have hms85_2:=NB863_847.out
        have hms85_3:=NB863_848.out
        have hms85_4:=NB863_857.out
        have hs86:w84.cell? ⟨gb863,1,none⟩=some (.int .i64 0):=bc_ BK863 1
        have hfs86:=blk_frozen BK863.out 1
        have hns86_0:=NB822_863.out
        have hns86_1:=NB840_863.out
        have hns86_2:=NB847_863.out
        have hns86_3:=NB848_863.out
        have hns86_4:=NB857_863.out
        have hms86_0:=NB863_822.out
        have hms86_1:=NB863_840.out
        have hms86_2:=NB863_847.out
        have hms86_3:=NB863_848.out
        have hms86_4:=NB863_857.out
        have hs87:w84.cell? ⟨gb863,2,none⟩=some (.bool false):=bc_ BK863 2
        have hfs87:=blk_frozen BK863.out 2
        have hns87_0:=NB822_863.out
        have hns87_1:=NB840_863.out
        have hns87_2:=NB847_863.out
        have hns87_3:=NB848_863.out
        have hns87_4:=NB857_863.out
        have hms87_0:=NB863_822.out
        have hms87_1:=NB863_840.out
        have hms87_2:=NB863_847.out
        have hms87_3:=NB863_848.out
        have hms87_4:=NB863_857.out
        have hs88:w84.cell? ⟨gb863,3,none⟩=some (.slice none 0 0):=bc_ BK863 3
        have hfs88:=blk_frozen BK863.out 3
        have hns88_0:=NB822_863.out
        have hns88_1:=NB840_863.out
        have hns88_2:=NB847_863.out
        have hns88_3:=NB848_863.out
        have hns88_4:=NB857_863.out
        have hms88_0:=NB863_822.out
        have hms88_1:=NB863_840.out
        have hms88_2:=NB863_847.out
        have hms88_3:=NB863_848.out
        have hms88_4:=NB863_857.out
        refine skip_ (w1:=?_) (by rfl) rfl ?_ ?_
        rotate_left
        ·go_simp
         rfl
        refine hK.out _ _ ⟨((cell_far (p:=⟨gb863,_,none⟩) NB840_863.out _).trans (((cell_far (p:=⟨gb863,_,none⟩) NB840_863.out _).trans (((cell_far (p:=⟨gb863,_,none⟩) NB840_863.out _).trans (((cell_far (p:=⟨gb863,_,none⟩) NB840_863.out _).trans (hHeld.1)))))))),((cell_far (p:=⟨gb863,_,none⟩) NB840_863.out _).trans (((cell_far (p:=⟨gb863,_,none⟩) NB840_863.out _).trans (((cell_far (p:=⟨gb863,_,none⟩) NB840_863.out _).trans (((cell_far (p:=⟨gb863,_,none⟩) NB840_863.out _).trans (hHeld.2.1)))))))),((cell_far (p:=⟨gb863,_,none⟩) NB840_863.out _).trans (((cell_far (p:=⟨gb863,_,none⟩) NB840_863.out _).trans (((cell_far (p:=⟨gb863,_,none⟩) NB840_863.out _).trans (((cell_far (p:=⟨gb863,_,none⟩) NB840_863.out _).trans (hHeld.2.2.1)))))))),((cell_far (p:=⟨gb863,_,none⟩) NB840_863.out _).trans (((cell_far (p:=⟨gb863,_,none⟩) NB840_863.out _).trans (((cell_far (p:=⟨gb863,_,none⟩) NB840_863.out _).trans (((cell_far (p:=⟨gb863,_,none⟩) NB840_863.out _).trans (hHeld.2.2.2.1)))))))),((cell_far (p:=⟨gb863,_,none⟩) NB857_863.out _).trans (((cell_far (p:=⟨gb863,_,none⟩) NB857_863.out _).trans (((cell_far (p:=⟨gb863,_,none⟩) NB857_863.out _).trans (((cell_far (p:=⟨gb863,_,none⟩) NB857_863.out _).trans (hHeld.2.2.2.2.1)))))))),((cell_far (p:=⟨gb863,_,none⟩) NB857_863.out _).trans (((cell_far (p:=⟨gb863,_,none⟩) NB857_863.out _).trans (((cell_far (p:=⟨gb863,_,none⟩) NB857_863.out _).trans (((cell_far (p:=⟨gb863,_,none⟩) NB857_863.out _).trans (hHeld.2.2.2.2.2.1)))))))),((cell_far (p:=⟨gb863,_,none⟩) NB857_863.out _).trans (((cell_far (p:=⟨gb863,_,none⟩) NB857_863.out _).trans (((cell_far (p:=⟨gb863,_,none⟩) NB857_863.out _).trans (((cell_far (p:=⟨gb863,_,none⟩) NB857_863.out _).trans (hHeld.2.2.2.2.2.2.1)))))))),((cell_far (p:=⟨gb863,_,none⟩) NB857_863.out _).trans (((cell_far (p:=⟨gb863,_,none⟩) NB857_863.out _).trans (((cell_far (p:=⟨gb863,_,none⟩) NB857_863.out _).trans (((cell_far (p:=⟨gb863,_,none⟩) NB857_863.out _).trans (hHeld.2.2.2.2.2.2.2))))))))⟩ (fun hHeld=>?_)
        clear hK K
        refine done_ (done_of HT_.out (by kernel_rfl)) ?_
        try go_wp2
        obtain⟨w89,hWz3⟩:∃W_,W_=((((w84.setCell ⟨gb863,0,none⟩ (.int .u8 ((rd_T53 (rd_L7 ((rd_T41 t833 0).f1) 0) 0).f0))).setCell ⟨gb863,1,none⟩ (.int .i64 ((rd_T53 (rd_L7 ((rd_T41 t833 0).f1) 0) 0).f1))).setCell ⟨gb863,2,none⟩ (.bool false)).setCell ⟨gb863,3,none⟩ (.slice Ao76 y858.length co76)):=⟨_,rfl⟩
        have n0_:Aside0 (Kd.V k139 139 w89 w.heap.size (fun k_=>(P0_4_ k_∨w.heap.size≤k_)∧some k_≠(.slice Ao76 y854.length co76:Value).ownBlock∧k_≠gb822∧k_≠gb840∧k_≠gb847∧k_≠gb848∧k_≠gb857∧k_≠gb863) (.slice A0_4 l0_4.length c0_4) l0_4):=by rw[hWz3];exact⟨kdV_ (Kd.V_mono (Kd.V_far (Kd.V_far (Kd.V_far (Kd.V_far (Kd.V_mono HO_823004.out (fun k_ hk=>(⟨hk,hk.2⟩:_∧k_≠gb863))) (fun _ hk=>hk.2) _) (fun _ hk=>hk.2) _) (fun _ hk=>hk.2) _) (fun _ hk=>hk.2) _) (fun _ hk=>⟨hk.1.1.1,⟨hk.1.1.2.1,⟨hk.1.1.2.2.1,⟨hk.1.1.2.2.2.1,⟨hk.1.1.2.2.2.2.1,⟨hk.1.1.2.2.2.2.2.1,⟨hk.1.1.2.2.2.2.2.2,hk.1.2⟩⟩⟩⟩⟩⟩⟩))⟩
        have n1_:Aside0 (Kd.V k57 57 w89 w.heap.size (fun k_=>(P0_4_ k_∨w.heap.size≤k_)∧some k_≠(.slice Ao76 y854.length co76:Value).ownBlock∧k_≠gb822∧k_≠gb840∧k_≠gb847∧k_≠gb848∧k_≠gb857∧k_≠gb863) (.slice A839_3 ((rd_T53 (rd_L7 ((rd_T41 t833 0).f1) 0) 0).f3).length c839_3) ((rd_T53 (rd_L7 ((rd_T41 t833 0).f1) 0) 0).f3)):=by rw[hWz3];exact⟨kdV_ (Kd.V_mono (Kd.V_far (Kd.V_far (Kd.V_far (Kd.V_far (Kd.V_mono HO_841003.out (fun k_ hk=>(⟨hk,hk.2⟩:_∧k_≠gb863))) (fun _ hk=>hk.2) _) (fun _ hk=>hk.2) _) (fun _ hk=>hk.2) _) (fun _ hk=>hk.2) _) (fun _ hk=>⟨hk.1.1.1,⟨hk.1.1.2.1,⟨hk.1.1.2.2.1,⟨hk.1.1.2.2.2.1,⟨hk.1.1.2.2.2.2.1,⟨hk.1.1.2.2.2.2.2.1,⟨hk.1.1.2.2.2.2.2.2,hk.1.2⟩⟩⟩⟩⟩⟩⟩))⟩
        have n2_:Aside0 (Kd.V k57 57 w89 w.heap.size (fun k_=>(P0_4_ k_∨w.heap.size≤k_)∧some k_≠(.slice Ao76 y854.length co76:Value).ownBlock∧k_≠gb822∧k_≠gb840∧k_≠gb847∧k_≠gb848∧k_≠gb857∧k_≠gb863) (.slice A839_3 ((rd_T53 (rd_L7 ((rd_T41 t833 0).f1) 0) 0).f3).length c839_3) ((rd_T53 (rd_L7 ((rd_T41 t833 0).f1) 0) 0).f3)):=by rw[hWz3];exact⟨kdV_ (Kd.V_mono (Kd.V_far (Kd.V_far (Kd.V_far (Kd.V_far (Kd.V_mono HO_849003.out (fun k_ hk=>(⟨hk,hk.2⟩:_∧k_≠gb863))) (fun _ hk=>hk.2) _) (fun _ hk=>hk.2) _) (fun _ hk=>hk.2) _) (fun _ hk=>hk.2) _) (fun _ hk=>⟨hk.1.1.1,⟨hk.1.1.2.1,⟨hk.1.1.2.2.1,⟨hk.1.1.2.2.2.1,⟨hk.1.1.2.2.2.2.1,⟨hk.1.1.2.2.2.2.2.1,⟨hk.1.1.2.2.2.2.2.2,hk.1.2⟩⟩⟩⟩⟩⟩⟩))⟩
        have n3_:Aside0 (Kd.R k57 57 w89 w.heap.size (fun k_=>(w.heap.size≤k_)) (.slice Ao76 y854.length co76) y854):=by rw[hWz3];exact⟨kdR_ (Kd.R_mono (Kd.R_far (Kd.R_far (Kd.R_far (Kd.R_far (Kd.R_types HO856.out BK863.out (by decide)) (fun _ hk=>hk.2) _) (fun _ hk=>hk.2) _) (fun _ hk=>hk.2) _) (fun _ hk=>hk.2) _) (fun _ hk=>hk.1))⟩
        have n4_:Aside0 (Kd.V k57 57 w89 w.heap.size (fun k_=>(P0_4_ k_∨w.heap.size≤k_)∧k_≠gb822∧k_≠gb840∧k_≠gb847∧k_≠gb848∧k_≠gb857∧k_≠gb863) (.slice Ao76 y858.length co76) y858):=by rw[hWz3];exact⟨kdV_ (Kd.V_mono (Kd.V_far (Kd.V_far (Kd.V_far (Kd.V_far (Kd.V_mono HO862.out (fun k_ hk=>(⟨hk,hk.2⟩:_∧k_≠gb863))) (fun _ hk=>hk.2) _) (fun _ hk=>hk.2) _) (fun _ hk=>hk.2) _) (fun _ hk=>hk.2) _) (fun _ hk=>⟨hk.1.1.1.1.1.1.1,⟨hk.1.1.1.1.1.1.2,⟨hk.1.1.1.1.1.2,⟨hk.1.1.1.1.2,⟨hk.1.1.1.2,⟨hk.1.1.2,hk.1.2⟩⟩⟩⟩⟩⟩))⟩
        have n5_:=wh_ hWz3 (bf_ BK822)
        have n6_:=wh_ hWz3 (bf_ BK840)
        have n7_:=wh_ hWz3 (bf_ BK847)
        have n8_:=wh_ hWz3 (bf_ BK848)
        have n9_:=wh_ hWz3 (bf_ BK857)
        have n10_:Aside0 (w89.heap[gb863]? = some (.cells #[.int .u8 ((rd_T53 (rd_L7 ((rd_T41 t833 0).f1) 0) 0).f0),.int .i64 ((rd_T53 (rd_L7 ((rd_T41 t833 0).f1) 0) 0).f1),.bool false,.slice Ao76 y858.length co76] 53 (0,0))):=by rw[hWz3];exact⟨(bp_ BK863).out⟩
        have n11_:=wb_ hWz3 (bl_ HB)
        (try clear HO_823004)
        (try clear HO_841003)
        (try clear HO_849003)
        (try clear HO856)
        (try clear HO862)
        (try clear BK822)
        (try clear BK840)
        (try clear BK847)
        (try clear BK848)
        (try clear BK857)
        (try clear BK863)
        (try clear HB)
        rw[← hWz3]
        clear hWz3
        have HO_823004:=n0_
        have HO_841003:=n1_
        have HO_849003:=n2_
        have HO856:=n3_
        have HO862:=n4_
        have BK822:=n5_
        have BK840:=n6_
        have BK847:=n7_
        have BK848:=n8_
        have BK857:=n9_
        have BK863:=n10_
        have HB:=n11_
        clear n0_ n1_ n2_ n3_ n4_ n5_ n6_ n7_ n8_ n9_ n10_ n11_
        replace HO_823004:=Aside0.mk (Kd.V_drew HO_823004.out)
        replace HO_841003:=Aside0.mk (Kd.V_drew HO_841003.out)
        replace HO_849003:=Aside0.mk (Kd.V_drew HO_849003.out)
        replace HO856:=Aside0.mk (Kd.R_drew HO856.out)
        replace HO862:=Aside0.mk (Kd.V_drew HO862.out)
        replace BK822:=Aside0.mk (blk_drew BK822.out)
        replace BK840:=Aside0.mk (blk_drew BK840.out)
        replace BK847:=Aside0.mk (blk_drew BK847.out)
        replace BK848:=Aside0.mk (blk_drew BK848.out)
        replace BK857:=Aside0.mk (blk_drew BK857.out)
        replace BK863:=Aside0.mk (blk_drew BK863.out)
        replace HB:=Aside0.mk (below_drew1 HB.out)
        refine start_ (n:=13) (S:=fun w'=>w'.cell? ⟨gb857,0,none⟩=some (.int .u8 ((rd_T53 (rd_L7 ((rd_T41 t833 0).f1) 0) 0).f0))∧w'.cell? ⟨gb857,1,none⟩=some (.int .i64 ((rd_T53 (rd_L7 ((rd_T41 t833 0).f1) 0) 0).f1))∧w'.cell? ⟨gb857,2,none⟩=some (.bool false)∧w'.cell? ⟨gb857,3,none⟩=some (.slice Ao76 y854.length co76)∧w'.cell? ⟨gb847,0,none⟩=some (.string t844)∧w'.cell? ⟨gb847,1,none⟩=some (.string t845)∧w'.cell? ⟨gb847,2,none⟩=some (.int .i64 t846)∧w'.cell? ⟨gb840,0,none⟩=some (.int .u8 ((rd_T53 (rd_L7 ((rd_T41 t833 0).f1) 0) 0).f0))∧w'.cell? ⟨gb840,1,none⟩=some (.int .i64 ((rd_T53 (rd_L7 ((rd_T41 t833 0).f1) 0) 0).f1))∧w'.cell? ⟨gb840,2,none⟩=some (.bool x841002_26)∧w'.cell? ⟨gb840,3,none⟩=some (.slice A839_3 ((rd_T53 (rd_L7 ((rd_T41 t833 0).f1) 0) 0).f3).length c839_3)) (ds:=[]) #[false,false,false,false,false,false,false,false,false,false,false,false,false] (by kernel_rfl) rfl rfl ⟨bc_ BK857 0,bc_ BK857 1,bc_ BK857 2,bc_ BK857 3,bc_ BK847 0,bc_ BK847 1,bc_ BK847 2,bc_ BK840 0,bc_ BK840 1,bc_ BK840 2,bc_ BK840 3⟩ (fun hHeld=>?_);refine with_tabW florinlaw07_EvalNots.tab15 florinlaw07_EvalNots.bits15 (fun HT_ HW_=>?_)
        generalize w89.drew=w90 at HO_823004 HO_841003 HO_849003 HO856 HO862 BK822 BK840 BK847 BK848 BK857 BK863 HB hHeld ⊢
        refine tk_ 0 97 (bm_ 13 1) HT_ HW_ hHeld rfl (by rintro w' ⟨s0,s1,s2,s3,s4,s5,s6,s7,s8,s9,s10⟩;go_simp;with_reducible rfl) ?_
        refine tk_ 1 98 (bm_ 13 3) HT_ HW_ hHeld rfl (by rintro w' ⟨s0,s1,s2,s3,s4,s5,s6,s7,s8,s9,s10⟩;go_simp;with_reducible rfl) ?_
        refine tk_ 3 100 (bm_ 13 11) HT_ HW_ hHeld rfl (by rintro w' ⟨s0,s1,s2,s3,s4,s5,s6,s7,s8,s9,s10⟩;go_simp;with_reducible rfl) ?_
        refine tk_ 4 101 (bm_ 13 27) HT_ HW_ hHeld rfl (by rintro w' ⟨s0,s1,s2,s3,s4,s5,s6,s7,s8,s9,s10⟩;go_simp;with_reducible rfl) ?_
        refine one_ (i:=2) (N:=some 99) (bm_ 13 31) rfl rfl (one_of HT_.out (by kernel_rfl)) (by decide) (fun K hK=>?_)
        refine gs_ Tryz.func15 #[.agg #[.int .u8 ((rd_T53 (rd_L7 ((rd_T41 t833 0).f1) 0) 0).f0),.int .i64 ((rd_T53 (rd_L7 ((rd_T41 t833 0).f1) 0) 0).f1),.bool false,.slice Ao76 y854.length co76],.agg #[.string t844,.string t845,.int .i64 t846]] ?_
        with_reducible refine(eval_Holds.calls kj26 ((rd_T53 (rd_L7 ((rd_T41 t833 0).f1) 0) 0).f0) ((rd_T53 (rd_L7 ((rd_T41 t833 0).f1) 0) 0).f1) false _ _ y854 t844 t845 t846 t864 _ ?side1 ?side2 A66.out).mono ?_
        (case side1=>exact kc_ HO856)
        (case side2=>exact kl_ HO856)
        rintro e w91 ⟨rfl,hb⟩
        refine⟨_,rfl,?_⟩
        replace HO_823004:=Aside0.mk (Kd.V_below (krV_ HO_823004) hb)
        replace HO_841003:=Aside0.mk (Kd.V_below (krV_ HO_841003) hb)
        replace HO_849003:=Aside0.mk (Kd.V_below (krV_ HO_849003) hb)
        replace HO856:=kb_ HO856 hb
        replace HO862:=Aside0.mk (Kd.V_below (krV_ HO862) hb)
        replace BK822:=bb_ BK822 hb
        replace BK840:=bb_ BK840 hb
        replace BK847:=bb_ BK847 hb
        replace BK848:=bb_ BK848 hb
        replace BK857:=bb_ BK857 hb
        replace BK863:=bb_ BK863 hb
        replace HB:=Aside0.mk (below_step (bl_ HB).out hb)
        (try clear hb)
        (try clear hb2)
        (try clear hk)
        (try clear hi)
        refine hK.out _ _ ⟨bc_ BK857 0,bc_ BK857 1,bc_ BK857 2,bc_ BK857 3,bc_ BK847 0,bc_ BK847 1,bc_ BK847 2,bc_ BK840 0,bc_ BK840 1,bc_ BK840 2,bc_ BK840 3⟩ (fun hHeld=>?_)
        clear hK K
        refine nm_ 99 ?_
        refine one_ (i:=5) (N:=some 102) (bm_ 13 63) rfl rfl (one_of HT_.out (by kernel_rfl)) (by decide) (fun K hK=>?_)
        refine gs_ Tryz.func15 #[.agg #[.int .u8 ((rd_T53 (rd_L7 ((rd_T41 t833 0).f1) 0) 0).f0),.int .i64 ((rd_T53 (rd_L7 ((rd_T41 t833 0).f1) 0) 0).f1),.bool x841002_26,.slice A839_3 ((rd_T53 (rd_L7 ((rd_T41 t833 0).f1) 0) 0).f3).length c839_3],.agg #[.string t844,.string t845,.int .i64 t846]] ?_
        with_reducible refine(eval_Holds.calls kj26 ((rd_T53 (rd_L7 ((rd_T41 t833 0).f1) 0) 0).f0) ((rd_T53 (rd_L7 ((rd_T41 t833 0).f1) 0) 0).f1) x841002_26 _ _ ((rd_T53 (rd_L7 ((rd_T41 t833 0).f1) 0) 0).f3) t844 t845 t846 true _ ?side1 ?side2 A67.out).mono ?_
        (case side1=>repeat(first|exact(Kd.V_reads' HO_841003.out).2.2|(with_reducible refine Kd.C_alloc ?_ _)|(with_reducible refine Kd.C_drewN ?_ _)|(with_reducible refine Kd.C_drew ?_)))
        (case side2=>exact(Kd.V_reads' HO_841003.out).2.1)
        rintro e w92 ⟨rfl,hb⟩
        refine⟨_,rfl,?_⟩
        replace HO_823004:=Aside0.mk (Kd.V_below (krV_ HO_823004) hb)
        replace HO_841003:=Aside0.mk (Kd.V_below (krV_ HO_841003) hb)
        replace HO_849003:=Aside0.mk (Kd.V_below (krV_ HO_849003) hb)
        replace HO856:=kb_ HO856 hb
        replace HO862:=Aside0.mk (Kd.V_below (krV_ HO862) hb)
        replace BK822:=bb_ BK822 hb
        replace BK840:=bb_ BK840 hb
        replace BK847:=bb_ BK847 hb
        replace BK848:=bb_ BK848 hb
        replace BK857:=bb_ BK857 hb
        replace BK863:=bb_ BK863 hb
        replace HB:=Aside0.mk (below_step (bl_ HB).out hb)
        (try clear hb)
        (try clear hb2)
        (try clear hk)
        (try clear hi)
        refine hK.out _ _ ⟨bc_ BK857 0,bc_ BK857 1,bc_ BK857 2,bc_ BK857 3,bc_ BK847 0,bc_ BK847 1,bc_ BK847 2,bc_ BK840 0,bc_ BK840 1,bc_ BK840 2,bc_ BK840 3⟩ (fun hHeld=>?_)
        clear hK K
        refine nm_ 102 ?_
        refine pu_ 6 103 (bm_ 13 127) HT_ ?_
        refine pn_ 7 104 (bm_ 13 255) HT_ ?_
        refine pn_ 8 105 (bm_ 13 511) HT_ ?_
        refine pn_ 9 106 (bm_ 13 1023) HT_ ?_
        refine pu_ 10 107 (bm_ 13 2047) HT_ ?_
        refine pu_ 11 108 (bm_ 13 4095) HT_ ?_
        refine pu_ 12 12 (bm_ 13 8191) HT_ ?_
        refine done_ (done_of HT_.out (by kernel_rfl)) ?_
        try go_wp2
        go_ret
        exact⟨ew_,(bl_ HB).out⟩
       ·replace c68:=Bool.eq_false_iff.mpr c68
        subst c68
        have H1:((eval_Holds.f kj26 ((rd_T53 (rd_L7 ((rd_T41 t833 0).f1) 0) 0).f0) ((rd_T53 (rd_L7 ((rd_T41 t833 0).f1) 0) 0).f1) false y858 t844 t845 t846).bind fun t866=>(some (t864==t866)))=some r:=by rw[if_neg (show ¬(false=true) by decide)] at H;exact H
        clear H
        have H:=H1
        clear H1
        replace H:=Option.bind_eq_some_iff.mp H
        obtain⟨t866,A930,H⟩:=H
        have A93:=Aside0.mk A930
        clear A930
        obtain rfl:=Option.some.inj H
        try go_wp2
        replace HO_823004:=Aside0.mk (Kd.V_drew HO_823004.out)
        replace HO_841003:=Aside0.mk (Kd.V_drew HO_841003.out)
        replace HO_849003:=Aside0.mk (Kd.V_drew HO_849003.out)
        replace BK822:=Aside0.mk (blk_drew BK822.out)
        replace BK840:=Aside0.mk (blk_drew BK840.out)
        replace BK847:=Aside0.mk (blk_drew BK847.out)
        replace BK848:=Aside0.mk (blk_drew BK848.out)
        replace HB:=Aside0.mk (below_drew1 HB.out)
        refine start_ (n:=19) (S:=fun w'=>w'.cell? ⟨gb840,0,none⟩=some (.int .u8 ((rd_T53 (rd_L7 ((rd_T41 t833 0).f1) 0) 0).f0))∧w'.cell? ⟨gb840,1,none⟩=some (.int .i64 ((rd_T53 (rd_L7 ((rd_T41 t833 0).f1) 0) 0).f1))∧w'.cell? ⟨gb840,2,none⟩=some (.bool x841002_26)∧w'.cell? ⟨gb840,3,none⟩=some (.slice A839_3 ((rd_T53 (rd_L7 ((rd_T41 t833 0).f1) 0) 0).f3).length c839_3)) (ds:=[]) #[false,false,false,false,false,false,false,false,false,false,false,false,false,false,false,false,false,false,false] (by kernel_rfl) rfl rfl ⟨bc_ BK840 0,bc_ BK840 1,bc_ BK840 2,bc_ BK840 3⟩ (fun hHeld=>?_);refine with_tabW florinlaw07_EvalNots.tab13 florinlaw07_EvalNots.bits13 (fun HT_ HW_=>?_)
        generalize wc.drew=w94 at HO_823004 HO_841003 HO_849003 BK822 BK840 BK847 BK848 HB hHeld ⊢
        refine pu_ 0 72 (bm_ 19 1) HT_ ?_
        refine pu_ 2 74 (bm_ 19 5) HT_ ?_
        refine pu_ 4 76 (bm_ 19 21) HT_ ?_
        refine pu_ 5 77 (bm_ 19 53) HT_ ?_
        refine pu_ 6 78 (bm_ 19 117) HT_ ?_
        refine pu_ 7 79 (bm_ 19 245) HT_ ?_
        refine pu_ 8 80 (bm_ 19 501) HT_ ?_
        refine pu_ 9 81 (bm_ 19 1013) HT_ ?_
        refine pu_ 10 82 (bm_ 19 2037) HT_ ?_
        refine pu_ 11 83 (bm_ 19 4085) HT_ ?_
        refine pu_ 13 85 (bm_ 19 12277) HT_ ?_
        refine tk_ 1 73 (bm_ 19 12279) HT_ HW_ hHeld rfl (by rintro w' ⟨s0,s1,s2,s3⟩;go_simp;with_reducible rfl) ?_
        refine tk_ 3 75 (bm_ 19 12287) HT_ HW_ hHeld rfl (by rintro w' ⟨s0,s1,s2,s3⟩;go_simp;with_reducible rfl) ?_
        refine tk_ 14 86 (bm_ 19 28671) HT_ HW_ hHeld rfl (by rintro w' ⟨s0,s1,s2,s3⟩;go_simp;with_reducible rfl) ?_
        refine join_ (σ:=Value × Value × Nat) 1 #[true,true,true,true,true,true,true,true,true,true,true,true,true,true,true,true,true,true,false] (fun s_=>[(84,s_.1),(87,s_.2.1),(18,.pointer (some ⟨s_.2.2,0,none⟩)),(88,.agg #[.int .u8 ((rd_T53 (rd_L7 ((rd_T41 t833 0).f1) 0) 0).f0),.int .i64 ((rd_T53 (rd_L7 ((rd_T41 t833 0).f1) 0) 0).f1),.bool false,s_.2.1])]) (fun s_ w'=>(w'.cell? ⟨gb840,0,none⟩=some (.int .u8 ((rd_T53 (rd_L7 ((rd_T41 t833 0).f1) 0) 0).f0))∧w'.cell? ⟨gb840,1,none⟩=some (.int .i64 ((rd_T53 (rd_L7 ((rd_T41 t833 0).f1) 0) 0).f1))∧w'.cell? ⟨gb840,2,none⟩=some (.bool x841002_26)∧w'.cell? ⟨gb840,3,none⟩=some (.slice A839_3 ((rd_T53 (rd_L7 ((rd_T41 t833 0).f1) 0) 0).f3).length c839_3))∧(Kd.R k57 57 w' w.heap.size (fun k_=>(w.heap.size≤k_)) s_.2.1 y854)∧(Kd.V k139 139 w' w.heap.size (fun k_=>(P0_4_ k_∨w.heap.size≤k_)∧some k_≠(s_.2.1:Value).ownBlock∧k_≠gb822∧k_≠gb840∧k_≠gb847∧k_≠gb848∧k_≠s_.2.2) (.slice A0_4 l0_4.length c0_4) l0_4)∧(Kd.V k57 57 w' w.heap.size (fun k_=>(P0_4_ k_∨w.heap.size≤k_)∧some k_≠(s_.2.1:Value).ownBlock∧k_≠gb822∧k_≠gb840∧k_≠gb847∧k_≠gb848∧k_≠s_.2.2) (.slice A839_3 ((rd_T53 (rd_L7 ((rd_T41 t833 0).f1) 0) 0).f3).length c839_3) ((rd_T53 (rd_L7 ((rd_T41 t833 0).f1) 0) 0).f3))∧(Kd.V k57 57 w' w.heap.size (fun k_=>(P0_4_ k_∨w.heap.size≤k_)∧some k_≠(s_.2.1:Value).ownBlock∧k_≠gb822∧k_≠gb840∧k_≠gb847∧k_≠gb848∧k_≠s_.2.2) (.slice A839_3 ((rd_T53 (rd_L7 ((rd_T41 t833 0).f1) 0) 0).f3).length c839_3) ((rd_T53 (rd_L7 ((rd_T41 t833 0).f1) 0) 0).f3))∧(w'.heap[gb822]? = some (.cells #[.int .i64 a0_0,.int .i64 a0_1,.int .i64 a0_2,.bool a0_3,.slice A0_4 l0_4.length c0_4] 46 (0,0)))∧(w'.heap[gb840]? = some (.cells #[.int .u8 ((rd_T53 (rd_L7 ((rd_T41 t833 0).f1) 0) 0).f0),.int .i64 ((rd_T53 (rd_L7 ((rd_T41 t833 0).f1) 0) 0).f1),.bool x841002_26,.slice A839_3 ((rd_T53 (rd_L7 ((rd_T41 t833 0).f1) 0) 0).f3).length c839_3] 53 (0,0)))∧(w'.heap[gb847]? = some (.cells #[.string t844,.string t845,.int .i64 t846] 27 (0,0)))∧(w'.heap[gb848]? = some (.cells #[.int .u8 ((rd_T53 (rd_L7 ((rd_T41 t833 0).f1) 0) 0).f0),.int .i64 ((rd_T53 (rd_L7 ((rd_T41 t833 0).f1) 0) 0).f1),.bool (!((rd_T53 (rd_L7 ((rd_T41 t833 0).f1) 0) 0).f2)),.slice A839_3 ((rd_T53 (rd_L7 ((rd_T41 t833 0).f1) 0) 0).f3).length c839_3] 53 (0,0)))∧(w'.heap[s_.2.2]? = some (.cells #[.int .u8 0,.int .i64 0,.bool false,.slice none 0 0] 53 (0,0)))∧(w.heap.size≤s_.2.2)∧(w.heap.size≤s_.2.2)∧(gb822≠s_.2.2)∧(s_.2.2≠gb822)∧(gb840≠s_.2.2)∧(s_.2.2≠gb840)∧(gb847≠s_.2.2)∧(s_.2.2≠gb847)∧(gb848≠s_.2.2)∧(s_.2.2≠gb848)∧(Below w.heap.size w w')) ?_ ?_
        rotate_left
        ·intro hCont
         refine two_ (i:=12) (j:=17) (Ni:=some 84) (Nj:=some 18) #[true,true,true,true,true,true,true,true,true,true,true,true,true,true,true,false,false,false,false] #[true,true,true,true,true,true,true,true,true,true,true,true,false,true,true,false,false,true,false] rfl rfl rfl rfl (two_of HT_.out (by kernel_rfl)) (by decide) (by decide) (fun K hK=>?_) (fun K hK=>?_)
         ·skip
          refine Kd.R_lit_step k57 _ 57 ?hg (N:=84) ?hd (xs:=([(⟨Go.bits .and .i64 a1 65535,wrap64 ((Go.bits .and .i64 a1 65535)+(Go.bits .and .i64 a2 255))⟩:S57)]:List (S57))) (inner:=[.int .i64 (Go.bits .and .i64 a1 65535),.int .i64 (wrap64 ((Go.bits .and .i64 a1 65535)+(Go.bits .and .i64 a2 255)))]) (ok:=fun _=>True) (okp:=fun _=>True) ?hr ?hp (fun _ hk=>hk) trivial (Below.refl _ _) (Nat.le_refl _) (by simp) ?_;(case hd=>rfl);(case hg=>rfl);(case hr=>first|(go_simp;done)|(go_simp;rfl));(case hp=>exact(Reps.c2 (show Kd.M k57 _ _ _ (⟨Go.bits .and .i64 a1 65535,wrap64 ((Go.bits .and .i64 a1 65535)+(Go.bits .and .i64 a2 255))⟩:S57) [.int .i64 (Go.bits .and .i64 a1 65535),.int .i64 (wrap64 ((Go.bits .and .i64 a1 65535)+(Go.bits .and .i64 a2 255)))] from(k57_mkM _ _ _ (⟨Go.bits .and .i64 a1 65535,wrap64 ((Go.bits .and .i64 a1 65535)+(Go.bits .and .i64 a2 255))⟩:S57) )) (Reps.none _ _)))
          intro v852 w95 ho96 hb hg_ hnew_
          clear hg_ hnew_
          (first|rw[← Ny851.out] at ho96|(simp only[Int.reduceToNat] at ho96;rw[← Ny851.out] at ho96))
          have n0_:=Aside0.mk (Kd.V_elder' (krV_ HO_823004) (Kd.R_base ho96) hb)
          have n1_:=Aside0.mk (Kd.V_elder' (krV_ HO_841003) (Kd.R_base ho96) hb)
          have n2_:=Aside0.mk (Kd.V_elder' (krV_ HO_849003) (Kd.R_base ho96) hb)
          have n3_:=Aside0.mk (Kd.R_lower (Kd.R_newM (M:=fun k_=>(w.heap.size≤k_)) ho96 (below_size (bl_ HB).out) (fun k_ h_=>h_)) (below_size (bl_ HB).out))
          have n4_:=bb_ BK822 hb
          have n5_:=bb_ BK840 hb
          have n6_:=bb_ BK847 hb
          have n7_:=bb_ BK848 hb
          have n8_:=Aside0.mk (below_step (bl_ HB).out hb)
          clear HO_823004
          clear HO_841003
          clear HO_849003
          clear BK822
          clear BK840
          clear BK847
          clear BK848
          clear HB
          have HO_823004:=n0_
          have HO_841003:=n1_
          have HO_849003:=n2_
          have HO853:=n3_
          have BK822:=n4_
          have BK840:=n5_
          have BK847:=n6_
          have BK848:=n7_
          have HB:=n8_
          clear n0_ n1_ n2_ n3_ n4_ n5_ n6_ n7_ n8_
          clear hb ho96
          refine hK.out _ _ ⟨bc_ BK840 0,bc_ BK840 1,bc_ BK840 2,bc_ BK840 3⟩ (fun hHeld=>?_)
          clear hK K
          refine nm_ 84 ?_
          refine two_ (i:=15) (j:=17) (Ni:=some 87) (Nj:=some 18) #[true,true,true,true,true,true,true,true,true,true,true,true,true,true,true,true,false,false,false] #[true,true,true,true,true,true,true,true,true,true,true,true,true,true,true,false,false,true,false] rfl rfl rfl rfl (two_of HT_.out (by kernel_rfl)) (by decide) (by decide) (fun K hK=>?_) (fun K hK=>?_)
          ·skip
           refine Kd.R_append_rows_step k57 (w0:=w) w.heap.size (by rfl) (.tmp 84) (.tmp 86) 51 57 (.agg #[(.int .i64 0),(.int .i64 0)]) 16 rfl Tryz.underlying51 info57 rfl (by decide) (by omega) v852 y851 ((rd_T53 (rd_L7 ((rd_T41 t833 0).f1) 0) 0).f3) _ _ _ (fun k_=>(w.heap.size≤k_)) (fun _=>False) rfl rfl ?aO ?aR (fun _ _ h=>h) (fun _ h=>h.elim) ?aF ?aB ?aS ?aL ?_
           (case aR=>repeat(first|exact(Kd.V_reads' HO_841003.out).2.2|(with_reducible refine Kd.C_alloc ?_ _)|(with_reducible refine Kd.C_drewN ?_ _)|(with_reducible refine Kd.C_drew ?_)))
           (case aB=>exact(bl_ HB).out)
           (case aF=>exact(fun k_ hk=>(Nat.le_trans (below_size (bl_ HB).out) hk)))
           (case aO=>exact(kdR_ (Kd.R_mono HO853.out (fun _ hk=>hk.1))))
           (case aS=>exact(below_size (bl_ HB).out))
           (case aL=>have:=LMc64.out;omega)
           intro v855 w97 ho hb hg hat
           rw[← Ny854.out] at ho
           have n0_:=Aside0.mk (Kd.V_afterv (ok:=(fun k_=>(P0_4_ k_∨w.heap.size≤k_)∧k_≠gb822∧k_≠gb840∧k_≠gb847∧k_≠gb848)) (krV_ HO_823004) hg hat)
           have n1_:=Aside0.mk (Kd.V_afterv (ok:=(fun k_=>(P0_4_ k_∨w.heap.size≤k_)∧k_≠gb822∧k_≠gb840∧k_≠gb847∧k_≠gb848)) (krV_ HO_841003) hg hat)
           have n2_:=Aside0.mk (Kd.V_afterv (ok:=(fun k_=>(P0_4_ k_∨w.heap.size≤k_)∧k_≠gb822∧k_≠gb840∧k_≠gb847∧k_≠gb848)) (krV_ HO_849003) hg hat)
           have n3_:=Aside0.mk (blk_grown (bk_ BK822).out hg (Kd.R_ne HO853.out BK822.out (by decide)))
           have n4_:=Aside0.mk (blk_grown (bk_ BK840).out hg (Kd.R_ne HO853.out BK840.out (by decide)))
           have n5_:=Aside0.mk (blk_grown (bk_ BK847).out hg (Kd.R_ne HO853.out BK847.out (by decide)))
           have n6_:=Aside0.mk (blk_grown (bk_ BK848).out hg (Kd.R_ne HO853.out BK848.out (by decide)))
           have n7_:=Aside0.mk (hb)
           have n8_:=Aside0.mk (ho)
           clear HO_823004
           clear HO_841003
           clear HO_849003
           clear BK822
           clear BK840
           clear BK847
           clear BK848
           clear HB
           clear HO853
           have HO_823004:=n0_
           have HO_841003:=n1_
           have HO_849003:=n2_
           have BK822:=n3_
           have BK840:=n4_
           have BK847:=n5_
           have BK848:=n6_
           have HB:=n7_
           have HO856:=n8_
           clear n0_ n1_ n2_ n3_ n4_ n5_ n6_ n7_ n8_
           clear ho hb hg hat
           obtain⟨Ao98,co98,eo98⟩:=Kd.R_slice HO856.out
           (first|subst eo98|(injection eo98 with f1_ f2_ f3_;have f4_:=f1_.symm;have f5_:=f3_.symm;clear f1_ f2_ f3_;subst f4_;subst f5_))
           refine hK.out _ _ ⟨bc_ BK840 0,bc_ BK840 1,bc_ BK840 2,bc_ BK840 3⟩ (fun hHeld=>?_)
           clear hK K
           refine nm_ 87 ?_
           refine pu_ 16 88 (bm_ 19 131071) HT_ ?_
           refine one_ (i:=17) (N:=some 18) (bm_ 19 262143) rfl rfl (one_of HT_.out (by kernel_rfl)) (by decide) (fun K hK=>?_)
           refine box_step ?hg (N:=18) ?hd (cs:= #[.int .u8 0,.int .i64 0,.bool false,.slice none 0 0]) (t:=53) ?hr ?_;(case hd=>rfl);(case hg=>rfl);(case hr=>first|(go_simp;done)|(go_simp;rfl))
           intro gb857 hg w99 hbox hb
           have n0_:=Aside0.mk (Kd.V_below (Kd.V_elderB (krV_ HO_823004) gb857 (Nat.le_of_eq hg.symm)) hb)
           have n1_:=Aside0.mk (Kd.V_below (Kd.V_elderB (krV_ HO_841003) gb857 (Nat.le_of_eq hg.symm)) hb)
           have n2_:=Aside0.mk (Kd.V_below (Kd.V_elderB (krV_ HO_849003) gb857 (Nat.le_of_eq hg.symm)) hb)
           have n3_:=kb_ HO856 hb
           have n4_:=bb_ BK822 hb
           have n5_:=bb_ BK840 hb
           have n6_:=bb_ BK847 hb
           have n7_:=bb_ BK848 hb
           have n8_:=Aside0.mk (below_step (bl_ HB).out hb)
           have n9_:=Aside0.mk (hbox)
           have n10_:=sz_ HB hg
           have n11_:=sz_ HB hg
           have n12_:=na_ BK822 hg
           have n13_:=nb_ BK822 hg
           have n14_:=na_ BK840 hg
           have n15_:=nb_ BK840 hg
           have n16_:=na_ BK847 hg
           have n17_:=nb_ BK847 hg
           have n18_:=na_ BK848 hg
           have n19_:=nb_ BK848 hg
           clear HO_823004
           clear HO_841003
           clear HO_849003
           clear HO856
           clear BK822
           clear BK840
           clear BK847
           clear BK848
           clear HB
           have HO_823004:=n0_
           have HO_841003:=n1_
           have HO_849003:=n2_
           have HO856:=n3_
           have BK822:=n4_
           have BK840:=n5_
           have BK847:=n6_
           have BK848:=n7_
           have HB:=n8_
           have BK857:=n9_
           have GW857:=n10_
           have GE857:=n11_
           have NB822_857:=n12_
           have NB857_822:=n13_
           have NB840_857:=n14_
           have NB857_840:=n15_
           have NB847_857:=n16_
           have NB857_847:=n17_
           have NB848_857:=n18_
           have NB857_848:=n19_
           clear n0_ n1_ n2_ n3_ n4_ n5_ n6_ n7_ n8_ n9_ n10_ n11_ n12_ n13_ n14_ n15_ n16_ n17_ n18_ n19_
           clear hb hbox hg
           refine hK.out _ _ ⟨bc_ BK840 0,bc_ BK840 1,bc_ BK840 2,bc_ BK840 3⟩ (fun hHeld=>?_)
           clear hK K
           refine nm_ 18 ?_
           exact norm_ (by simp only[putAll,Act.put,List.setIfInBounds_toArray,List.set_cons_zero,List.set_cons_succ]) (hCont (v852,.slice Ao98 y854.length co98,gb857) _ ⟨hHeld,(kr_ HO856),(kdV_ (Kd.V_mono HO_823004.out (fun _ hk=>⟨hk.1.1.1,⟨hk.1.2,⟨hk.1.1.2.1,⟨hk.1.1.2.2.1,⟨hk.1.1.2.2.2.1,⟨hk.1.1.2.2.2.2,hk.2⟩⟩⟩⟩⟩⟩))),(kdV_ (Kd.V_mono HO_841003.out (fun _ hk=>⟨hk.1.1.1,⟨hk.1.2,⟨hk.1.1.2.1,⟨hk.1.1.2.2.1,⟨hk.1.1.2.2.2.1,⟨hk.1.1.2.2.2.2,hk.2⟩⟩⟩⟩⟩⟩))),(kdV_ (Kd.V_mono HO_849003.out (fun _ hk=>⟨hk.1.1.1,⟨hk.1.2,⟨hk.1.1.2.1,⟨hk.1.1.2.2.1,⟨hk.1.1.2.2.2.1,⟨hk.1.1.2.2.2.2,hk.2⟩⟩⟩⟩⟩⟩))),(bk_ BK822).out,(bk_ BK840).out,(bk_ BK847).out,(bk_ BK848).out,(bk_ BK857).out,GW857.out,GE857.out,NB822_857.out,NB857_822.out,NB840_857.out,NB857_840.out,NB847_857.out,NB857_847.out,NB848_857.out,NB857_848.out,(bl_ HB).out⟩)
          ·skip
           refine box_step ?hg (N:=18) ?hd (cs:= #[.int .u8 0,.int .i64 0,.bool false,.slice none 0 0]) (t:=53) ?hr ?_;(case hd=>rfl);(case hg=>rfl);(case hr=>first|(go_simp;done)|(go_simp;rfl))
           intro gb857 hg w97 hbox hb
           have n0_:=Aside0.mk (Kd.V_below (Kd.V_elderB (krV_ HO_823004) gb857 (Nat.le_of_eq hg.symm)) hb)
           have n1_:=Aside0.mk (Kd.V_below (Kd.V_elderB (krV_ HO_841003) gb857 (Nat.le_of_eq hg.symm)) hb)
           have n2_:=Aside0.mk (Kd.V_below (Kd.V_elderB (krV_ HO_849003) gb857 (Nat.le_of_eq hg.symm)) hb)
           have n3_:=kb_ HO853 hb
           have n4_:=bb_ BK822 hb
           have n5_:=bb_ BK840 hb
           have n6_:=bb_ BK847 hb
           have n7_:=bb_ BK848 hb
           have n8_:=Aside0.mk (below_step (bl_ HB).out hb)
           have n9_:=Aside0.mk (hbox)
           have n10_:=sz_ HB hg
           have n11_:=sz_ HB hg
           have n12_:=na_ BK822 hg
           have n13_:=nb_ BK822 hg
           have n14_:=na_ BK840 hg
           have n15_:=nb_ BK840 hg
           have n16_:=na_ BK847 hg
           have n17_:=nb_ BK847 hg
           have n18_:=na_ BK848 hg
           have n19_:=nb_ BK848 hg
           clear HO_823004
           clear HO_841003
           clear HO_849003
           clear HO853
           clear BK822
           clear BK840
           clear BK847
           clear BK848
           clear HB
           have HO_823004:=n0_
           have HO_841003:=n1_
           have HO_849003:=n2_
           have HO853:=n3_
           have BK822:=n4_
           have BK840:=n5_
           have BK847:=n6_
           have BK848:=n7_
           have HB:=n8_
           have BK857:=n9_
           have GW857:=n10_
           have GE857:=n11_
           have NB822_857:=n12_
           have NB857_822:=n13_
           have NB840_857:=n14_
           have NB857_840:=n15_
           have NB847_857:=n16_
           have NB857_847:=n17_
           have NB848_857:=n18_
           have NB857_848:=n19_
           clear n0_ n1_ n2_ n3_ n4_ n5_ n6_ n7_ n8_ n9_ n10_ n11_ n12_ n13_ n14_ n15_ n16_ n17_ n18_ n19_
           clear hb hbox hg
           refine hK.out _ _ ⟨bc_ BK840 0,bc_ BK840 1,bc_ BK840 2,bc_ BK840 3⟩ (fun hHeld=>?_)
           clear hK K
           refine nm_ 18 ?_
           refine one_ (i:=15) (N:=some 87) (bm_ 19 196607) rfl rfl (one_of HT_.out (by kernel_rfl)) (by decide) (fun K hK=>?_)
           refine Kd.R_append_rows_step k57 (w0:=w) w.heap.size (by rfl) (.tmp 84) (.tmp 86) 51 57 (.agg #[(.int .i64 0),(.int .i64 0)]) 16 rfl Tryz.underlying51 info57 rfl (by decide) (by omega) v852 y851 ((rd_T53 (rd_L7 ((rd_T41 t833 0).f1) 0) 0).f3) _ _ _ (fun k_=>(w.heap.size≤k_)) (fun _=>False) rfl rfl ?aO ?aR (fun _ _ h=>h) (fun _ h=>h.elim) ?aF ?aB ?aS ?aL ?_
           (case aR=>repeat(first|exact(Kd.V_reads' HO_841003.out).2.2|(with_reducible refine Kd.C_alloc ?_ _)|(with_reducible refine Kd.C_drewN ?_ _)|(with_reducible refine Kd.C_drew ?_)))
           (case aB=>exact(bl_ HB).out)
           (case aF=>exact(fun k_ hk=>(Nat.le_trans (below_size (bl_ HB).out) hk)))
           (case aO=>exact(kdR_ (Kd.R_mono HO853.out (fun _ hk=>hk.1))))
           (case aS=>exact(below_size (bl_ HB).out))
           (case aL=>have:=LMc64.out;omega)
           intro v855 w98 ho hb hg hat
           rw[← Ny854.out] at ho
           have n0_:=Aside0.mk (Kd.V_afterv (ok:=(fun k_=>(P0_4_ k_∨w.heap.size≤k_)∧k_≠gb822∧k_≠gb840∧k_≠gb847∧k_≠gb848∧k_≠gb857)) (kdV_ (Kd.V_mono HO_823004.out (fun _ hk=>⟨⟨hk.1.1.1,⟨hk.1.1.2.1,⟨hk.1.1.2.2.1,⟨hk.1.1.2.2.2.1,⟨hk.1.1.2.2.2.2,hk.2⟩⟩⟩⟩⟩,hk.1.2⟩))) hg hat)
           have n1_:=Aside0.mk (Kd.V_afterv (ok:=(fun k_=>(P0_4_ k_∨w.heap.size≤k_)∧k_≠gb822∧k_≠gb840∧k_≠gb847∧k_≠gb848∧k_≠gb857)) (kdV_ (Kd.V_mono HO_841003.out (fun _ hk=>⟨⟨hk.1.1.1,⟨hk.1.1.2.1,⟨hk.1.1.2.2.1,⟨hk.1.1.2.2.2.1,⟨hk.1.1.2.2.2.2,hk.2⟩⟩⟩⟩⟩,hk.1.2⟩))) hg hat)
           have n2_:=Aside0.mk (Kd.V_afterv (ok:=(fun k_=>(P0_4_ k_∨w.heap.size≤k_)∧k_≠gb822∧k_≠gb840∧k_≠gb847∧k_≠gb848∧k_≠gb857)) (kdV_ (Kd.V_mono HO_849003.out (fun _ hk=>⟨⟨hk.1.1.1,⟨hk.1.1.2.1,⟨hk.1.1.2.2.1,⟨hk.1.1.2.2.2.1,⟨hk.1.1.2.2.2.2,hk.2⟩⟩⟩⟩⟩,hk.1.2⟩))) hg hat)
           have n3_:=Aside0.mk (blk_grown (bk_ BK822).out hg (Kd.R_ne HO853.out BK822.out (by decide)))
           have n4_:=Aside0.mk (blk_grown (bk_ BK840).out hg (Kd.R_ne HO853.out BK840.out (by decide)))
           have n5_:=Aside0.mk (blk_grown (bk_ BK847).out hg (Kd.R_ne HO853.out BK847.out (by decide)))
           have n6_:=Aside0.mk (blk_grown (bk_ BK848).out hg (Kd.R_ne HO853.out BK848.out (by decide)))
           have n7_:=Aside0.mk (blk_grown (bk_ BK857).out hg (Kd.R_ne HO853.out BK857.out (by decide)))
           have n8_:=Aside0.mk (hb)
           have n9_:=Aside0.mk (ho)
           clear HO_823004
           clear HO_841003
           clear HO_849003
           clear BK822
           clear BK840
           clear BK847
           clear BK848
           clear BK857
           clear HB
           clear HO853
           have HO_823004:=n0_
           have HO_841003:=n1_
           have HO_849003:=n2_
           have BK822:=n3_
           have BK840:=n4_
           have BK847:=n5_
           have BK848:=n6_
           have BK857:=n7_
           have HB:=n8_
           have HO856:=n9_
           clear n0_ n1_ n2_ n3_ n4_ n5_ n6_ n7_ n8_ n9_
           clear ho hb hg hat
           obtain⟨Ao99,co99,eo99⟩:=Kd.R_slice HO856.out
           (first|subst eo99|(injection eo99 with f1_ f2_ f3_;have f4_:=f1_.symm;have f5_:=f3_.symm;clear f1_ f2_ f3_;subst f4_;subst f5_))
           refine hK.out _ _ ⟨bc_ BK840 0,bc_ BK840 1,bc_ BK840 2,bc_ BK840 3⟩ (fun hHeld=>?_)
           clear hK K
           refine nm_ 87 ?_
           refine pu_ 16 88 (bm_ 19 262143) HT_ ?_
           exact norm_ (by simp only[putAll,Act.put,List.setIfInBounds_toArray,List.set_cons_zero,List.set_cons_succ]) (hCont (v852,.slice Ao99 y854.length co99,gb857) _ ⟨hHeld,(kr_ HO856),(kdV_ (Kd.V_mono HO_823004.out (fun _ hk=>⟨hk.1.1,⟨hk.2,⟨hk.1.2.1,⟨hk.1.2.2.1,⟨hk.1.2.2.2.1,⟨hk.1.2.2.2.2.1,hk.1.2.2.2.2.2⟩⟩⟩⟩⟩⟩))),(kdV_ (Kd.V_mono HO_841003.out (fun _ hk=>⟨hk.1.1,⟨hk.2,⟨hk.1.2.1,⟨hk.1.2.2.1,⟨hk.1.2.2.2.1,⟨hk.1.2.2.2.2.1,hk.1.2.2.2.2.2⟩⟩⟩⟩⟩⟩))),(kdV_ (Kd.V_mono HO_849003.out (fun _ hk=>⟨hk.1.1,⟨hk.2,⟨hk.1.2.1,⟨hk.1.2.2.1,⟨hk.1.2.2.2.1,⟨hk.1.2.2.2.2.1,hk.1.2.2.2.2.2⟩⟩⟩⟩⟩⟩))),(bk_ BK822).out,(bk_ BK840).out,(bk_ BK847).out,(bk_ BK848).out,(bk_ BK857).out,GW857.out,GE857.out,NB822_857.out,NB857_822.out,NB840_857.out,NB857_840.out,NB847_857.out,NB857_847.out,NB848_857.out,NB857_848.out,(bl_ HB).out⟩)
         ·skip
          refine box_step ?hg (N:=18) ?hd (cs:= #[.int .u8 0,.int .i64 0,.bool false,.slice none 0 0]) (t:=53) ?hr ?_;(case hd=>rfl);(case hg=>rfl);(case hr=>first|(go_simp;done)|(go_simp;rfl))
          intro gb857 hg w95 hbox hb
          have n0_:=Aside0.mk (Kd.V_below (Kd.V_elderB (krV_ HO_823004) gb857 (Nat.le_of_eq hg.symm)) hb)
          have n1_:=Aside0.mk (Kd.V_below (Kd.V_elderB (krV_ HO_841003) gb857 (Nat.le_of_eq hg.symm)) hb)
          have n2_:=Aside0.mk (Kd.V_below (Kd.V_elderB (krV_ HO_849003) gb857 (Nat.le_of_eq hg.symm)) hb)
          have n3_:=bb_ BK822 hb
          have n4_:=bb_ BK840 hb
          have n5_:=bb_ BK847 hb
          have n6_:=bb_ BK848 hb
          have n7_:=Aside0.mk (below_step (bl_ HB).out hb)
          have n8_:=Aside0.mk (hbox)
          have n9_:=sz_ HB hg
          have n10_:=sz_ HB hg
          have n11_:=na_ BK822 hg
          have n12_:=nb_ BK822 hg
          have n13_:=na_ BK840 hg
          have n14_:=nb_ BK840 hg
          have n15_:=na_ BK847 hg
          have n16_:=nb_ BK847 hg
          have n17_:=na_ BK848 hg
          have n18_:=nb_ BK848 hg
          clear HO_823004
          clear HO_841003
          clear HO_849003
          clear BK822
          clear BK840
          clear BK847
          clear BK848
          clear HB
          have HO_823004:=n0_
          have HO_841003:=n1_
          have HO_849003:=n2_
          have BK822:=n3_
          have BK840:=n4_
          have BK847:=n5_
          have BK848:=n6_
          have HB:=n7_
          have BK857:=n8_
          have GW857:=n9_
          have GE857:=n10_
          have NB822_857:=n11_
          have NB857_822:=n12_
          have NB840_857:=n13_
          have NB857_840:=n14_
          have NB847_857:=n15_
          have NB857_847:=n16_
          have NB848_857:=n17_
          have NB857_848:=n18_
          clear n0_ n1_ n2_ n3_ n4_ n5_ n6_ n7_ n8_ n9_ n10_ n11_ n12_ n13_ n14_ n15_ n16_ n17_ n18_
          clear hb hbox hg
          refine hK.out _ _ ⟨bc_ BK840 0,bc_ BK840 1,bc_ BK840 2,bc_ BK840 3⟩ (fun hHeld=>?_)
          clear hK K
          refine nm_ 18 ?_
          refine one_ (i:=12) (N:=some 84) (bm_ 19 163839) rfl rfl (one_of HT_.out (by kernel_rfl)) (by decide) (fun K hK=>?_)
          refine Kd.R_lit_step k57 _ 57 ?hg (N:=84) ?hd (xs:=([(⟨Go.bits .and .i64 a1 65535,wrap64 ((Go.bits .and .i64 a1 65535)+(Go.bits .and .i64 a2 255))⟩:S57)]:List (S57))) (inner:=[.int .i64 (Go.bits .and .i64 a1 65535),.int .i64 (wrap64 ((Go.bits .and .i64 a1 65535)+(Go.bits .and .i64 a2 255)))]) (ok:=fun _=>True) (okp:=fun _=>True) ?hr ?hp (fun _ hk=>hk) trivial (Below.refl _ _) (Nat.le_refl _) (by simp) ?_;(case hd=>rfl);(case hg=>rfl);(case hr=>first|(go_simp;done)|(go_simp;rfl));(case hp=>exact(Reps.c2 (show Kd.M k57 _ _ _ (⟨Go.bits .and .i64 a1 65535,wrap64 ((Go.bits .and .i64 a1 65535)+(Go.bits .and .i64 a2 255))⟩:S57) [.int .i64 (Go.bits .and .i64 a1 65535),.int .i64 (wrap64 ((Go.bits .and .i64 a1 65535)+(Go.bits .and .i64 a2 255)))] from(k57_mkM _ _ _ (⟨Go.bits .and .i64 a1 65535,wrap64 ((Go.bits .and .i64 a1 65535)+(Go.bits .and .i64 a2 255))⟩:S57) )) (Reps.none _ _)))
          intro v852 w96 ho97 hb hg_ hnew_
          clear hg_ hnew_
          (first|rw[← Ny851.out] at ho97|(simp only[Int.reduceToNat] at ho97;rw[← Ny851.out] at ho97))
          have n0_:=Aside0.mk (Kd.V_elder' (krV_ HO_823004) (Kd.R_base ho97) hb)
          have n1_:=Aside0.mk (Kd.V_elder' (krV_ HO_841003) (Kd.R_base ho97) hb)
          have n2_:=Aside0.mk (Kd.V_elder' (krV_ HO_849003) (Kd.R_base ho97) hb)
          have n3_:=Aside0.mk (Kd.R_lower (Kd.R_newM (M:=fun k_=>(w.heap.size≤k_)) ho97 (below_size (bl_ HB).out) (fun k_ h_=>h_)) (below_size (bl_ HB).out))
          have n4_:=bb_ BK822 hb
          have n5_:=bb_ BK840 hb
          have n6_:=bb_ BK847 hb
          have n7_:=bb_ BK848 hb
          have n8_:=bb_ BK857 hb
          have n9_:=Aside0.mk (below_step (bl_ HB).out hb)
          clear HO_823004
          clear HO_841003
          clear HO_849003
          clear BK822
          clear BK840
          clear BK847
          clear BK848
          clear BK857
          clear HB
          have HO_823004:=n0_
          have HO_841003:=n1_
          have HO_849003:=n2_
          have HO853:=n3_
          have BK822:=n4_
          have BK840:=n5_
          have BK847:=n6_
          have BK848:=n7_
          have BK857:=n8_
          have HB:=n9_
          clear n0_ n1_ n2_ n3_ n4_ n5_ n6_ n7_ n8_ n9_
          clear hb ho97
          refine hK.out _ _ ⟨bc_ BK840 0,bc_ BK840 1,bc_ BK840 2,bc_ BK840 3⟩ (fun hHeld=>?_)
          clear hK K
          refine nm_ 84 ?_
          refine one_ (i:=15) (N:=some 87) (bm_ 19 196607) rfl rfl (one_of HT_.out (by kernel_rfl)) (by decide) (fun K hK=>?_)
          refine Kd.R_append_rows_step k57 (w0:=w) w.heap.size (by rfl) (.tmp 84) (.tmp 86) 51 57 (.agg #[(.int .i64 0),(.int .i64 0)]) 16 rfl Tryz.underlying51 info57 rfl (by decide) (by omega) v852 y851 ((rd_T53 (rd_L7 ((rd_T41 t833 0).f1) 0) 0).f3) _ _ _ (fun k_=>(w.heap.size≤k_)) (fun _=>False) rfl rfl ?aO ?aR (fun _ _ h=>h) (fun _ h=>h.elim) ?aF ?aB ?aS ?aL ?_
          (case aR=>repeat(first|exact(Kd.V_reads' HO_841003.out).2.2|(with_reducible refine Kd.C_alloc ?_ _)|(with_reducible refine Kd.C_drewN ?_ _)|(with_reducible refine Kd.C_drew ?_)))
          (case aB=>exact(bl_ HB).out)
          (case aF=>exact(fun k_ hk=>(Nat.le_trans (below_size (bl_ HB).out) hk)))
          (case aO=>exact(kdR_ (Kd.R_mono HO853.out (fun _ hk=>hk.1))))
          (case aS=>exact(below_size (bl_ HB).out))
          (case aL=>have:=LMc64.out;omega)
          intro v855 w98 ho hb hg hat
          rw[← Ny854.out] at ho
          have n0_:=Aside0.mk (Kd.V_afterv (ok:=(fun k_=>(P0_4_ k_∨w.heap.size≤k_)∧k_≠gb822∧k_≠gb840∧k_≠gb847∧k_≠gb848∧k_≠gb857)) (kdV_ (Kd.V_mono HO_823004.out (fun _ hk=>⟨⟨hk.1.1.1,⟨hk.1.1.2.1,⟨hk.1.1.2.2.1,⟨hk.1.1.2.2.2.1,⟨hk.1.1.2.2.2.2,hk.1.2⟩⟩⟩⟩⟩,hk.2⟩))) hg hat)
          have n1_:=Aside0.mk (Kd.V_afterv (ok:=(fun k_=>(P0_4_ k_∨w.heap.size≤k_)∧k_≠gb822∧k_≠gb840∧k_≠gb847∧k_≠gb848∧k_≠gb857)) (kdV_ (Kd.V_mono HO_841003.out (fun _ hk=>⟨⟨hk.1.1.1,⟨hk.1.1.2.1,⟨hk.1.1.2.2.1,⟨hk.1.1.2.2.2.1,⟨hk.1.1.2.2.2.2,hk.1.2⟩⟩⟩⟩⟩,hk.2⟩))) hg hat)
          have n2_:=Aside0.mk (Kd.V_afterv (ok:=(fun k_=>(P0_4_ k_∨w.heap.size≤k_)∧k_≠gb822∧k_≠gb840∧k_≠gb847∧k_≠gb848∧k_≠gb857)) (kdV_ (Kd.V_mono HO_849003.out (fun _ hk=>⟨⟨hk.1.1.1,⟨hk.1.1.2.1,⟨hk.1.1.2.2.1,⟨hk.1.1.2.2.2.1,⟨hk.1.1.2.2.2.2,hk.1.2⟩⟩⟩⟩⟩,hk.2⟩))) hg hat)
          have n3_:=Aside0.mk (blk_grown (bk_ BK822).out hg (Kd.R_ne HO853.out BK822.out (by decide)))
          have n4_:=Aside0.mk (blk_grown (bk_ BK840).out hg (Kd.R_ne HO853.out BK840.out (by decide)))
          have n5_:=Aside0.mk (blk_grown (bk_ BK847).out hg (Kd.R_ne HO853.out BK847.out (by decide)))
          have n6_:=Aside0.mk (blk_grown (bk_ BK848).out hg (Kd.R_ne HO853.out BK848.out (by decide)))
          have n7_:=Aside0.mk (blk_grown (bk_ BK857).out hg (Kd.R_ne HO853.out BK857.out (by decide)))
          have n8_:=Aside0.mk (hb)
          have n9_:=Aside0.mk (ho)
          clear HO_823004
          clear HO_841003
          clear HO_849003
          clear BK822
          clear BK840
          clear BK847
          clear BK848
          clear BK857
          clear HB
          clear HO853
          have HO_823004:=n0_
          have HO_841003:=n1_
          have HO_849003:=n2_
          have BK822:=n3_
          have BK840:=n4_
          have BK847:=n5_
          have BK848:=n6_
          have BK857:=n7_
          have HB:=n8_
          have HO856:=n9_
          clear n0_ n1_ n2_ n3_ n4_ n5_ n6_ n7_ n8_ n9_
          clear ho hb hg hat
          obtain⟨Ao99,co99,eo99⟩:=Kd.R_slice HO856.out
          (first|subst eo99|(injection eo99 with f1_ f2_ f3_;have f4_:=f1_.symm;have f5_:=f3_.symm;clear f1_ f2_ f3_;subst f4_;subst f5_))
          refine hK.out _ _ ⟨bc_ BK840 0,bc_ BK840 1,bc_ BK840 2,bc_ BK840 3⟩ (fun hHeld=>?_)
          clear hK K
          refine nm_ 87 ?_
          refine pu_ 16 88 (bm_ 19 262143) HT_ ?_
          exact norm_ (by simp only[putAll,Act.put,List.setIfInBounds_toArray,List.set_cons_zero,List.set_cons_succ]) (hCont (v852,.slice Ao99 y854.length co99,gb857) _ ⟨hHeld,(kr_ HO856),(kdV_ (Kd.V_mono HO_823004.out (fun _ hk=>⟨hk.1.1,⟨hk.2,⟨hk.1.2.1,⟨hk.1.2.2.1,⟨hk.1.2.2.2.1,⟨hk.1.2.2.2.2.1,hk.1.2.2.2.2.2⟩⟩⟩⟩⟩⟩))),(kdV_ (Kd.V_mono HO_841003.out (fun _ hk=>⟨hk.1.1,⟨hk.2,⟨hk.1.2.1,⟨hk.1.2.2.1,⟨hk.1.2.2.2.1,⟨hk.1.2.2.2.2.1,hk.1.2.2.2.2.2⟩⟩⟩⟩⟩⟩))),(kdV_ (Kd.V_mono HO_849003.out (fun _ hk=>⟨hk.1.1,⟨hk.2,⟨hk.1.2.1,⟨hk.1.2.2.1,⟨hk.1.2.2.2.1,⟨hk.1.2.2.2.2.1,hk.1.2.2.2.2.2⟩⟩⟩⟩⟩⟩))),(bk_ BK822).out,(bk_ BK840).out,(bk_ BK847).out,(bk_ BK848).out,(bk_ BK857).out,GW857.out,GE857.out,NB822_857.out,NB857_822.out,NB840_857.out,NB857_840.out,NB847_857.out,NB857_847.out,NB848_857.out,NB857_848.out,(bl_ HB).out⟩)
        rintro⟨v852,v855,gb857⟩ w100 ⟨hS_,h0_,h1_,h2_,h3_,h4_,h5_,h6_,h7_,h8_,h9_,h10_,h11_,h12_,h13_,h14_,h15_,h16_,h17_,h18_,h19_⟩
        have n0_:Aside0 (Kd.R k57 57 w100 w.heap.size (fun k_=>(w.heap.size≤k_)) v855 y854):=⟨h0_⟩
        have n1_:Aside0 (Kd.V k139 139 w100 w.heap.size (fun k_=>(P0_4_ k_∨w.heap.size≤k_)∧some k_≠(v855:Value).ownBlock∧k_≠gb822∧k_≠gb840∧k_≠gb847∧k_≠gb848∧k_≠gb857) (.slice A0_4 l0_4.length c0_4) l0_4):=⟨h1_⟩
        have n2_:Aside0 (Kd.V k57 57 w100 w.heap.size (fun k_=>(P0_4_ k_∨w.heap.size≤k_)∧some k_≠(v855:Value).ownBlock∧k_≠gb822∧k_≠gb840∧k_≠gb847∧k_≠gb848∧k_≠gb857) (.slice A839_3 ((rd_T53 (rd_L7 ((rd_T41 t833 0).f1) 0) 0).f3).length c839_3) ((rd_T53 (rd_L7 ((rd_T41 t833 0).f1) 0) 0).f3)):=⟨h2_⟩
        have n3_:Aside0 (Kd.V k57 57 w100 w.heap.size (fun k_=>(P0_4_ k_∨w.heap.size≤k_)∧some k_≠(v855:Value).ownBlock∧k_≠gb822∧k_≠gb840∧k_≠gb847∧k_≠gb848∧k_≠gb857) (.slice A839_3 ((rd_T53 (rd_L7 ((rd_T41 t833 0).f1) 0) 0).f3).length c839_3) ((rd_T53 (rd_L7 ((rd_T41 t833 0).f1) 0) 0).f3)):=⟨h3_⟩
        have n4_:Aside0 (w100.heap[gb822]? = some (.cells #[.int .i64 a0_0,.int .i64 a0_1,.int .i64 a0_2,.bool a0_3,.slice A0_4 l0_4.length c0_4] 46 (0,0))):=⟨h4_⟩
        have n5_:Aside0 (w100.heap[gb840]? = some (.cells #[.int .u8 ((rd_T53 (rd_L7 ((rd_T41 t833 0).f1) 0) 0).f0),.int .i64 ((rd_T53 (rd_L7 ((rd_T41 t833 0).f1) 0) 0).f1),.bool x841002_26,.slice A839_3 ((rd_T53 (rd_L7 ((rd_T41 t833 0).f1) 0) 0).f3).length c839_3] 53 (0,0))):=⟨h5_⟩
        have n6_:Aside0 (w100.heap[gb847]? = some (.cells #[.string t844,.string t845,.int .i64 t846] 27 (0,0))):=⟨h6_⟩
        have n7_:Aside0 (w100.heap[gb848]? = some (.cells #[.int .u8 ((rd_T53 (rd_L7 ((rd_T41 t833 0).f1) 0) 0).f0),.int .i64 ((rd_T53 (rd_L7 ((rd_T41 t833 0).f1) 0) 0).f1),.bool (!((rd_T53 (rd_L7 ((rd_T41 t833 0).f1) 0) 0).f2)),.slice A839_3 ((rd_T53 (rd_L7 ((rd_T41 t833 0).f1) 0) 0).f3).length c839_3] 53 (0,0))):=⟨h7_⟩
        have n8_:Aside0 (w100.heap[gb857]? = some (.cells #[.int .u8 0,.int .i64 0,.bool false,.slice none 0 0] 53 (0,0))):=⟨h8_⟩
        have n9_:Aside0 (w.heap.size≤gb857):=⟨h9_⟩
        have n10_:Aside0 (w.heap.size≤gb857):=⟨h10_⟩
        have n11_:Aside0 (gb822≠gb857):=⟨h11_⟩
        have n12_:Aside0 (gb857≠gb822):=⟨h12_⟩
        have n13_:Aside0 (gb840≠gb857):=⟨h13_⟩
        have n14_:Aside0 (gb857≠gb840):=⟨h14_⟩
        have n15_:Aside0 (gb847≠gb857):=⟨h15_⟩
        have n16_:Aside0 (gb857≠gb847):=⟨h16_⟩
        have n17_:Aside0 (gb848≠gb857):=⟨h17_⟩
        have n18_:Aside0 (gb857≠gb848):=⟨h18_⟩
        have n19_:Aside0 (Below w.heap.size w w100):=⟨h19_⟩
        clear HO_823004
        clear HO_841003
        clear HO_849003
        clear BK822
        clear BK840
        clear BK847
        clear BK848
        clear HB
        clear h0_ h1_ h2_ h3_ h4_ h5_ h6_ h7_ h8_ h9_ h10_ h11_ h12_ h13_ h14_ h15_ h16_ h17_ h18_ h19_
        have HO856:=n0_
        have HO_823004:=n1_
        have HO_841003:=n2_
        have HO_849003:=n3_
        have BK822:=n4_
        have BK840:=n5_
        have BK847:=n6_
        have BK848:=n7_
        have BK857:=n8_
        have GW857:=n9_
        have GE857:=n10_
        have NB822_857:=n11_
        have NB857_822:=n12_
        have NB840_857:=n13_
        have NB857_840:=n14_
        have NB847_857:=n15_
        have NB857_847:=n16_
        have NB848_857:=n17_
        have NB857_848:=n18_
        have HB:=n19_
        clear n0_ n1_ n2_ n3_ n4_ n5_ n6_ n7_ n8_ n9_ n10_ n11_ n12_ n13_ n14_ n15_ n16_ n17_ n18_ n19_
        have hHeld:w100.cell? ⟨gb840,0,none⟩=some (.int .u8 ((rd_T53 (rd_L7 ((rd_T41 t833 0).f1) 0) 0).f0))∧w100.cell? ⟨gb840,1,none⟩=some (.int .i64 ((rd_T53 (rd_L7 ((rd_T41 t833 0).f1) 0) 0).f1))∧w100.cell? ⟨gb840,2,none⟩=some (.bool x841002_26)∧w100.cell? ⟨gb840,3,none⟩=some (.slice A839_3 ((rd_T53 (rd_L7 ((rd_T41 t833 0).f1) 0) 0).f3).length c839_3):=hS_
        obtain⟨Ao101,co101,eo101⟩:=Kd.R_slice HO856.out
        (first|subst eo101|(injection eo101 with f1_ f2_ f3_;have f4_:=f1_.symm;have f5_:=f3_.symm;clear f1_ f2_ f3_;subst f4_;subst f5_))
        refine norm_ (a':=?_) ?_ ?_
        rotate_left
        ·simp only[putAll,Act.put,List.setIfInBounds_toArray,List.set_cons_zero,List.set_cons_succ]
         rfl
        refine one_ (i:=18) (N:=none) (bm_ 19 524287) rfl rfl (one_of HT_.out (by kernel_rfl)) (by decide) (fun K hK=>?_)
        have hs102:w100.cell? ⟨gb857,0,none⟩=some (.int .u8 0):=bc_ BK857 0
        have hfs102:=blk_frozen BK857.out 0
        have hns102_0:=NB822_857.out
        have hns102_1:=NB840_857.out
        have hns102_2:=NB847_857.out
        have hns102_3:=NB848_857.out
        have hms102_0:=NB857_822.out
        have hms102_1:=NB857_840.out
        have hms102_2:=NB857_847.out
        have hms102_3:=NB857_848.out
        have hs103:w100.cell? ⟨gb857,1,none⟩=some (.int .i64 0):=bc_ BK857 1
        have hfs103:=blk_frozen BK857.out 1
        have hns103_0:=NB822_857.out
        have hns103_1:=NB840_857.out
        have hns103_2:=NB847_857.out
        have hns103_3:=NB848_857.out
        have hms103_0:=NB857_822.out
        have hms103_1:=NB857_840.out
        have hms103_2:=NB857_847.out
        have hms103_3:=NB857_848.out
        have hs104:w100.cell? ⟨gb857,2,none⟩=some (.bool false):=bc_ BK857 2
        have hfs104:=blk_frozen BK857.out 2
        have hns104_0:=NB822_857.out
        have hns104_1:=NB840_857.out
        have hns104_2:=NB847_857.out
        have hns104_3:=NB848_857.out
        have hms104_0:=NB857_822.out
        have hms104_1:=NB857_840.out
        have hms104_2:=NB857_847.out
        have hms104_3:=NB857_848.out
        have hs105:w100.cell? ⟨gb857,3,none⟩=some (.slice none 0 0):=bc_ BK857 3
        have hfs105:=blk_frozen BK857.out 3
        have hns105_0:=NB822_857.out
        have hns105_1:=NB840_857.out
        have hns105_2:=NB847_857.out
        have hns105_3:=NB848_857.out
        have hms105_0:=NB857_822.out
        have hms105_1:=NB857_840.out
        have hms105_2:=NB857_847.out
        have hms105_3:=NB857_848.out
        refine skip_ (w1:=?_) (by rfl) rfl ?_ ?_
        rotate_left
        ·go_simp
         rfl
        refine hK.out _ _ ⟨((cell_far (p:=⟨gb857,_,none⟩) NB840_857.out _).trans (((cell_far (p:=⟨gb857,_,none⟩) NB840_857.out _).trans (((cell_far (p:=⟨gb857,_,none⟩) NB840_857.out _).trans (((cell_far (p:=⟨gb857,_,none⟩) NB840_857.out _).trans (hHeld.1)))))))),((cell_far (p:=⟨gb857,_,none⟩) NB840_857.out _).trans (((cell_far (p:=⟨gb857,_,none⟩) NB840_857.out _).trans (((cell_far (p:=⟨gb857,_,none⟩) NB840_857.out _).trans (((cell_far (p:=⟨gb857,_,none⟩) NB840_857.out _).trans (hHeld.2.1)))))))),((cell_far (p:=⟨gb857,_,none⟩) NB840_857.out _).trans (((cell_far (p:=⟨gb857,_,none⟩) NB840_857.out _).trans (((cell_far (p:=⟨gb857,_,none⟩) NB840_857.out _).trans (((cell_far (p:=⟨gb857,_,none⟩) NB840_857.out _).trans (hHeld.2.2.1)))))))),((cell_far (p:=⟨gb857,_,none⟩) NB840_857.out _).trans (((cell_far (p:=⟨gb857,_,none⟩) NB840_857.out _).trans (((cell_far (p:=⟨gb857,_,none⟩) NB840_857.out _).trans (((cell_far (p:=⟨gb857,_,none⟩) NB840_857.out _).trans (hHeld.2.2.2))))))))⟩ (fun hHeld=>?_)
        clear hK K
        refine done_ (done_of HT_.out (by kernel_rfl)) ?_
        try go_wp2
        obtain⟨w106,hWz4⟩:∃W_,W_=((((w100.setCell ⟨gb857,0,none⟩ (.int .u8 ((rd_T53 (rd_L7 ((rd_T41 t833 0).f1) 0) 0).f0))).setCell ⟨gb857,1,none⟩ (.int .i64 ((rd_T53 (rd_L7 ((rd_T41 t833 0).f1) 0) 0).f1))).setCell ⟨gb857,2,none⟩ (.bool false)).setCell ⟨gb857,3,none⟩ (.slice Ao101 y854.length co101)):=⟨_,rfl⟩
        have n0_:Aside0 (Kd.V k139 139 w106 w.heap.size (fun k_=>(P0_4_ k_∨w.heap.size≤k_)∧some k_≠(.slice Ao101 y854.length co101:Value).ownBlock∧k_≠gb822∧k_≠gb840∧k_≠gb847∧k_≠gb848∧k_≠gb857) (.slice A0_4 l0_4.length c0_4) l0_4):=by rw[hWz4];exact⟨kdV_ (Kd.V_mono (Kd.V_far (Kd.V_far (Kd.V_far (Kd.V_far (Kd.V_mono HO_823004.out (fun k_ hk=>(⟨hk,hk.2.2.2.2.2.2⟩:_∧k_≠gb857))) (fun _ hk=>hk.2) _) (fun _ hk=>hk.2) _) (fun _ hk=>hk.2) _) (fun _ hk=>hk.2) _) (fun _ hk=>⟨hk.1.1,⟨hk.1.2.1,⟨hk.1.2.2.1,⟨hk.1.2.2.2.1,⟨hk.1.2.2.2.2.1,⟨hk.1.2.2.2.2.2.1,hk.1.2.2.2.2.2.2⟩⟩⟩⟩⟩⟩))⟩
        have n1_:Aside0 (Kd.V k57 57 w106 w.heap.size (fun k_=>(P0_4_ k_∨w.heap.size≤k_)∧some k_≠(.slice Ao101 y854.length co101:Value).ownBlock∧k_≠gb822∧k_≠gb840∧k_≠gb847∧k_≠gb848∧k_≠gb857) (.slice A839_3 ((rd_T53 (rd_L7 ((rd_T41 t833 0).f1) 0) 0).f3).length c839_3) ((rd_T53 (rd_L7 ((rd_T41 t833 0).f1) 0) 0).f3)):=by rw[hWz4];exact⟨kdV_ (Kd.V_mono (Kd.V_far (Kd.V_far (Kd.V_far (Kd.V_far (Kd.V_mono HO_841003.out (fun k_ hk=>(⟨hk,hk.2.2.2.2.2.2⟩:_∧k_≠gb857))) (fun _ hk=>hk.2) _) (fun _ hk=>hk.2) _) (fun _ hk=>hk.2) _) (fun _ hk=>hk.2) _) (fun _ hk=>⟨hk.1.1,⟨hk.1.2.1,⟨hk.1.2.2.1,⟨hk.1.2.2.2.1,⟨hk.1.2.2.2.2.1,⟨hk.1.2.2.2.2.2.1,hk.1.2.2.2.2.2.2⟩⟩⟩⟩⟩⟩))⟩
        have n2_:Aside0 (Kd.V k57 57 w106 w.heap.size (fun k_=>(P0_4_ k_∨w.heap.size≤k_)∧some k_≠(.slice Ao101 y854.length co101:Value).ownBlock∧k_≠gb822∧k_≠gb840∧k_≠gb847∧k_≠gb848∧k_≠gb857) (.slice A839_3 ((rd_T53 (rd_L7 ((rd_T41 t833 0).f1) 0) 0).f3).length c839_3) ((rd_T53 (rd_L7 ((rd_T41 t833 0).f1) 0) 0).f3)):=by rw[hWz4];exact⟨kdV_ (Kd.V_mono (Kd.V_far (Kd.V_far (Kd.V_far (Kd.V_far (Kd.V_mono HO_849003.out (fun k_ hk=>(⟨hk,hk.2.2.2.2.2.2⟩:_∧k_≠gb857))) (fun _ hk=>hk.2) _) (fun _ hk=>hk.2) _) (fun _ hk=>hk.2) _) (fun _ hk=>hk.2) _) (fun _ hk=>⟨hk.1.1,⟨hk.1.2.1,⟨hk.1.2.2.1,⟨hk.1.2.2.2.1,⟨hk.1.2.2.2.2.1,⟨hk.1.2.2.2.2.2.1,hk.1.2.2.2.2.2.2⟩⟩⟩⟩⟩⟩))⟩
        have n3_:Aside0 (Kd.R k57 57 w106 w.heap.size (fun k_=>(w.heap.size≤k_)) (.slice Ao101 y854.length co101) y854):=by rw[hWz4];exact⟨kdR_ (Kd.R_mono (Kd.R_far (Kd.R_far (Kd.R_far (Kd.R_far (Kd.R_types HO856.out BK857.out (by decide)) (fun _ hk=>hk.2) _) (fun _ hk=>hk.2) _) (fun _ hk=>hk.2) _) (fun _ hk=>hk.2) _) (fun _ hk=>hk.1))⟩
        have n4_:=wh_ hWz4 (bf_ BK822)
        have n5_:=wh_ hWz4 (bf_ BK840)
        have n6_:=wh_ hWz4 (bf_ BK847)
        have n7_:=wh_ hWz4 (bf_ BK848)
        have n8_:Aside0 (w106.heap[gb857]? = some (.cells #[.int .u8 ((rd_T53 (rd_L7 ((rd_T41 t833 0).f1) 0) 0).f0),.int .i64 ((rd_T53 (rd_L7 ((rd_T41 t833 0).f1) 0) 0).f1),.bool false,.slice Ao101 y854.length co101] 53 (0,0))):=by rw[hWz4];exact⟨(bp_ BK857).out⟩
        have n9_:=wb_ hWz4 (bl_ HB)
        (try clear HO_823004)
        (try clear HO_841003)
        (try clear HO_849003)
        (try clear HO856)
        (try clear BK822)
        (try clear BK840)
        (try clear BK847)
        (try clear BK848)
        (try clear BK857)
        (try clear HB)
        rw[← hWz4]
        clear hWz4
        have HO_823004:=n0_
        have HO_841003:=n1_
        have HO_849003:=n2_
        have HO856:=n3_
        have BK822:=n4_
        have BK840:=n5_
        have BK847:=n6_
        have BK848:=n7_
        have BK857:=n8_
        have HB:=n9_
        clear n0_ n1_ n2_ n3_ n4_ n5_ n6_ n7_ n8_ n9_
        replace HO_823004:=Aside0.mk (Kd.V_drew HO_823004.out)
        replace HO_841003:=Aside0.mk (Kd.V_drew HO_841003.out)
        replace HO_849003:=Aside0.mk (Kd.V_drew HO_849003.out)
        replace HO856:=Aside0.mk (Kd.R_drew HO856.out)
        replace BK822:=Aside0.mk (blk_drew BK822.out)
        replace BK840:=Aside0.mk (blk_drew BK840.out)
        replace BK847:=Aside0.mk (blk_drew BK847.out)
        replace BK848:=Aside0.mk (blk_drew BK848.out)
        replace BK857:=Aside0.mk (blk_drew BK857.out)
        replace HB:=Aside0.mk (below_drew1 HB.out)
        have q108:(1:Int)≤((y854.length:Int):Int):=od_
        obtain⟨i0108,hi0108,_,hsz108,_⟩:=info_parts info57
        have hroom108:y854.length≤co101:=(Kd.R_reads' HO856.out).2.1
        have hC108:Kd.F k57 _ _ Ao101 y854.length y854:=(Kd.V_at (base:=w.heap.size) (Kd.V_mono (ok':=(fun k_=>((((((P0_4_ k_∨w.heap.size≤k_)∧k_≠gb822)∧k_≠gb840)∧k_≠gb847)∧k_≠gb848)∧k_≠gb857))) (Kd.R_V (Kd.R_types (Kd.R_types (Kd.R_types (Kd.R_types (Kd.R_types (HO856.out) BK822.out (by decide)) BK840.out (by decide)) BK847.out (by decide)) BK848.out (by decide)) BK857.out (by decide))) (fun k_ hk=>⟨⟨⟨⟨⟨(.inr (hk.1.1.1.1.1)),hk.1.1.1.1.2⟩,hk.1.1.1.2⟩,hk.1.1.2⟩,hk.1.2⟩,hk.2⟩))).2.2
        have hcut108:=cut_to (P:=Tryz.prog) 51 57 .i64 Tryz.underlying51 hi0108 Ao101 y854.length co101 1 (by omega) q108 hroom108
        have hr108:=Kd.F_take (m:=1) hC108 (by omega)
        have hy108:y858.length=(1:Int).toNat:=(by rw[Ny858.out,List.length_take];omega)
        rw[← Ny858.out] at hr108
        rw[← hy108] at hcut108
        have HO862:=Aside0.mk (show Kd.V k57 57 _ w.heap.size _ (.slice Ao101 y858.length co101) y858 from Kd.V_mk (by omega) hr108)
        have HC862:=Aside0.mk (show y858.length≤co101 from by omega)
        clear hr108 hC108 hroom108 hi0108 hsz108
        have KY108:=Aside0.mk hy108
        clear hy108
        replace q108:=eq_true q108
        refine start_ (n:=10) (S:=fun w'=>w'.cell? ⟨gb840,0,none⟩=some (.int .u8 ((rd_T53 (rd_L7 ((rd_T41 t833 0).f1) 0) 0).f0))∧w'.cell? ⟨gb840,1,none⟩=some (.int .i64 ((rd_T53 (rd_L7 ((rd_T41 t833 0).f1) 0) 0).f1))∧w'.cell? ⟨gb840,2,none⟩=some (.bool x841002_26)∧w'.cell? ⟨gb840,3,none⟩=some (.slice A839_3 ((rd_T53 (rd_L7 ((rd_T41 t833 0).f1) 0) 0).f3).length c839_3)∧w'.cell? ⟨gb857,0,none⟩=some (.int .u8 ((rd_T53 (rd_L7 ((rd_T41 t833 0).f1) 0) 0).f0))∧w'.cell? ⟨gb857,1,none⟩=some (.int .i64 ((rd_T53 (rd_L7 ((rd_T41 t833 0).f1) 0) 0).f1))∧w'.cell? ⟨gb857,2,none⟩=some (.bool false)∧w'.cell? ⟨gb857,3,none⟩=some (.slice Ao101 y854.length co101)) (ds:=[]) #[false,false,false,false,false,false,false,false,false,false] (by kernel_rfl) rfl rfl ⟨bc_ BK840 0,bc_ BK840 1,bc_ BK840 2,bc_ BK840 3,bc_ BK857 0,bc_ BK857 1,bc_ BK857 2,bc_ BK857 3⟩ (fun hHeld=>?_);refine with_tabW florinlaw07_EvalNots.tab14 florinlaw07_EvalNots.bits14 (fun HT_ HW_=>?_)
        generalize w106.drew=w107 at HO_823004 HO_841003 HO_849003 HO856 BK822 BK840 BK847 BK848 BK857 HB HO862 hHeld ⊢
        refine pu_ 0 89 (bm_ 10 1) HT_ ?_
        refine pu_ 2 91 (bm_ 10 5) HT_ ?_
        refine pu_ 4 93 (bm_ 10 21) HT_ ?_
        refine tk_ 1 90 (bm_ 10 23) HT_ HW_ hHeld rfl (by rintro w' ⟨s0,s1,s2,s3,s4,s5,s6,s7⟩;go_simp;with_reducible rfl) ?_
        refine tk_ 3 92 (bm_ 10 31) HT_ HW_ hHeld rfl (by rintro w' ⟨s0,s1,s2,s3,s4,s5,s6,s7⟩;go_simp;with_reducible rfl) ?_
        refine tk_ 5 94 (bm_ 10 63) HT_ HW_ hHeld rfl (by rintro w' ⟨s0,s1,s2,s3,s4,s5,s6,s7⟩;go_simp;with_reducible rfl) ?_
        refine pu_ 6 95 (bm_ 10 127) HT_ ?_
        refine pu_ 7 96 (bm_ 10 255) HT_ ?_
        refine one_ (i:=8) (N:=some 19) (bm_ 10 511) rfl rfl (one_of HT_.out (by kernel_rfl)) (by decide) (fun K hK=>?_)
        refine box_step ?hg (N:=19) ?hd (cs:= #[.int .u8 0,.int .i64 0,.bool false,.slice none 0 0]) (t:=53) ?hr ?_;(case hd=>rfl);(case hg=>rfl);(case hr=>first|(go_simp;done)|(go_simp;rfl))
        intro gb863 hg w109 hbox hb
        have n0_:=Aside0.mk (Kd.V_below (Kd.V_elderB (krV_ HO_823004) gb863 (Nat.le_of_eq hg.symm)) hb)
        have n1_:=Aside0.mk (Kd.V_below (Kd.V_elderB (krV_ HO_841003) gb863 (Nat.le_of_eq hg.symm)) hb)
        have n2_:=Aside0.mk (Kd.V_below (Kd.V_elderB (krV_ HO_849003) gb863 (Nat.le_of_eq hg.symm)) hb)
        have n3_:=kb_ HO856 hb
        have n4_:=Aside0.mk (Kd.V_below (Kd.V_elderB (krV_ HO862) gb863 (Nat.le_of_eq hg.symm)) hb)
        have n5_:=bb_ BK822 hb
        have n6_:=bb_ BK840 hb
        have n7_:=bb_ BK847 hb
        have n8_:=bb_ BK848 hb
        have n9_:=bb_ BK857 hb
        have n10_:=Aside0.mk (below_step (bl_ HB).out hb)
        have n11_:=Aside0.mk (hbox)
        have n12_:=sz_ HB hg
        have n13_:=sz_ HB hg
        have n14_:=na_ BK822 hg
        have n15_:=nb_ BK822 hg
        have n16_:=na_ BK840 hg
        have n17_:=nb_ BK840 hg
        have n18_:=na_ BK847 hg
        have n19_:=nb_ BK847 hg
        have n20_:=na_ BK848 hg
        have n21_:=nb_ BK848 hg
        have n22_:=na_ BK857 hg
        have n23_:=nb_ BK857 hg
        clear HO_823004
        clear HO_841003
        clear HO_849003
        clear HO856
        clear HO862
        clear BK822
        clear BK840
        clear BK847
        clear BK848
        clear BK857
        clear HB
        have HO_823004:=n0_
        have HO_841003:=n1_
        have HO_849003:=n2_
        have HO856:=n3_
        have HO862:=n4_
        have BK822:=n5_
        have BK840:=n6_
        have BK847:=n7_
        have BK848:=n8_
        have BK857:=n9_
        have HB:=n10_
        have BK863:=n11_
        have GW863:=n12_
        have GE863:=n13_
        have NB822_863:=n14_
        have NB863_822:=n15_
        have NB840_863:=n16_
        have NB863_840:=n17_
        have NB847_863:=n18_
        have NB863_847:=n19_
        have NB848_863:=n20_
        have NB863_848:=n21_
        have NB857_863:=n22_
        have NB863_857:=n23_
        clear n0_ n1_ n2_ n3_ n4_ n5_ n6_ n7_ n8_ n9_ n10_ n11_ n12_ n13_ n14_ n15_ n16_ n17_ n18_ n19_ n20_ n21_ n22_ n23_
        clear hb hbox hg
        refine hK.out _ _ ⟨bc_ BK840 0,bc_ BK840 1,bc_ BK840 2,bc_ BK840 3,bc_ BK857 0,bc_ BK857 1,bc_ BK857 2,bc_ BK857 3⟩ (fun hHeld=>?_)
        clear hK K
        refine nm_ 19 ?_
        refine one_ (i:=9) (N:=none) (bm_ 10 1023) rfl rfl (one_of HT_.out (by kernel_rfl)) (by decide) (fun K hK=>?_)
        have hs110:w109.cell? ⟨gb863,0,none⟩=some (.int .u8 0):=bc_ BK863 0
        have hfs110:=blk_frozen BK863.out 0
        have hns110_0:=NB822_863.out
        have hns110_1:=NB840_863.out
        have hns110_2:=NB847_863.out
        have hns110_3:=NB848_863.out
        have hns110_4:=NB857_863.out
        have hms110_0:=NB863_822.out
        have hms110_1:=NB863_840.out
        have hms110_2:=NB863_847.out
        have hms110_3:=NB863_848.out
        have hms110_4:=NB863_857.out
        have hs111:w109.cell? ⟨gb863,1,none⟩=some (.int .i64 0):=bc_ BK863 1
        have hfs111:=blk_frozen BK863.out 1
        have hns111_0:=NB822_863.out
        have hns111_1:=NB840_863.out
        have hns111_2:=NB847_863.out
        have hns111_3:=NB848_863.out
        have hns111_4:=NB857_863.out
        have hms111_0:=NB863_822.out
        have hms111_1:=NB863_840.out
        have hms111_2:=NB863_847.out
        have hms111_3:=NB863_848.out
        have hms111_4:=NB863_857.out
        have hs112:w109.cell? ⟨gb863,2,none⟩=some (.bool false):=bc_ BK863 2
        have hfs112:=blk_frozen BK863.out 2
        have hns112_0:=NB822_863.out
        have hns112_1:=NB840_863.out
        have hns112_2:=NB847_863.out
        have hns112_3:=NB848_863.out
        have hns112_4:=NB857_863.out
        have hms112_0:=NB863_822.out
        have hms112_1:=NB863_840.out
        have hms112_2:=NB863_847.out
        have hms112_3:=NB863_848.out
        have hms112_4:=NB863_857.out
        have hs113:w109.cell? ⟨gb863,3,none⟩=some (.slice none 0 0):=bc_ BK863 3
        have hfs113:=blk_frozen BK863.out 3
        have hns113_0:=NB822_863.out
        have hns113_1:=NB840_863.out
        have hns113_2:=NB847_863.out
        have hns113_3:=NB848_863.out
        have hns113_4:=NB857_863.out
        have hms113_0:=NB863_822.out
        have hms113_1:=NB863_840.out
        have hms113_2:=NB863_847.out
        have hms113_3:=NB863_848.out
        have hms113_4:=NB863_857.out
        refine skip_ (w1:=?_) (by rfl) rfl ?_ ?_
        rotate_left
        ·go_simp
         rfl
        refine hK.out _ _ ⟨((cell_far (p:=⟨gb863,_,none⟩) NB840_863.out _).trans (((cell_far (p:=⟨gb863,_,none⟩) NB840_863.out _).trans (((cell_far (p:=⟨gb863,_,none⟩) NB840_863.out _).trans (((cell_far (p:=⟨gb863,_,none⟩) NB840_863.out _).trans (hHeld.1)))))))),((cell_far (p:=⟨gb863,_,none⟩) NB840_863.out _).trans (((cell_far (p:=⟨gb863,_,none⟩) NB840_863.out _).trans (((cell_far (p:=⟨gb863,_,none⟩) NB840_863.out _).trans (((cell_far (p:=⟨gb863,_,none⟩) NB840_863.out _).trans (hHeld.2.1)))))))),((cell_far (p:=⟨gb863,_,none⟩) NB840_863.out _).trans (((cell_far (p:=⟨gb863,_,none⟩) NB840_863.out _).trans (((cell_far (p:=⟨gb863,_,none⟩) NB840_863.out _).trans (((cell_far (p:=⟨gb863,_,none⟩) NB840_863.out _).trans (hHeld.2.2.1)))))))),((cell_far (p:=⟨gb863,_,none⟩) NB840_863.out _).trans (((cell_far (p:=⟨gb863,_,none⟩) NB840_863.out _).trans (((cell_far (p:=⟨gb863,_,none⟩) NB840_863.out _).trans (((cell_far (p:=⟨gb863,_,none⟩) NB840_863.out _).trans (hHeld.2.2.2.1)))))))),((cell_far (p:=⟨gb863,_,none⟩) NB857_863.out _).trans (((cell_far (p:=⟨gb863,_,none⟩) NB857_863.out _).trans (((cell_far (p:=⟨gb863,_,none⟩) NB857_863.out _).trans (((cell_far (p:=⟨gb863,_,none⟩) NB857_863.out _).trans (hHeld.2.2.2.2.1)))))))),((cell_far (p:=⟨gb863,_,none⟩) NB857_863.out _).trans (((cell_far (p:=⟨gb863,_,none⟩) NB857_863.out _).trans (((cell_far (p:=⟨gb863,_,none⟩) NB857_863.out _).trans (((cell_far (p:=⟨gb863,_,none⟩) NB857_863.out _).trans (hHeld.2.2.2.2.2.1)))))))),((cell_far (p:=⟨gb863,_,none⟩) NB857_863.out _).trans (((cell_far (p:=⟨gb863,_,none⟩) NB857_863.out _).trans (((cell_far (p:=⟨gb863,_,none⟩) NB857_863.out _).trans (((cell_far (p:=⟨gb863,_,none⟩) NB857_863.out _).trans (hHeld.2.2.2.2.2.2.1)))))))),((cell_far (p:=⟨gb863,_,none⟩) NB857_863.out _).trans (((cell_far (p:=⟨gb863,_,none⟩) NB857_863.out _).trans (((cell_far (p:=⟨gb863,_,none⟩) NB857_863.out _).trans (((cell_far (p:=⟨gb863,_,none⟩) NB857_863.out _).trans (hHeld.2.2.2.2.2.2.2))))))))⟩ (fun hHeld=>?_)
        clear hK K
        refine done_ (done_of HT_.out (by kernel_rfl)) ?_
        try go_wp2
        obtain⟨w114,hWz5⟩:∃W_,W_=((((w109.setCell ⟨gb863,0,none⟩ (.int .u8 ((rd_T53 (rd_L7 ((rd_T41 t833 0).f1) 0) 0).f0))).setCell ⟨gb863,1,none⟩ (.int .i64 ((rd_T53 (rd_L7 ((rd_T41 t833 0).f1) 0) 0).f1))).setCell ⟨gb863,2,none⟩ (.bool false)).setCell ⟨gb863,3,none⟩ (.slice Ao101 y858.length co101)):=⟨_,rfl⟩
        have n0_:Aside0 (Kd.V k139 139 w114 w.heap.size (fun k_=>(P0_4_ k_∨w.heap.size≤k_)∧some k_≠(.slice Ao101 y854.length co101:Value).ownBlock∧k_≠gb822∧k_≠gb840∧k_≠gb847∧k_≠gb848∧k_≠gb857∧k_≠gb863) (.slice A0_4 l0_4.length c0_4) l0_4):=by rw[hWz5];exact⟨kdV_ (Kd.V_mono (Kd.V_far (Kd.V_far (Kd.V_far (Kd.V_far (Kd.V_mono HO_823004.out (fun k_ hk=>(⟨hk,hk.2⟩:_∧k_≠gb863))) (fun _ hk=>hk.2) _) (fun _ hk=>hk.2) _) (fun _ hk=>hk.2) _) (fun _ hk=>hk.2) _) (fun _ hk=>⟨hk.1.1.1,⟨hk.1.1.2.1,⟨hk.1.1.2.2.1,⟨hk.1.1.2.2.2.1,⟨hk.1.1.2.2.2.2.1,⟨hk.1.1.2.2.2.2.2.1,⟨hk.1.1.2.2.2.2.2.2,hk.1.2⟩⟩⟩⟩⟩⟩⟩))⟩
        have n1_:Aside0 (Kd.V k57 57 w114 w.heap.size (fun k_=>(P0_4_ k_∨w.heap.size≤k_)∧some k_≠(.slice Ao101 y854.length co101:Value).ownBlock∧k_≠gb822∧k_≠gb840∧k_≠gb847∧k_≠gb848∧k_≠gb857∧k_≠gb863) (.slice A839_3 ((rd_T53 (rd_L7 ((rd_T41 t833 0).f1) 0) 0).f3).length c839_3) ((rd_T53 (rd_L7 ((rd_T41 t833 0).f1) 0) 0).f3)):=by rw[hWz5];exact⟨kdV_ (Kd.V_mono (Kd.V_far (Kd.V_far (Kd.V_far (Kd.V_far (Kd.V_mono HO_841003.out (fun k_ hk=>(⟨hk,hk.2⟩:_∧k_≠gb863))) (fun _ hk=>hk.2) _) (fun _ hk=>hk.2) _) (fun _ hk=>hk.2) _) (fun _ hk=>hk.2) _) (fun _ hk=>⟨hk.1.1.1,⟨hk.1.1.2.1,⟨hk.1.1.2.2.1,⟨hk.1.1.2.2.2.1,⟨hk.1.1.2.2.2.2.1,⟨hk.1.1.2.2.2.2.2.1,⟨hk.1.1.2.2.2.2.2.2,hk.1.2⟩⟩⟩⟩⟩⟩⟩))⟩
        have n2_:Aside0 (Kd.V k57 57 w114 w.heap.size (fun k_=>(P0_4_ k_∨w.heap.size≤k_)∧some k_≠(.slice Ao101 y854.length co101:Value).ownBlock∧k_≠gb822∧k_≠gb840∧k_≠gb847∧k_≠gb848∧k_≠gb857∧k_≠gb863) (.slice A839_3 ((rd_T53 (rd_L7 ((rd_T41 t833 0).f1) 0) 0).f3).length c839_3) ((rd_T53 (rd_L7 ((rd_T41 t833 0).f1) 0) 0).f3)):=by rw[hWz5];exact⟨kdV_ (Kd.V_mono (Kd.V_far (Kd.V_far (Kd.V_far (Kd.V_far (Kd.V_mono HO_849003.out (fun k_ hk=>(⟨hk,hk.2⟩:_∧k_≠gb863))) (fun _ hk=>hk.2) _) (fun _ hk=>hk.2) _) (fun _ hk=>hk.2) _) (fun _ hk=>hk.2) _) (fun _ hk=>⟨hk.1.1.1,⟨hk.1.1.2.1,⟨hk.1.1.2.2.1,⟨hk.1.1.2.2.2.1,⟨hk.1.1.2.2.2.2.1,⟨hk.1.1.2.2.2.2.2.1,⟨hk.1.1.2.2.2.2.2.2,hk.1.2⟩⟩⟩⟩⟩⟩⟩))⟩
        have n3_:Aside0 (Kd.R k57 57 w114 w.heap.size (fun k_=>(w.heap.size≤k_)) (.slice Ao101 y854.length co101) y854):=by rw[hWz5];exact⟨kdR_ (Kd.R_mono (Kd.R_far (Kd.R_far (Kd.R_far (Kd.R_far (Kd.R_types HO856.out BK863.out (by decide)) (fun _ hk=>hk.2) _) (fun _ hk=>hk.2) _) (fun _ hk=>hk.2) _) (fun _ hk=>hk.2) _) (fun _ hk=>hk.1))⟩
        have n4_:Aside0 (Kd.V k57 57 w114 w.heap.size (fun k_=>(P0_4_ k_∨w.heap.size≤k_)∧k_≠gb822∧k_≠gb840∧k_≠gb847∧k_≠gb848∧k_≠gb857∧k_≠gb863) (.slice Ao101 y858.length co101) y858):=by rw[hWz5];exact⟨kdV_ (Kd.V_mono (Kd.V_far (Kd.V_far (Kd.V_far (Kd.V_far (Kd.V_mono HO862.out (fun k_ hk=>(⟨hk,hk.2⟩:_∧k_≠gb863))) (fun _ hk=>hk.2) _) (fun _ hk=>hk.2) _) (fun _ hk=>hk.2) _) (fun _ hk=>hk.2) _) (fun _ hk=>⟨hk.1.1.1.1.1.1.1,⟨hk.1.1.1.1.1.1.2,⟨hk.1.1.1.1.1.2,⟨hk.1.1.1.1.2,⟨hk.1.1.1.2,⟨hk.1.1.2,hk.1.2⟩⟩⟩⟩⟩⟩))⟩
        have n5_:=wh_ hWz5 (bf_ BK822)
        have n6_:=wh_ hWz5 (bf_ BK840)
        have n7_:=wh_ hWz5 (bf_ BK847)
        have n8_:=wh_ hWz5 (bf_ BK848)
        have n9_:=wh_ hWz5 (bf_ BK857)
        have n10_:Aside0 (w114.heap[gb863]? = some (.cells #[.int .u8 ((rd_T53 (rd_L7 ((rd_T41 t833 0).f1) 0) 0).f0),.int .i64 ((rd_T53 (rd_L7 ((rd_T41 t833 0).f1) 0) 0).f1),.bool false,.slice Ao101 y858.length co101] 53 (0,0))):=by rw[hWz5];exact⟨(bp_ BK863).out⟩
        have n11_:=wb_ hWz5 (bl_ HB)
        (try clear HO_823004)
        (try clear HO_841003)
        (try clear HO_849003)
        (try clear HO856)
        (try clear HO862)
        (try clear BK822)
        (try clear BK840)
        (try clear BK847)
        (try clear BK848)
        (try clear BK857)
        (try clear BK863)
        (try clear HB)
        rw[← hWz5]
        clear hWz5
        have HO_823004:=n0_
        have HO_841003:=n1_
        have HO_849003:=n2_
        have HO856:=n3_
        have HO862:=n4_
        have BK822:=n5_
        have BK840:=n6_
        have BK847:=n7_
        have BK848:=n8_
        have BK857:=n9_
        have BK863:=n10_
        have HB:=n11_
        clear n0_ n1_ n2_ n3_ n4_ n5_ n6_ n7_ n8_ n9_ n10_ n11_
        replace HO_823004:=Aside0.mk (Kd.V_drew HO_823004.out)
        replace HO_841003:=Aside0.mk (Kd.V_drew HO_841003.out)
        replace HO_849003:=Aside0.mk (Kd.V_drew HO_849003.out)
        replace HO856:=Aside0.mk (Kd.R_drew HO856.out)
        replace HO862:=Aside0.mk (Kd.V_drew HO862.out)
        replace BK822:=Aside0.mk (blk_drew BK822.out)
        replace BK840:=Aside0.mk (blk_drew BK840.out)
        replace BK847:=Aside0.mk (blk_drew BK847.out)
        replace BK848:=Aside0.mk (blk_drew BK848.out)
        replace BK857:=Aside0.mk (blk_drew BK857.out)
        replace BK863:=Aside0.mk (blk_drew BK863.out)
        replace HB:=Aside0.mk (below_drew1 HB.out)
        refine start_ (n:=13) (S:=fun w'=>w'.cell? ⟨gb857,0,none⟩=some (.int .u8 ((rd_T53 (rd_L7 ((rd_T41 t833 0).f1) 0) 0).f0))∧w'.cell? ⟨gb857,1,none⟩=some (.int .i64 ((rd_T53 (rd_L7 ((rd_T41 t833 0).f1) 0) 0).f1))∧w'.cell? ⟨gb857,2,none⟩=some (.bool false)∧w'.cell? ⟨gb857,3,none⟩=some (.slice Ao101 y854.length co101)∧w'.cell? ⟨gb847,0,none⟩=some (.string t844)∧w'.cell? ⟨gb847,1,none⟩=some (.string t845)∧w'.cell? ⟨gb847,2,none⟩=some (.int .i64 t846)∧w'.cell? ⟨gb840,0,none⟩=some (.int .u8 ((rd_T53 (rd_L7 ((rd_T41 t833 0).f1) 0) 0).f0))∧w'.cell? ⟨gb840,1,none⟩=some (.int .i64 ((rd_T53 (rd_L7 ((rd_T41 t833 0).f1) 0) 0).f1))∧w'.cell? ⟨gb840,2,none⟩=some (.bool x841002_26)∧w'.cell? ⟨gb840,3,none⟩=some (.slice A839_3 ((rd_T53 (rd_L7 ((rd_T41 t833 0).f1) 0) 0).f3).length c839_3)∧w'.cell? ⟨gb863,0,none⟩=some (.int .u8 ((rd_T53 (rd_L7 ((rd_T41 t833 0).f1) 0) 0).f0))∧w'.cell? ⟨gb863,1,none⟩=some (.int .i64 ((rd_T53 (rd_L7 ((rd_T41 t833 0).f1) 0) 0).f1))∧w'.cell? ⟨gb863,2,none⟩=some (.bool false)∧w'.cell? ⟨gb863,3,none⟩=some (.slice Ao101 y858.length co101)) (ds:=[]) #[false,false,false,false,false,false,false,false,false,false,false,false,false] (by kernel_rfl) rfl rfl ⟨bc_ BK857 0,bc_ BK857 1,bc_ BK857 2,bc_ BK857 3,bc_ BK847 0,bc_ BK847 1,bc_ BK847 2,bc_ BK840 0,bc_ BK840 1,bc_ BK840 2,bc_ BK840 3,bc_ BK863 0,bc_ BK863 1,bc_ BK863 2,bc_ BK863 3⟩ (fun hHeld=>?_);refine with_tabW florinlaw07_EvalNots.tab15 florinlaw07_EvalNots.bits15 (fun HT_ HW_=>?_)
        generalize w114.drew=w115 at HO_823004 HO_841003 HO_849003 HO856 HO862 BK822 BK840 BK847 BK848 BK857 BK863 HB hHeld ⊢
        refine tk_ 0 97 (bm_ 13 1) HT_ HW_ hHeld rfl (by rintro w' ⟨s0,s1,s2,s3,s4,s5,s6,s7,s8,s9,s10,s11,s12,s13,s14⟩;go_simp;with_reducible rfl) ?_
        refine tk_ 1 98 (bm_ 13 3) HT_ HW_ hHeld rfl (by rintro w' ⟨s0,s1,s2,s3,s4,s5,s6,s7,s8,s9,s10,s11,s12,s13,s14⟩;go_simp;with_reducible rfl) ?_
        refine tk_ 3 100 (bm_ 13 11) HT_ HW_ hHeld rfl (by rintro w' ⟨s0,s1,s2,s3,s4,s5,s6,s7,s8,s9,s10,s11,s12,s13,s14⟩;go_simp;with_reducible rfl) ?_
        refine tk_ 4 101 (bm_ 13 27) HT_ HW_ hHeld rfl (by rintro w' ⟨s0,s1,s2,s3,s4,s5,s6,s7,s8,s9,s10,s11,s12,s13,s14⟩;go_simp;with_reducible rfl) ?_
        refine one_ (i:=2) (N:=some 99) (bm_ 13 31) rfl rfl (one_of HT_.out (by kernel_rfl)) (by decide) (fun K hK=>?_)
        refine gs_ Tryz.func15 #[.agg #[.int .u8 ((rd_T53 (rd_L7 ((rd_T41 t833 0).f1) 0) 0).f0),.int .i64 ((rd_T53 (rd_L7 ((rd_T41 t833 0).f1) 0) 0).f1),.bool false,.slice Ao101 y854.length co101],.agg #[.string t844,.string t845,.int .i64 t846]] ?_
        with_reducible refine(eval_Holds.calls kj26 ((rd_T53 (rd_L7 ((rd_T41 t833 0).f1) 0) 0).f0) ((rd_T53 (rd_L7 ((rd_T41 t833 0).f1) 0) 0).f1) false _ _ y854 t844 t845 t846 t864 _ ?side1 ?side2 A66.out).mono ?_
        (case side1=>exact kc_ HO856)
        (case side2=>exact kl_ HO856)
        rintro e w116 ⟨rfl,hb⟩
        refine⟨_,rfl,?_⟩
        replace HO_823004:=Aside0.mk (Kd.V_below (krV_ HO_823004) hb)
        replace HO_841003:=Aside0.mk (Kd.V_below (krV_ HO_841003) hb)
        replace HO_849003:=Aside0.mk (Kd.V_below (krV_ HO_849003) hb)
        replace HO856:=kb_ HO856 hb
        replace HO862:=Aside0.mk (Kd.V_below (krV_ HO862) hb)
        replace BK822:=bb_ BK822 hb
        replace BK840:=bb_ BK840 hb
        replace BK847:=bb_ BK847 hb
        replace BK848:=bb_ BK848 hb
        replace BK857:=bb_ BK857 hb
        replace BK863:=bb_ BK863 hb
        replace HB:=Aside0.mk (below_step (bl_ HB).out hb)
        (try clear hb)
        (try clear hb2)
        (try clear hk)
        (try clear hi)
        refine hK.out _ _ ⟨bc_ BK857 0,bc_ BK857 1,bc_ BK857 2,bc_ BK857 3,bc_ BK847 0,bc_ BK847 1,bc_ BK847 2,bc_ BK840 0,bc_ BK840 1,bc_ BK840 2,bc_ BK840 3,bc_ BK863 0,bc_ BK863 1,bc_ BK863 2,bc_ BK863 3⟩ (fun hHeld=>?_)
        clear hK K
        refine nm_ 99 ?_
        refine one_ (i:=5) (N:=some 102) (bm_ 13 63) rfl rfl (one_of HT_.out (by kernel_rfl)) (by decide) (fun K hK=>?_)
        refine gs_ Tryz.func15 #[.agg #[.int .u8 ((rd_T53 (rd_L7 ((rd_T41 t833 0).f1) 0) 0).f0),.int .i64 ((rd_T53 (rd_L7 ((rd_T41 t833 0).f1) 0) 0).f1),.bool x841002_26,.slice A839_3 ((rd_T53 (rd_L7 ((rd_T41 t833 0).f1) 0) 0).f3).length c839_3],.agg #[.string t844,.string t845,.int .i64 t846]] ?_
        with_reducible refine(eval_Holds.calls kj26 ((rd_T53 (rd_L7 ((rd_T41 t833 0).f1) 0) 0).f0) ((rd_T53 (rd_L7 ((rd_T41 t833 0).f1) 0) 0).f1) x841002_26 _ _ ((rd_T53 (rd_L7 ((rd_T41 t833 0).f1) 0) 0).f3) t844 t845 t846 false _ ?side1 ?side2 A67.out).mono ?_
        (case side1=>repeat(first|exact(Kd.V_reads' HO_841003.out).2.2|(with_reducible refine Kd.C_alloc ?_ _)|(with_reducible refine Kd.C_drewN ?_ _)|(with_reducible refine Kd.C_drew ?_)))
        (case side2=>exact(Kd.V_reads' HO_841003.out).2.1)
        rintro e w117 ⟨rfl,hb⟩
        refine⟨_,rfl,?_⟩
        replace HO_823004:=Aside0.mk (Kd.V_below (krV_ HO_823004) hb)
        replace HO_841003:=Aside0.mk (Kd.V_below (krV_ HO_841003) hb)
        replace HO_849003:=Aside0.mk (Kd.V_below (krV_ HO_849003) hb)
        replace HO856:=kb_ HO856 hb
        replace HO862:=Aside0.mk (Kd.V_below (krV_ HO862) hb)
        replace BK822:=bb_ BK822 hb
        replace BK840:=bb_ BK840 hb
        replace BK847:=bb_ BK847 hb
        replace BK848:=bb_ BK848 hb
        replace BK857:=bb_ BK857 hb
        replace BK863:=bb_ BK863 hb
        replace HB:=Aside0.mk (below_step (bl_ HB).out hb)
        (try clear hb)
        (try clear hb2)
        (try clear hk)
        (try clear hi)
        refine hK.out _ _ ⟨bc_ BK857 0,bc_ BK857 1,bc_ BK857 2,bc_ BK857 3,bc_ BK847 0,bc_ BK847 1,bc_ BK847 2,bc_ BK840 0,bc_ BK840 1,bc_ BK840 2,bc_ BK840 3,bc_ BK863 0,bc_ BK863 1,bc_ BK863 2,bc_ BK863 3⟩ (fun hHeld=>?_)
        clear hK K
        refine nm_ 102 ?_
        refine pu_ 6 103 (bm_ 13 127) HT_ ?_
        refine tk_ 7 104 (bm_ 13 255) HT_ HW_ hHeld rfl (by rintro w' ⟨s0,s1,s2,s3,s4,s5,s6,s7,s8,s9,s10,s11,s12,s13,s14⟩;go_simp;with_reducible rfl) ?_
        refine tk_ 8 105 (bm_ 13 511) HT_ HW_ hHeld rfl (by rintro w' ⟨s0,s1,s2,s3,s4,s5,s6,s7,s8,s9,s10,s11,s12,s13,s14⟩;go_simp;with_reducible rfl) ?_
        refine one_ (i:=9) (N:=some 106) (bm_ 13 1023) rfl rfl (one_of HT_.out (by kernel_rfl)) (by decide) (fun K hK=>?_)
        refine gs_ Tryz.func15 #[.agg #[.int .u8 ((rd_T53 (rd_L7 ((rd_T41 t833 0).f1) 0) 0).f0),.int .i64 ((rd_T53 (rd_L7 ((rd_T41 t833 0).f1) 0) 0).f1),.bool false,.slice Ao101 y858.length co101],.agg #[.string t844,.string t845,.int .i64 t846]] ?_
        with_reducible refine(eval_Holds.calls kj26 ((rd_T53 (rd_L7 ((rd_T41 t833 0).f1) 0) 0).f0) ((rd_T53 (rd_L7 ((rd_T41 t833 0).f1) 0) 0).f1) false _ _ y858 t844 t845 t846 t866 _ ?side1 ?side2 A93.out).mono ?_
        (case side1=>repeat(first|exact(Kd.V_reads' HO862.out).2.2|(with_reducible refine Kd.C_alloc ?_ _)|(with_reducible refine Kd.C_drewN ?_ _)|(with_reducible refine Kd.C_drew ?_)))
        (case side2=>exact(Kd.V_reads' HO862.out).2.1)
        rintro e w118 ⟨rfl,hb⟩
        refine⟨_,rfl,?_⟩
        replace HO_823004:=Aside0.mk (Kd.V_below (krV_ HO_823004) hb)
        replace HO_841003:=Aside0.mk (Kd.V_below (krV_ HO_841003) hb)
        replace HO_849003:=Aside0.mk (Kd.V_below (krV_ HO_849003) hb)
        replace HO856:=kb_ HO856 hb
        replace HO862:=Aside0.mk (Kd.V_below (krV_ HO862) hb)
        replace BK822:=bb_ BK822 hb
        replace BK840:=bb_ BK840 hb
        replace BK847:=bb_ BK847 hb
        replace BK848:=bb_ BK848 hb
        replace BK857:=bb_ BK857 hb
        replace BK863:=bb_ BK863 hb
        replace HB:=Aside0.mk (below_step (bl_ HB).out hb)
        (try clear hb)
        (try clear hb2)
        (try clear hk)
        (try clear hi)
        refine hK.out _ _ ⟨bc_ BK857 0,bc_ BK857 1,bc_ BK857 2,bc_ BK857 3,bc_ BK847 0,bc_ BK847 1,bc_ BK847 2,bc_ BK840 0,bc_ BK840 1,bc_ BK840 2,bc_ BK840 3,bc_ BK863 0,bc_ BK863 1,bc_ BK863 2,bc_ BK863 3⟩ (fun hHeld=>?_)
        clear hK K
        refine nm_ 106 ?_
        refine pu_ 10 107 (bm_ 13 2047) HT_ ?_
        refine pu_ 11 108 (bm_ 13 4095) HT_ ?_
        refine pu_ 12 12 (bm_ 13 8191) HT_ ?_
        refine done_ (done_of HT_.out (by kernel_rfl)) ?_
        try go_wp2
        go_ret
        exact⟨ew_,(bl_ HB).out⟩
 ·replace c8:=Bool.eq_false_iff.mpr c8
  subst c8
  have H1:(none)=some r:=by rw[if_neg (show ¬(false=true) by decide)] at H;exact H
  clear H
  have H:=H1
  clear H1
  exact absurd H (by simp)

end Go.Proofs.YtadagjgkanlmdaaGreatDoor.P
