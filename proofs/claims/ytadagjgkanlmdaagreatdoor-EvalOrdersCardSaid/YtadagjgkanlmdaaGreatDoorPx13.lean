-- written by a program of this session (wip/p2)
import Derived.Test.YtadagjgkanlmdaaGreatDoorPx0
import Derived.Test.YtadagjgkanlmdaaGreatDoorPx2
import Derived.Test.YtadagjgkanlmdaaGreatDoorPx5
import Derived.Test.YtadagjgkanlmdaaGreatDoorPx6
import Derived.Test.YtadagjgkanlmdaaGreatDoorPx7
import Derived.Test.YtadagjgkanlmdaaGreatDoorPx9
import Derived.Test.YtadagjgkanlmdaaGreatDoorPx12
namespace Go.Proofs.YtadagjgkanlmdaaGreatDoor.P
open Go.RowKit Go.Proofs.YtadagjgkanlmdaaGreatDoorW.PrintWords Go.Proofs.YtadagjgkanlmdaaGreatDoorW.PrintLast Go.Proofs.YtadagjgkanlmdaaGreatDoorW.PrintMore
attribute [local go_sem] max2_int min2_int max_two min_two max_three min_three max_four min_four   -- for this text's walks alone
set_option linter.unusedVariables false
set_option linter.unusedSimpArgs false

/-! ### florinlaw07_EvalOrders: function 3 -/
mutual
def florinlaw07_EvalOrders.j0:Nat→List (S50)→List Int→List Int→Int→Int→Bool→Option (Bool)
 | 0,_,_,_,_,_,_=>none
 | k+1,x0,x1,x2,x3,x4,x34=>if x34=true then (some true) else ((florinlaw05_Shown.f k x1 x2).bind fun bt738=>((operand_Of.f k bt738.1 bt738.2.1 bt738.2.2 (Go.bits .and .i64 x3 15)).bind fun bt741=>((florinlaw06_All.f k x0 0).bind fun bt745=>((eval_Pick.f k bt745.1 bt741.1 bt741.2.1 bt741.2.2).bind fun t749=>(if (IntKind.u64.wrap (mx (bt745.1.length:Int) 1))=0 then (none) else (florinlaw07_EvalOrders.l0 k bt745.1 t749 (([]:List (S41))) (([]:List (S41))) (mx (bt745.1.length:Int) 1) (wrap64 (Int.tmod (IntKind.u64.wrap (x4)) (IntKind.u64.wrap (mx (bt745.1.length:Int) 1)))) (bt745.1.length:Int) 0 bt741.1 bt741.2.1 bt741.2.2))))))
def florinlaw07_EvalOrders.l0:Nat→List (S41)→Int→List (S41)→List (S41)→Int→Int→Int→Int→ByteArray→ByteArray→Int→Option (Bool)
 | 0,_,_,_,_,_,_,_,_,_,_,_=>none
 | k+1,x12,x14,x15,x16,x17,x18,x61,x62,x745000,x745001,x745002=>if x62<x61 then (if x17=0 then (none) else (if 0≤(Int.tmod (wrap64 (x62+x18)) x17) then (if (Int.tmod (wrap64 (x62+x18)) x17)<(x12.length:Int) then (if x15.length<2932031007402 then ((some (x15++[(⟨(rd_T41 x12 (Int.tmod (wrap64 (x62+x18)) x17)).f0,(rd_T41 x12 (Int.tmod (wrap64 (x62+x18)) x17)).f1,(rd_T41 x12 (Int.tmod (wrap64 (x62+x18)) x17)).f2⟩:S41)]:List (S41))).bind fun y757=>(if 0≤x62 then (if x62<(x12.length:Int) then ((eval_Meets.f k ((rd_T41 x12 x62).f0) ((rd_T41 x12 x62).f1) ((rd_T41 x12 x62).f2) x745000 x745001 x745002).bind fun t761=>(if t761=true then (if ((rd_T41 x12 x62).f0)=5 then (florinlaw07_EvalOrders.l0 k x12 x14 y757 x16 x17 x18 x61 (wrap64 (x62+1)) x745000 x745001 x745002) else (if x16.length<2932031007402 then (florinlaw07_EvalOrders.l0 k x12 x14 y757 (x16++[(⟨(rd_T41 x12 x62).f0,(rd_T41 x12 x62).f1,(rd_T41 x12 x62).f2⟩:S41)]) x17 x18 x61 (wrap64 (x62+1)) x745000 x745001 x745002) else (none))) else (florinlaw07_EvalOrders.l0 k x12 x14 y757 x16 x17 x18 x61 (wrap64 (x62+1)) x745000 x745001 x745002))) else (none)) else (none))) else (none)) else (none)) else (none))) else ((eval_Pick.f k x15 x745000 x745001 x745002).bind fun t767=>(if t767=x14 then ((eval_Pick.f k x16 x745000 x745001 x745002).bind fun t768=>(if t768=x14 then (some ((x14==5)==((x16.length:Int)==0))) else (none))) else (none)))
end
def florinlaw07_EvalOrders.f (k:Nat) (l0:List (S50)) (l1:List Int) (l2:List Int) (a3:Int) (a4:Int):Option (Bool):=(florinlaw07_head.f k).bind fun t736=>(if t736=true then ((florinlaw06_Few.f k l0).bind fun t737=>(if t737=true then (if (l1.length:Int)>40 then (florinlaw07_EvalOrders.j0 k l0 l1 l2 a3 a4 true) else (florinlaw07_EvalOrders.j0 k l0 l1 l2 a3 a4 (decide ((l2.length:Int)>40)))) else (florinlaw07_EvalOrders.j0 k l0 l1 l2 a3 a4 true))) else (none))
def florinlaw07_EvalOrders.T16:Bool × List (List Nat × List Nat):=(true,[([],[]),([],[]),([0,1],[0,1]),([2],[2]),([],[]),([3,4],[3,4]),([5,5],[5]),([6],[6]),([6],[6]),([7,8,6],[6,7,8]),([9,6],[6,9]),([10,6],[6,10]),([11,6],[6,11]),([6,12],[6,12])])
def florinlaw07_EvalOrders.B16:List Nat:=[0,0,3,7,0,31,63,127,127,511,1023,2047,4095,8191]
theorem florinlaw07_EvalOrders.tab16:rtab .any (opsOf Tryz.f3 16)=florinlaw07_EvalOrders.T16:=by kernel_rfl
theorem florinlaw07_EvalOrders.bits16:waitsOk florinlaw07_EvalOrders.T16.2 florinlaw07_EvalOrders.B16=true:=by kernel_rfl
set_option maxHeartbeats 64000000 in
set_option maxRecDepth 100000 in
theorem florinlaw07_EvalOrders.calls (k:Nat) (A0:Option Addr) (c0:Nat) (l0:List (S50)) (A1:Option Addr) (c1:Nat) (l1:List Int) (A2:Option Addr) (c2:Nat) (l2:List Int) (a3:Int) (a4:Int) (r:Bool) (w:World) (hr0:Kd.C k50 w A0 l0.length l0) (hc0:l0.length≤c0) (hr1:Kd.C (Kd.int .u8) w A1 l1.length l1) (hc1:l1.length≤c1) (hr2:Kd.C (Kd.int .u8) w A2 l2.length l2) (hc2:l2.length≤c2) (h:florinlaw07_EvalOrders.f k l0 l1 l2 a3 a4=some r) :
  Calls Tryz.prog 3 #[.slice A0 l0.length c0,.slice A1 l1.length c1,.slice A2 l2.length c2,.int .i64 a3,.int .i64 a4] w fun e w'=>e= .returned (.bool r)∧Below w.heap.size w w':=by
 have hu27:=Tryz.underlying27
 have hu41:=Tryz.underlying41
 have HR0:=Aside0.mk hr0
 have HC0:=Aside0.mk hc0
 clear hr0 hc0
 have HR1:=Aside0.mk hr1
 have HC1:=Aside0.mk hc1
 clear hr1 hc1
 have HR2:=Aside0.mk hr2
 have HC2:=Aside0.mk hc2
 clear hr2 hc2
 have HB:=Aside0.mk (Below.refl w.heap.size w)
 have H:((florinlaw07_head.f k).bind fun t736=>(if t736=true then ((florinlaw06_Few.f k l0).bind fun t737=>(if t737=true then (if (l1.length:Int)>40 then (florinlaw07_EvalOrders.j0 k l0 l1 l2 a3 a4 true) else (florinlaw07_EvalOrders.j0 k l0 l1 l2 a3 a4 (decide ((l2.length:Int)>40)))) else (florinlaw07_EvalOrders.j0 k l0 l1 l2 a3 a4 true))) else (none)))=some r:=h
 clear h
 replace H:=Option.bind_eq_some_iff.mp H
 obtain⟨t736,A60,H⟩:=H
 have A6:=Aside0.mk A60
 clear A60
 by_cases c7:t736=true
 ·subst c7
  have H1:((florinlaw06_Few.f k l0).bind fun t737=>(if t737=true then (if (l1.length:Int)>40 then (florinlaw07_EvalOrders.j0 k l0 l1 l2 a3 a4 true) else (florinlaw07_EvalOrders.j0 k l0 l1 l2 a3 a4 (decide ((l2.length:Int)>40)))) else (florinlaw07_EvalOrders.j0 k l0 l1 l2 a3 a4 true)))=some r:=by rw[if_pos rfl] at H;exact H
  clear H
  have H:=H1
  clear H1
  have HC8:=Aside0.mk H
  clear H
  go_enter Tryz.func3,Tryz.ntmps3
  go_upto_region 3 with (first|((with_reducible refine gate_callee (f:=8) rfl ?_);refine gl_ (some 20) Tryz.func8 #[] ?_;(with_reducible refine(florinlaw07_head.calls _ _ _ A6.out).mono ?_);rintro e w9 ⟨rfl,hb⟩;refine⟨_,rfl,?_⟩;replace HB:=Aside0.mk (below_step (bl_ HB).out hb);(try clear hb);(try clear hi)))
  (try simp only[Act.put,List.setIfInBounds_toArray,List.set_cons_zero,List.set_cons_succ])
  go_cut [34] (fun v34 wc=>∃(kq:Nat) (x34_7:Bool),v34= .bool x34_7∧Aside0 (florinlaw07_EvalOrders.j0 kq l0 l1 l2 a3 a4 x34_7=some r)∧Aside0 (kq≤k)∧Aside0 (Below w.heap.size w wc))
  case first =>
   have H:=HC8.out
   clear HC8
   replace H:=Option.bind_eq_some_iff.mp H
   obtain⟨t737,A100,H⟩:=H
   have A10:=Aside0.mk A100
   clear A100
   by_cases c11:t737=true
   ·subst c11
    have H1:(if (l1.length:Int)>40 then (florinlaw07_EvalOrders.j0 k l0 l1 l2 a3 a4 true) else (florinlaw07_EvalOrders.j0 k l0 l1 l2 a3 a4 (decide ((l2.length:Int)>40))))=some r:=by rw[if_pos rfl] at H;exact H
    clear H
    have H:=H1
    clear H1
    by_cases c12:(l1.length:Int)>40
    ·rw[if_pos c12] at H
     have c12b0:decide (40<(l1.length:Int))=true:=decide_eq_true c12
     have c12b1:decide (40<l1.length)=true:=decide_eq_true (by omega)
     clear c12
     (first|rw[c12b0]|(simp only[i64_w,i32_w];rw[c12b0])|skip)
     have H':=Aside0.mk H
     clear H
     go_wp2_with (first|((with_reducible refine gate_callee (f:=9) rfl ?_);refine gl_ (some 23) Tryz.func9 #[.slice A0 l0.length c0] ?_;(with_reducible refine(florinlaw06_Few.calls _ _ _ _ _ _ ?side1 ?side2 A10.out).mono ?_);(case side1=>repeat(first|exact(Kd.C_below HR0.out HB.out)|(with_reducible refine Kd.C_alloc ?_ _)|(with_reducible refine Kd.C_drewN ?_ _)|(with_reducible refine Kd.C_drew ?_)));(case side2=>exact HC0.out);rintro e w13 ⟨rfl,hb⟩;refine⟨_,rfl,?_⟩;replace HB:=Aside0.mk (below_step (bl_ HB).out hb);(try clear hb);(try clear hi)))
     go_meet
     case rel=>exact⟨_,(true),eq_,H',⟨by first|omega|exact Nat.le_refl _⟩,(bl_ HB)⟩
    ·rw[if_neg c12] at H
     have c12b0:decide (40<(l1.length:Int))=false:=decide_eq_false c12
     have c12b1:decide (40<l1.length)=false:=decide_eq_false (by omega)
     clear c12
     (first|rw[c12b0]|(simp only[i64_w,i32_w];rw[c12b0])|skip)
     have H':=Aside0.mk H
     clear H
     go_wp2_with (first|((with_reducible refine gate_callee (f:=9) rfl ?_);refine gl_ (some 23) Tryz.func9 #[.slice A0 l0.length c0] ?_;(with_reducible refine(florinlaw06_Few.calls _ _ _ _ _ _ ?side1 ?side2 A10.out).mono ?_);(case side1=>repeat(first|exact(Kd.C_below HR0.out HB.out)|(with_reducible refine Kd.C_alloc ?_ _)|(with_reducible refine Kd.C_drewN ?_ _)|(with_reducible refine Kd.C_drew ?_)));(case side2=>exact HC0.out);rintro e w14 ⟨rfl,hb⟩;refine⟨_,rfl,?_⟩;replace HB:=Aside0.mk (below_step (bl_ HB).out hb);(try clear hb);(try clear hi)))
     go_meet
     case rel=>exact⟨_,(decide ((l2.length:Int)>40)),eq_,H',⟨by first|omega|exact Nat.le_refl _⟩,(bl_ HB)⟩
   ·replace c11:=Bool.eq_false_iff.mpr c11
    subst c11
    have H1:(florinlaw07_EvalOrders.j0 k l0 l1 l2 a3 a4 true)=some r:=by rw[if_neg (show ¬(false=true) by decide)] at H;exact H
    clear H
    have H:=H1
    clear H1
    have H':=Aside0.mk H
    clear H
    go_wp2_with (first|((with_reducible refine gate_callee (f:=9) rfl ?_);refine gl_ (some 23) Tryz.func9 #[.slice A0 l0.length c0] ?_;(with_reducible refine(florinlaw06_Few.calls _ _ _ _ _ _ ?side1 ?side2 A10.out).mono ?_);(case side1=>repeat(first|exact(Kd.C_below HR0.out HB.out)|(with_reducible refine Kd.C_alloc ?_ _)|(with_reducible refine Kd.C_drewN ?_ _)|(with_reducible refine Kd.C_drew ?_)));(case side2=>exact HC0.out);rintro e w15 ⟨rfl,hb⟩;refine⟨_,rfl,?_⟩;replace HB:=Aside0.mk (below_step (bl_ HB).out hb);(try clear hb);(try clear hi)))
    go_meet
    case rel=>exact⟨_,(true),eq_,H',⟨by first|omega|exact Nat.le_refl _⟩,(bl_ HB)⟩
  case rest =>
   clear HC8
   obtain⟨kq,x34_7,rfl,HA,HJ7,HB⟩:=hcut
   cases kq with
   | zero=>exact absurd HA.out (by simp[florinlaw07_EvalOrders.j0])
   | succ kj7 =>
    have H:=HA.out
    clear HA
    simp only[florinlaw07_EvalOrders.j0] at H
    by_cases c16:x34_7=true
    ·subst c16
     have H1:(some true)=some r:=by rw[if_pos rfl] at H;exact H
     clear H
     have H:=H1
     clear H1
     obtain rfl:=Option.some.inj H
     go_wp2
     go_ret
     exact⟨ew_,(bl_ HB).out⟩
    ·replace c16:=Bool.eq_false_iff.mpr c16
     subst c16
     have H1:((florinlaw05_Shown.f kj7 l1 l2).bind fun bt738=>((operand_Of.f kj7 bt738.1 bt738.2.1 bt738.2.2 (Go.bits .and .i64 a3 15)).bind fun bt741=>((florinlaw06_All.f kj7 l0 0).bind fun bt745=>((eval_Pick.f kj7 bt745.1 bt741.1 bt741.2.1 bt741.2.2).bind fun t749=>(if (IntKind.u64.wrap (mx (bt745.1.length:Int) 1))=0 then (none) else (florinlaw07_EvalOrders.l0 kj7 bt745.1 t749 (([]:List (S41))) (([]:List (S41))) (mx (bt745.1.length:Int) 1) (wrap64 (Int.tmod (IntKind.u64.wrap (a4)) (IntKind.u64.wrap (mx (bt745.1.length:Int) 1)))) (bt745.1.length:Int) 0 bt741.1 bt741.2.1 bt741.2.2))))))=some r:=by rw[if_neg (show ¬(false=true) by decide)] at H;exact H
     clear H
     have H:=H1
     clear H1
     replace H:=Option.bind_eq_some_iff.mp H
     obtain⟨⟨t738,t739,t740⟩,A170,H⟩:=H
     dsimp only at H
     have A17:=Aside0.mk A170
     clear A170
     replace H:=Option.bind_eq_some_iff.mp H
     obtain⟨⟨t741,t742,t743⟩,A180,H⟩:=H
     dsimp only at H
     have A18:=Aside0.mk A180
     clear A180
     replace H:=Option.bind_eq_some_iff.mp H
     obtain⟨⟨t745,t748⟩,A190,H⟩:=H
     dsimp only at H
     have A19:=Aside0.mk A190
     clear A190
     replace H:=Option.bind_eq_some_iff.mp H
     obtain⟨t749,A200,H⟩:=H
     have A20:=Aside0.mk A200
     clear A200
     obtain⟨y750,hy750⟩:∃y_:List (S41),y_=(([]:List (S41))):=⟨_,rfl⟩
     replace H:(if (IntKind.u64.wrap (mx (t745.length:Int) 1))=0 then (none) else (florinlaw07_EvalOrders.l0 kj7 t745 t749 y750 (([]:List (S41))) (mx (t745.length:Int) 1) (wrap64 (Int.tmod (IntKind.u64.wrap (a4)) (IntKind.u64.wrap (mx (t745.length:Int) 1)))) (t745.length:Int) 0 t741 t742 t743))=some r:=by first|(rw[hy750];with_reducible exact H)|(have H2_:=(Option.bind_some _ _).symm.trans H;rw[hy750];with_reducible exact H2_)|(have H2_:=(Option.bind_some _ _).symm.trans H;with_reducible exact H2_)|with_reducible exact H|(rw[hy750];exact H)|exact H
     have Ny750:=Aside0.mk hy750
     clear hy750
     obtain⟨y753,hy753⟩:∃y_:List (S41),y_=(([]:List (S41))):=⟨_,rfl⟩
     replace H:(if (IntKind.u64.wrap (mx (t745.length:Int) 1))=0 then (none) else (florinlaw07_EvalOrders.l0 kj7 t745 t749 y750 y753 (mx (t745.length:Int) 1) (wrap64 (Int.tmod (IntKind.u64.wrap (a4)) (IntKind.u64.wrap (mx (t745.length:Int) 1)))) (t745.length:Int) 0 t741 t742 t743))=some r:=by first|(rw[hy753];with_reducible exact H)|(have H2_:=(Option.bind_some _ _).symm.trans H;rw[hy753];with_reducible exact H2_)|(have H2_:=(Option.bind_some _ _).symm.trans H;with_reducible exact H2_)|with_reducible exact H|(rw[hy753];exact H)|exact H
     have Ny753:=Aside0.mk hy753
     clear hy753
     obtain⟨ji21,hji21⟩:∃j_:Int,(mx (t745.length:Int) 1)=j_:=⟨_,rfl⟩
     replace H:(if (IntKind.u64.wrap (ji21))=0 then (none) else (florinlaw07_EvalOrders.l0 kj7 t745 t749 y750 y753 ji21 (wrap64 (Int.tmod (IntKind.u64.wrap (a4)) (IntKind.u64.wrap (ji21)))) (t745.length:Int) 0 t741 t742 t743))=some r:=by first|(rw[hji21] at H;exact H)|(simp only[hji21] at H ⊢;exact H)
     (try rw[hji21] at A17)
     (try rw[hji21] at A18)
     (try rw[hji21] at A19)
     (try rw[hji21] at A20)
     (try (have hji21l:1≤ji21:=by (rw[← hji21];unfold mx;(repeat' split) <;> omega)))
     (try (have hji21m:0≤ji21:=by omega))
     have hji21_:(if (t745.length:Int)<1 then 1 else (t745.length:Int))=ji21:=hji21
     replace H:=ifp_ H
     obtain⟨c22,H⟩:=H
     have c22b0:((IntKind.u64.wrap (ji21))==0)=false:=beq_eq_false_iff_ne.mpr c22
     have c22b1:((IntKind.u64.wrap (ji21)) !=0)=true:=bne_iff_ne.mpr c22
     have H':=Aside0.mk H
     clear H
     go_wp2_with (first|((with_reducible refine gate_callee (f:=11) rfl ?_);refine gl_ (some 37) Tryz.func11 #[.slice A1 l1.length c1,.slice A2 l2.length c2] ?_;(with_reducible refine(florinlaw05_Shown.calls _ _ _ _ _ _ _ _ _ _ _ ?side1 ?side2 ?side3 ?side4 A17.out).mono ?_);(case side1=>repeat(first|exact(Kd.C_below HR1.out HB.out)|(with_reducible refine Kd.C_alloc ?_ _)|(with_reducible refine Kd.C_drewN ?_ _)|(with_reducible refine Kd.C_drew ?_)));(case side2=>exact HC1.out);(case side3=>repeat(first|exact(Kd.C_below HR2.out HB.out)|(with_reducible refine Kd.C_alloc ?_ _)|(with_reducible refine Kd.C_drewN ?_ _)|(with_reducible refine Kd.C_drew ?_)));(case side4=>exact HC2.out);rintro e w23 ⟨rfl,hb⟩;refine⟨_,rfl,?_⟩;replace HB:=Aside0.mk (below_step (bl_ HB).out hb);(try clear hb);(try clear hi))|((with_reducible refine gate_callee (f:=10) rfl ?_);refine gl_ (some 40) Tryz.func10 #[.agg #[.bool t738,.string t739,.string t740],.int .i64 (Go.bits .and .i64 a3 15)] ?_;(with_reducible refine(operand_Of.calls _ _ _ _ _ _ _ _ _ A18.out).mono ?_);rintro e w24 ⟨rfl,hb⟩;refine⟨_,rfl,?_⟩;replace HB:=Aside0.mk (below_step (bl_ HB).out hb);(try clear hb);(try clear hi))|((with_reducible refine gate_dst (N:=11) rfl ?_);(try (refine gate_guard (by rfl) ?_;dsimp only));refine be_ 11 #[.string (⟨#[]⟩:ByteArray),.string (⟨#[]⟩:ByteArray),.int .i64 0] 27 ?_;intro gb744 hg w25 hbox hb;have BK744:=Aside0.mk (hbox);have GW744:=sz_ HB hg;have GE744:=sz_ HB hg;replace HB:=Aside0.mk (below_step (bl_ HB).out hb);clear hb hbox hg;obtain⟨hcz26_0,hcz26_1,hcz26_2,hfz26_0,hfz26_1,hfz26_2⟩:=bo3_ BK744)|((with_reducible refine gate_store (t:=27) (p:=11) rfl ?_);refine store_event (t:=27) (p:=11) (v:=?vo_w27) (w1:=(((w25.setCell ⟨gb744,0,none⟩ (.string t741)).setCell ⟨gb744,1,none⟩ (.string t742)).setCell ⟨gb744,2,none⟩ (.int .i64 t743))) ?hg ?ho ?hn ?hr ?_;(case ho=>rfl);(case hg=>rfl);(case hn=>rfl);(case hr=>first|(go_simp;done)|(go_simp;rfl));intro w27 hw;have n0_:Aside0 (w27.heap[gb744]? = some (.cells #[.string t741,.string t742,.int .i64 t743] 27 (0,0))):=⟨(by rw[hw];exact((bp_ BK744).out))⟩;have n1_:Aside0 (Below w.heap.size w w27):=⟨(by rw[hw];exact(bl_ HB).out)⟩;clear hw;clear BK744;clear HB;have BK744:=n0_;have HB:=n1_;clear n0_ n1_)|((with_reducible refine gate_callee (f:=12) rfl ?_);refine gl_ (some 43) Tryz.func12 #[.slice A0 l0.length c0,.int .i64 0] ?_;(with_reducible refine(florinlaw06_All.calls _ (fun k_=>k_<w.heap.size) _ _ _ _ _ _ _ ?side1 A19.out).mono ?_);(case side1=>exact Kd.V_mk HC0.out (Kd.F_below (Kd.C_F k50_heap HR0.out) (bl_ HB).out));rintro e w28 ⟨v746,rfl,ho0,hb⟩;refine⟨_,rfl,?_⟩;have n0_:=Aside0.mk (Kd.N_lower (Kd.N_mono (ok':=fun k_=>k_≠gb744) ho0 (fun k_ hk_=>Or.elim hk_ (fun hs_=>fun e_=>Nat.not_le.2 hs_ (by rw[e_];exact GW744.out)) (fun hn_=>(Kd.freshB (bk_ BK744).out k_ hn_)))) (below_size (bl_ HB).out));have n1_:=bb_ BK744 hb;have n2_:=Aside0.mk (below_step (bl_ HB).out hb);clear BK744;clear HB;have HO747:=n0_;have BK744:=n1_;have HB:=n2_;clear n0_ n1_ n2_;(try clear hb);(try clear ho0);obtain⟨hcz29_0,hcz29_1,hcz29_2,hfz29_0,hfz29_1,hfz29_2⟩:=bo3_ BK744;obtain⟨Ao30,co30,eo30⟩:=Kd.N_slice HO747.out;subst eo30)|((with_reducible refine gate_callee (f:=13) rfl ?_);refine gl_ (some 48) Tryz.func13 #[.slice Ao30 t745.length co30,.agg #[.string t741,.string t742,.int .i64 t743]] ?_;(with_reducible refine(eval_Pick.calls _ _ _ _ _ _ _ _ _ ?side1 ?side2 A20.out).mono ?_);(case side1=>repeat(first|exact(Kd.N_reads' HO747.out).2.2|(with_reducible refine Kd.C_alloc ?_ _)|(with_reducible refine Kd.C_drewN ?_ _)|(with_reducible refine Kd.C_drew ?_)));(case side2=>exact(Kd.N_reads' HO747.out).2.1);rintro e w31 ⟨rfl,hb⟩;refine⟨_,rfl,?_⟩;replace HO747:=Aside0.mk (Kd.N_below (krN_ HO747) hb);replace BK744:=bb_ BK744 hb;replace HB:=Aside0.mk (below_step (bl_ HB).out hb);(try clear hb);(try clear hi))|((with_reducible refine gate_dst (N:=49) rfl ?_);(try (refine gate_guard (by rfl) ?_;dsimp only));refine Kd.N_lit k41 _ 41 ?hg (N':=49) ?hd (xs:=([]:List (S41))) (inner:=[]) (ok:=(fun k_=>some k_≠(.slice Ao30 t745.length co30:Value).ownBlock∧k_≠gb744)) (okp:=(fun k_=>some k_≠(.slice Ao30 t745.length co30:Value).ownBlock∧k_≠gb744)) ?hr ?hp (fun _ hk=>hk) ((show ∀k_,w31.heap.size≤k_→(fun k_=>some k_≠(.slice Ao30 t745.length co30:Value).ownBlock∧k_≠gb744) k_ from fun k_ hk=>⟨Kd.fresh' (Kd.N_lt (krN_ HO747)) k_ hk,Kd.freshB (bk_ BK744).out k_ hk⟩) _ (Nat.le_refl _)) (Below.refl _ _) (Nat.le_refl _) (by simp) ?_;(case hd=>rfl);(case hg=>rfl);(case hr=>first|(go_simp;done)|(go_simp;rfl));(case hp=>exact(Reps.none _ _));intro v751 w32 ho33 hb hg_ hnew_;clear hg_ hnew_;(first|rw[← Ny750.out] at ho33|(simp only[Int.reduceToNat] at ho33;rw[← Ny750.out] at ho33));have HO752:=Aside0.mk (Kd.N_lower ho33 (below_size (bl_ HB).out));replace HO747:=Aside0.mk (Kd.N_elder' (krN_ HO747) (Kd.N_base ho33) hb);replace BK744:=bb_ BK744 hb;replace HB:=Aside0.mk (below_step (bl_ HB).out hb);clear hb ho33)|((with_reducible refine gate_dst (N:=50) rfl ?_);(try (refine gate_guard (by rfl) ?_;dsimp only));refine Kd.N_lit k41 _ 41 ?hg (N':=50) ?hd (xs:=([]:List (S41))) (inner:=[]) (ok:=(fun k_=>some k_≠(.slice Ao30 t745.length co30:Value).ownBlock∧some k_≠(v751:Value).ownBlock∧k_≠gb744)) (okp:=(fun k_=>some k_≠(.slice Ao30 t745.length co30:Value).ownBlock∧some k_≠(v751:Value).ownBlock∧k_≠gb744)) ?hr ?hp (fun _ hk=>hk) ((show ∀k_,w32.heap.size≤k_→(fun k_=>some k_≠(.slice Ao30 t745.length co30:Value).ownBlock∧some k_≠(v751:Value).ownBlock∧k_≠gb744) k_ from fun k_ hk=>⟨Kd.fresh' (Kd.N_lt (krN_ HO747)) k_ hk,Kd.fresh' (Kd.N_lt (krN_ HO752)) k_ hk,Kd.freshB (bk_ BK744).out k_ hk⟩) _ (Nat.le_refl _)) (Below.refl _ _) (Nat.le_refl _) (by simp) ?_;(case hd=>rfl);(case hg=>rfl);(case hr=>first|(go_simp;done)|(go_simp;rfl));(case hp=>exact(Reps.none _ _));intro v754 w34 ho35 hb hg_ hnew_;clear hg_ hnew_;(first|rw[← Ny753.out] at ho35|(simp only[Int.reduceToNat] at ho35;rw[← Ny753.out] at ho35));have HO755:=Aside0.mk (Kd.N_lower ho35 (below_size (bl_ HB).out));replace HO747:=Aside0.mk (Kd.N_elder' (krN_ HO747) (Kd.N_base ho35) hb);replace HO752:=Aside0.mk (Kd.N_elder' (krN_ HO752) (Kd.N_base ho35) hb);replace BK744:=bb_ BK744 hb;replace HB:=Aside0.mk (below_step (bl_ HB).out hb);clear hb ho35))
     go_loopg [15,16,62] kj7 (fun kq v15 v16 v62 w'=>∃(x15_2:List (S41)) (x16_2:List (S41)) (x62_2:Int),v62= .int .i64 x62_2∧Aside0 (florinlaw07_EvalOrders.l0 kq t745 t749 x15_2 x16_2 ji21 (wrap64 (Int.tmod (IntKind.u64.wrap (a4)) (IntKind.u64.wrap (ji21)))) (t745.length:Int) x62_2 t741 t742 t743=some r)∧Aside0 (kq≤kj7)∧Aside0 (Kd.N k41 41 w' w.heap.size (fun k_=>some k_≠(v15:Value).ownBlock∧some k_≠(v16:Value).ownBlock∧k_≠gb744) (.slice Ao30 t745.length co30) t745)∧Aside0 (Kd.N k41 41 w' w.heap.size (fun k_=>some k_≠((.slice Ao30 t745.length co30):Value).ownBlock∧some k_≠(v16:Value).ownBlock∧k_≠gb744) v15 x15_2)∧Aside0 (Kd.N k41 41 w' w.heap.size (fun k_=>some k_≠((.slice Ao30 t745.length co30):Value).ownBlock∧some k_≠(v15:Value).ownBlock∧k_≠gb744) v16 x16_2)∧Aside0 (w'.heap[gb744]? = some (.cells #[.string t741,.string t742,.int .i64 t743] 27 (0,0)))∧Aside0 (Below w.heap.size w w'))
     case atStart=>exact⟨(y750),(y753),(0),eq_,H',⟨Nat.le_refl _⟩,⟨kdN_ (Kd.N_mono HO747.out (fun _ hk=>⟨hk.1.2,⟨hk.2,hk.1.1⟩⟩))⟩,⟨kdN_ (Kd.N_mono HO752.out (fun _ hk=>⟨hk.1.1,⟨hk.2,hk.1.2⟩⟩))⟩,⟨kdN_ HO755.out⟩,(bk_ BK744),(bl_ HB)⟩
     case round =>
      clear H'
      obtain⟨x15_2,x16_2,x62_2,rfl,HA,HK2,HO_12,HO_15,HO_16,BK744,HB⟩:=hrel
      cases gk with
      | zero=>exact absurd HA.out (by simp[florinlaw07_EvalOrders.l0])
      | succ k2 =>
       have H:=HA.out
       clear HA
       simp only[florinlaw07_EvalOrders.l0] at H
       by_cases c36:x62_2<(t745.length:Int)
       ·rw[if_pos c36] at H
        have c36b0:=decide_eq_true c36
        clear c36
        replace H:=ifp_ H
        obtain⟨c37,H⟩:=H
        have c37b0:(ji21==0)=false:=beq_eq_false_iff_ne.mpr c37
        have c37b1:(ji21 !=0)=true:=bne_iff_ne.mpr c37
        obtain⟨ji38,hji38⟩:∃j_:Int,(Int.tmod (wrap64 (x62_2+(wrap64 (Int.tmod (IntKind.u64.wrap (a4)) (IntKind.u64.wrap (ji21)))))) ji21)=j_:=⟨_,rfl⟩
        replace H:(if 0≤(ji38) then (if (ji38)<(t745.length:Int) then (if x15_2.length<2932031007402 then ((some (x15_2++[(⟨(rd_T41 t745 (ji38)).f0,(rd_T41 t745 (ji38)).f1,(rd_T41 t745 (ji38)).f2⟩:S41)]:List (S41))).bind fun y757=>(if 0≤x62_2 then (if x62_2<(t745.length:Int) then ((eval_Meets.f k2 ((rd_T41 t745 x62_2).f0) ((rd_T41 t745 x62_2).f1) ((rd_T41 t745 x62_2).f2) t741 t742 t743).bind fun t761=>(if t761=true then (if ((rd_T41 t745 x62_2).f0)=5 then (florinlaw07_EvalOrders.l0 k2 t745 t749 y757 x16_2 ji21 (wrap64 (Int.tmod (IntKind.u64.wrap (a4)) (IntKind.u64.wrap (ji21)))) (t745.length:Int) (wrap64 (x62_2+1)) t741 t742 t743) else (if x16_2.length<2932031007402 then (florinlaw07_EvalOrders.l0 k2 t745 t749 y757 (x16_2++[(⟨(rd_T41 t745 x62_2).f0,(rd_T41 t745 x62_2).f1,(rd_T41 t745 x62_2).f2⟩:S41)]) ji21 (wrap64 (Int.tmod (IntKind.u64.wrap (a4)) (IntKind.u64.wrap (ji21)))) (t745.length:Int) (wrap64 (x62_2+1)) t741 t742 t743) else (none))) else (florinlaw07_EvalOrders.l0 k2 t745 t749 y757 x16_2 ji21 (wrap64 (Int.tmod (IntKind.u64.wrap (a4)) (IntKind.u64.wrap (ji21)))) (t745.length:Int) (wrap64 (x62_2+1)) t741 t742 t743))) else (none)) else (none))) else (none)) else (none)) else (none))=some r:=by first|(rw[hji38] at H;exact H)|(simp only[hji38] at H ⊢;exact H)
        replace H:=ifn_ H
        obtain⟨c39,H⟩:=H
        have c39b0:decide (0≤(ji38))=true:=decide_eq_true c39
        clear c39
        replace H:=ifn_ H
        obtain⟨c40,H⟩:=H
        have c40b0:decide ((ji38)<(t745.length:Int))=true:=decide_eq_true c40
        clear c40
        replace H:=ifn_ H
        obtain⟨c41,H⟩:=H
        have LMc41:=Aside0.mk c41
        clear c41
        obtain⟨y757,hy757⟩:∃y_:List (S41),y_=(x15_2++[(⟨(rd_T41 t745 (ji38)).f0,(rd_T41 t745 (ji38)).f1,(rd_T41 t745 (ji38)).f2⟩:S41)]):=⟨_,rfl⟩
        replace H:(if 0≤x62_2 then (if x62_2<(t745.length:Int) then ((eval_Meets.f k2 ((rd_T41 t745 x62_2).f0) ((rd_T41 t745 x62_2).f1) ((rd_T41 t745 x62_2).f2) t741 t742 t743).bind fun t761=>(if t761=true then (if ((rd_T41 t745 x62_2).f0)=5 then (florinlaw07_EvalOrders.l0 k2 t745 t749 y757 x16_2 ji21 (wrap64 (Int.tmod (IntKind.u64.wrap (a4)) (IntKind.u64.wrap (ji21)))) (t745.length:Int) (wrap64 (x62_2+1)) t741 t742 t743) else (if x16_2.length<2932031007402 then (florinlaw07_EvalOrders.l0 k2 t745 t749 y757 (x16_2++[(⟨(rd_T41 t745 x62_2).f0,(rd_T41 t745 x62_2).f1,(rd_T41 t745 x62_2).f2⟩:S41)]) ji21 (wrap64 (Int.tmod (IntKind.u64.wrap (a4)) (IntKind.u64.wrap (ji21)))) (t745.length:Int) (wrap64 (x62_2+1)) t741 t742 t743) else (none))) else (florinlaw07_EvalOrders.l0 k2 t745 t749 y757 x16_2 ji21 (wrap64 (Int.tmod (IntKind.u64.wrap (a4)) (IntKind.u64.wrap (ji21)))) (t745.length:Int) (wrap64 (x62_2+1)) t741 t742 t743))) else (none)) else (none))=some r:=by first|(rw[hy757];with_reducible exact H)|(have H2_:=(Option.bind_some _ _).symm.trans H;rw[hy757];with_reducible exact H2_)|(have H2_:=(Option.bind_some _ _).symm.trans H;with_reducible exact H2_)|with_reducible exact H|(rw[hy757];exact H)|exact H
        have Ny757:=Aside0.mk hy757
        clear hy757
        replace H:=ifn_ H
        obtain⟨c42,H⟩:=H
        have c42b0:decide (0≤x62_2)=true:=decide_eq_true c42
        clear c42
        replace H:=ifn_ H
        obtain⟨c43,H⟩:=H
        have c43b0:decide (x62_2<(t745.length:Int))=true:=decide_eq_true c43
        clear c43
        replace H:=Option.bind_eq_some_iff.mp H
        obtain⟨t761,A440,H⟩:=H
        have A44:=Aside0.mk A440
        clear A440
        by_cases c45:t761=true
        ·subst c45
         have H1:(if ((rd_T41 t745 x62_2).f0)=5 then (florinlaw07_EvalOrders.l0 k2 t745 t749 y757 x16_2 ji21 (wrap64 (Int.tmod (IntKind.u64.wrap (a4)) (IntKind.u64.wrap (ji21)))) (t745.length:Int) (wrap64 (x62_2+1)) t741 t742 t743) else (if x16_2.length<2932031007402 then (florinlaw07_EvalOrders.l0 k2 t745 t749 y757 (x16_2++[(⟨(rd_T41 t745 x62_2).f0,(rd_T41 t745 x62_2).f1,(rd_T41 t745 x62_2).f2⟩:S41)]) ji21 (wrap64 (Int.tmod (IntKind.u64.wrap (a4)) (IntKind.u64.wrap (ji21)))) (t745.length:Int) (wrap64 (x62_2+1)) t741 t742 t743) else (none)))=some r:=by rw[if_pos rfl] at H;exact H
         clear H
         have H:=H1
         clear H1
         by_cases c46:((rd_T41 t745 x62_2).f0)=5
         ·rw[if_pos c46] at H
          have c46b0:(((rd_T41 t745 x62_2).f0)==5)=true:=beq_iff_eq.mpr c46
          have c46b1:(((rd_T41 t745 x62_2).f0) !=5)=false:=bne_eq_false_iff_eq.mpr c46
          clear c46
          have H':=Aside0.mk H
          clear H
          have p756:0≤((ji38):Int):=od_
          have q756:(ji38)<(t745.length:Int):=od_
          obtain⟨ad756,A756_1,c756_1,e756,hx756_0,hx756_1,hx756_2,hl756_1,hi756_1⟩:=at_T41 (Kd.N_reads' HO_12.out).2.2 (ji38) p756 q756
          cases e756
          obtain⟨ce756,hce756,hMe756,hcc756⟩:=Kd.N_get HO_12.out z41 (ji38) p756 (by first|exact q756|exact od_|(have e_:=(Kd.N_reads' HO_12.out).1;omega))
          obtain⟨ua756_1,uc756_1,rfl,ul756_1,ge756_1⟩:=k41_openF hMe756
          have hv756_1:=hcc756 1 _ rfl
          rw[add_field _ _ 1 (by omega)] at hv756_1
          replace hv756_1:=Option.some.inj (hv756_1.symm.trans hx756_1)
          injection hv756_1 with hva_ hvn_ hvc_
          rw[hva_] at ge756_1
          rw[hvc_] at ul756_1
          have HL756_1:=Aside0.mk (show Kd.V (Kd.slice 53 k53) 54 _ w.heap.size _ _ ((rd_T41 t745 (ji38)).f1) from Kd.V_mk ul756_1 ge756_1)
          clear hva_ hvn_ hvc_ ge756_1 ul756_1
          clear hcc756 hce756
          have HR756_1:=Aside0.mk hi756_1
          have HC756_1:=Aside0.mk hl756_1
          clear hi756_1 hl756_1
          replace p756:=eq_true p756
          replace q756:=eq_true q756
          try go_wp2_with (first|((with_reducible refine gate_builtin (b:= .append) (xs:= #[.tmp 65,.tmp 74]) rfl ?_);(try (refine gate_guard (by rfl) ?_;dsimp only));at_builtin;refine Kd.N_append k41 (w0:=w) w.heap.size rfl (.tmp 65) (.tmp 74) 33 41 (.agg #[(.int .i64 0),(.slice none 0 0),(.string ⟨#[]⟩)]) 48 rfl Tryz.underlying33 info41 rfl (by decide) (by omega) u15 x15_2 (⟨(rd_T41 t745 (ji38)).f0,(rd_T41 t745 (ji38)).f1,(rd_T41 t745 (ji38)).f2⟩:S41) [.int .i64 ((rd_T41 t745 (ji38)).f0),.slice A756_1 ((rd_T41 t745 (ji38)).f1).length c756_1,.string ((rd_T41 t745 (ji38)).f2)] (fun k_=>some k_≠(.slice (some ad756) t745.length co30:Value).ownBlock∧some k_≠(u16:Value).ownBlock∧k_≠gb744) (fun k_=>((fun k_=>some k_≠(.slice (some ad756) t745.length co30:Value).ownBlock∧some k_≠(u16:Value).ownBlock∧k_≠gb744)) k_∧some k_≠(u15:Value).ownBlock) rfl rfl ?aP (fun _ hk=>hk) ?aF ?aO ?aB ?aS ?aL ?_;(case aP=>exact(k41_mkF _ _ (⟨(rd_T41 t745 (ji38)).f0,(rd_T41 t745 (ji38)).f1,(rd_T41 t745 (ji38)).f2⟩:S41) (Kd.V_reads' (Kd.V_mono (ok':=(fun k_=>((fun k_=>some k_≠(.slice (some ad756) t745.length co30:Value).ownBlock∧some k_≠(u16:Value).ownBlock∧k_≠gb744)) k_∧some k_≠(u15:Value).ownBlock)) (HL756_1.out) (fun k_ hk=>⟨⟨hk.2,⟨hk.1.2.1,hk.1.2.2⟩⟩,hk.1.1⟩))).2.1 (Kd.V_F (Kd.V_mono (ok':=(fun k_=>((fun k_=>some k_≠(.slice (some ad756) t745.length co30:Value).ownBlock∧some k_≠(u16:Value).ownBlock∧k_≠gb744)) k_∧some k_≠(u15:Value).ownBlock)) (HL756_1.out) (fun k_ hk=>⟨⟨hk.2,⟨hk.1.2.1,hk.1.2.2⟩⟩,hk.1.1⟩)))));(case aB=>exact(bl_ HB).out);(case aF=>exact(fun k_ hk=>⟨Kd.fresh' (Kd.N_lt (krN_ HO_12)) k_ hk,Kd.fresh' (Kd.N_lt (krN_ HO_16)) k_ hk,Kd.freshB (bk_ BK744).out k_ hk⟩));(case aO=>exact(krN_ HO_15));(case aS=>exact(below_size (bl_ HB).out));(case aL=>have:=LMc41.out;omega);intro v758 w47 ho hb hg hat;rw[← Ny757.out] at ho;have n0_:=Aside0.mk (Kd.N_afterv (ok:=(fun k_=>some k_≠(u16:Value).ownBlock∧k_≠gb744)) (kdN_ (Kd.N_mono HO_12.out (fun _ hk=>⟨⟨hk.2.1,hk.2.2⟩,hk.1⟩))) hg hat);have n1_:=Aside0.mk (Kd.N_afterv (ok:=(fun k_=>some k_≠(.slice (some ad756) t745.length co30:Value).ownBlock∧k_≠gb744)) (kdN_ (Kd.N_mono HO_16.out (fun _ hk=>⟨⟨hk.1,hk.2.2⟩,hk.2.1⟩))) hg hat);have n2_:=Aside0.mk (blk_grown (bk_ BK744).out hg (Kd.N_ne HO_15.out BK744.out (by decide)));have n3_:=Aside0.mk (Kd.V_afterv (ok:=(fun k_=>some k_≠(.slice (some ad756) t745.length co30:Value).ownBlock∧some k_≠(u16:Value).ownBlock∧k_≠gb744)) (kdV_ (Kd.V_mono HL756_1.out (fun _ hk=>⟨⟨hk.2,⟨hk.1.2.1,hk.1.2.2⟩⟩,hk.1.1⟩))) hg hat);have n4_:=Aside0.mk (hb);have n5_:=Aside0.mk (ho);clear HO_12;clear HO_16;clear BK744;clear HL756_1;clear HB;clear HO_15;have HO_12:=n0_;have HO_16:=n1_;have BK744:=n2_;have HL756_1:=n3_;have HB:=n4_;have HO759:=n5_;clear n0_ n1_ n2_ n3_ n4_ n5_;clear ho hb hg hat))
          replace HO_12:=Aside0.mk (Kd.N_drew HO_12.out)
          replace HO_16:=Aside0.mk (Kd.N_drew HO_16.out)
          replace HL756_1:=Aside0.mk (Kd.V_drew HL756_1.out)
          replace HO759:=Aside0.mk (Kd.N_drew HO759.out)
          replace BK744:=Aside0.mk (blk_drew BK744.out)
          replace HB:=Aside0.mk (below_drew1 HB.out)
          have p760:0≤(x62_2:Int):=od_
          have q760:x62_2<(t745.length:Int):=od_
          obtain⟨ad760,A760_1,c760_1,e760,hx760_0,hx760_1,hx760_2,hl760_1,hi760_1⟩:=at_T41 (Kd.N_reads' HO_12.out).2.2 x62_2 p760 q760
          obtain rfl:ad756=ad760:=(by injection e760)
          obtain⟨ce760,hce760,hMe760,hcc760⟩:=Kd.N_get HO_12.out z41 x62_2 p760 (by first|exact q760|exact od_|(have e_:=(Kd.N_reads' HO_12.out).1;omega))
          obtain⟨ua760_1,uc760_1,rfl,ul760_1,ge760_1⟩:=k41_openF hMe760
          have hv760_1:=hcc760 1 _ rfl
          rw[add_field _ _ 1 (by omega)] at hv760_1
          replace hv760_1:=Option.some.inj (hv760_1.symm.trans hx760_1)
          injection hv760_1 with hva_ hvn_ hvc_
          rw[hva_] at ge760_1
          rw[hvc_] at ul760_1
          have HL760_1:=Aside0.mk (show Kd.V (Kd.slice 53 k53) 54 _ w.heap.size _ _ ((rd_T41 t745 x62_2).f1) from Kd.V_mk ul760_1 ge760_1)
          clear hva_ hvn_ hvc_ ge760_1 ul760_1
          clear hcc760 hce760
          have HR760_1:=Aside0.mk hi760_1
          have HC760_1:=Aside0.mk hl760_1
          clear hi760_1 hl760_1
          replace p760:=eq_true p760
          replace q760:=eq_true q760
          have p762:0≤(x62_2:Int):=od_
          have q762:x62_2<(t745.length:Int):=od_
          obtain⟨ad762,A762_1,c762_1,e762,hx762_0,hx762_1,hx762_2,hl762_1,hi762_1⟩:=at_T41 (Kd.N_reads' HO_12.out).2.2 x62_2 p762 q762
          obtain rfl:ad756=ad762:=(by injection e762)
          obtain⟨ce762,hce762,hMe762,hcc762⟩:=Kd.N_get HO_12.out z41 x62_2 p762 (by first|exact q762|exact od_|(have e_:=(Kd.N_reads' HO_12.out).1;omega))
          obtain⟨ua762_1,uc762_1,rfl,ul762_1,ge762_1⟩:=k41_openF hMe762
          have hv762_1:=hcc762 1 _ rfl
          rw[add_field _ _ 1 (by omega)] at hv762_1
          replace hv762_1:=Option.some.inj (hv762_1.symm.trans hx762_1)
          injection hv762_1 with hva_ hvn_ hvc_
          rw[hva_] at ge762_1
          rw[hvc_] at ul762_1
          have HL762_1:=Aside0.mk (show Kd.V (Kd.slice 53 k53) 54 _ w.heap.size _ _ ((rd_T41 t745 x62_2).f1) from Kd.V_mk ul762_1 ge762_1)
          clear hva_ hvn_ hvc_ ge762_1 ul762_1
          clear hcc762 hce762
          have HR762_1:=Aside0.mk hi762_1
          have HC762_1:=Aside0.mk hl762_1
          clear hi762_1 hl762_1
          replace p762:=eq_true p762
          replace q762:=eq_true q762
          have ea_:=Option.some.inj (hx760_1.symm.trans hx762_1)
          injection ea_ with ea_ en_ ec_
          subst ea_
          subst ec_
          clear en_
          refine start_ (n:=14) (S:=fun w'=>w'.cell? ⟨gb744,0,none⟩=some (.string t741)∧w'.cell? ⟨gb744,1,none⟩=some (.string t742)∧w'.cell? ⟨gb744,2,none⟩=some (.int .i64 t743)∧w'.cell? (ad756.add ((x62_2).toNat*3))=some (.int .i64 ((rd_T41 t745 x62_2).f0))∧w'.cell? ⟨(ad756.add ((x62_2).toNat*3)).block,(ad756.add ((x62_2).toNat*3)).off+1,none⟩=some (.slice A760_1 ((rd_T41 t745 x62_2).f1).length c760_1)∧w'.cell? ⟨(ad756.add ((x62_2).toNat*3)).block,(ad756.add ((x62_2).toNat*3)).off+2,none⟩=some (.string ((rd_T41 t745 x62_2).f2))∧w'.cell? (ad756.add ((x62_2).toNat*3))=some (.int .i64 ((rd_T41 t745 x62_2).f0))∧w'.cell? ⟨(ad756.add ((x62_2).toNat*3)).block,(ad756.add ((x62_2).toNat*3)).off+1,none⟩=some (.slice A760_1 ((rd_T41 t745 x62_2).f1).length c760_1)∧w'.cell? ⟨(ad756.add ((x62_2).toNat*3)).block,(ad756.add ((x62_2).toNat*3)).off+2,none⟩=some (.string ((rd_T41 t745 x62_2).f2))) (ds:=[]) #[false,false,false,false,false,false,false,false,false,false,false,false,false,false] (by kernel_rfl) rfl rfl ⟨bc_ BK744 0,bc_ BK744 1,bc_ BK744 2,hx760_0,hx760_1,hx760_2,hx762_0,hx762_1,hx762_2⟩ (fun hHeld=>?_);refine with_tabW florinlaw07_EvalOrders.tab16 florinlaw07_EvalOrders.bits16 (fun HT_ HW_=>?_)
          generalize w47.drew=w48 at HO_12 HO_16 HL756_1 HO759 BK744 HB HL760_1 HL762_1 HR760_1 HR762_1 hx760_0 hx760_1 hx760_2 hx762_0 hx762_1 hx762_2 hHeld ⊢
          refine pu_ 0 76 (bm_ 14 1) HT_ ?_
          refine pu_ 1 77 (bm_ 14 3) HT_ ?_
          refine pu_ 2 78 (bm_ 14 7) HT_ ?_
          refine tk_ 3 79 (bm_ 14 15) HT_ HW_ hHeld rfl (by rintro w' ⟨s0,s1,s2,s3,s4,s5,s6,s7,s8⟩;go_simp;with_reducible rfl) ?_
          refine tk_ 4 80 (bm_ 14 31) HT_ HW_ hHeld rfl (by rintro w' ⟨s0,s1,s2,s3,s4,s5,s6,s7,s8⟩;go_simp;with_reducible rfl) ?_
          refine one_ (i:=5) (N:=some 81) (bm_ 14 63) rfl rfl (one_of HT_.out (by kernel_rfl)) (by decide) (fun K hK=>?_)
          refine gs_ Tryz.func14 #[.agg #[.int .i64 ((rd_T41 t745 x62_2).f0),.slice A760_1 ((rd_T41 t745 x62_2).f1).length c760_1,.string ((rd_T41 t745 x62_2).f2)],.agg #[.string t741,.string t742,.int .i64 t743]] ?_
          with_reducible refine(eval_Meets.calls _ _ _ _ _ _ _ _ _ _ _ ?side1 ?side2 A44.out).mono ?_
          (case side1=>repeat(first|exact(by repeat(first|(with_reducible exact HR760_1.out)|(with_reducible refine Kd.C_alloc ?_ _)|(with_reducible refine Kd.C_drewN ?_ _)|(with_reducible refine Kd.C_drew ?_)|exact HR760_1.out))|(with_reducible refine Kd.C_alloc ?_ _)|(with_reducible refine Kd.C_drewN ?_ _)|(with_reducible refine Kd.C_drew ?_)))
          (case side2=>exact HC760_1.out)
          rintro e w49 ⟨rfl,hb⟩
          have HS3_:=(hb.cell (World.block_lt_of_cell? _ _ (hHeld.2.2.2.1))).trans (hHeld.2.2.2.1)
          have HS4_:=(hb.cell (World.block_lt_of_cell? _ _ (hHeld.2.2.2.2.1))).trans (hHeld.2.2.2.2.1)
          have HS5_:=(hb.cell (World.block_lt_of_cell? _ _ (hHeld.2.2.2.2.2.1))).trans (hHeld.2.2.2.2.2.1)
          have HS6_:=(hb.cell (World.block_lt_of_cell? _ _ (hHeld.2.2.2.2.2.2.1))).trans (hHeld.2.2.2.2.2.2.1)
          have HS7_:=(hb.cell (World.block_lt_of_cell? _ _ (hHeld.2.2.2.2.2.2.2.1))).trans (hHeld.2.2.2.2.2.2.2.1)
          have HS8_:=(hb.cell (World.block_lt_of_cell? _ _ (hHeld.2.2.2.2.2.2.2.2))).trans (hHeld.2.2.2.2.2.2.2.2)
          refine⟨_,rfl,?_⟩
          replace HO_12:=Aside0.mk (Kd.N_below (krN_ HO_12) hb)
          replace HO_16:=Aside0.mk (Kd.N_below (krN_ HO_16) hb)
          replace HL756_1:=Aside0.mk (Kd.V_below (krV_ HL756_1) hb)
          replace HO759:=Aside0.mk (Kd.N_below (krN_ HO759) hb)
          replace HL760_1:=Aside0.mk (Kd.V_below (krV_ HL760_1) hb)
          replace BK744:=bb_ BK744 hb
          replace HR760_1:=Aside0.mk (Kd.C_below (by repeat(first|(with_reducible exact HR760_1.out)|(with_reducible refine Kd.C_alloc ?_ _)|(with_reducible refine Kd.C_drewN ?_ _)|(with_reducible refine Kd.C_drew ?_)|exact HR760_1.out)) hb)
          (try replace HL762_1:=Aside0.mk (Kd.V_below (krV_ HL762_1) hb))
          (try replace HR756_1:=Aside0.mk (Kd.C_below (by repeat(first|(with_reducible exact HR756_1.out)|(with_reducible refine Kd.C_alloc ?_ _)|(with_reducible refine Kd.C_drewN ?_ _)|(with_reducible refine Kd.C_drew ?_)|exact HR756_1.out)) hb))
          (try replace HR762_1:=Aside0.mk (Kd.C_below (by repeat(first|(with_reducible exact HR762_1.out)|(with_reducible refine Kd.C_alloc ?_ _)|(with_reducible refine Kd.C_drewN ?_ _)|(with_reducible refine Kd.C_drew ?_)|exact HR762_1.out)) hb))
          (try replace hx760_1:=(hb.cell (World.block_lt_of_cell? _ _ hx760_1)).trans hx760_1)
          replace HB:=Aside0.mk (below_step (bl_ HB).out hb)
          (try clear hb)
          (try clear hb2)
          (try clear hk)
          (try clear hi)
          refine hK.out _ _ ⟨bc_ BK744 0,bc_ BK744 1,bc_ BK744 2,HS3_,HS4_,HS5_,HS6_,HS7_,HS8_⟩ (fun hHeld=>?_)
          clear hK K
          refine nm_ 81 ?_
          refine pu_ 6 82 (bm_ 14 127) HT_ ?_
          refine pu_ 7 83 (bm_ 14 255) HT_ ?_
          refine pu_ 8 84 (bm_ 14 511) HT_ ?_
          refine pu_ 9 85 (bm_ 14 1023) HT_ ?_
          refine pu_ 10 86 (bm_ 14 2047) HT_ ?_
          refine tk_ 11 87 (bm_ 14 4095) HT_ HW_ hHeld rfl (by rintro w' ⟨s0,s1,s2,s3,s4,s5,s6,s7,s8⟩;go_simp;with_reducible rfl) ?_
          refine pu_ 12 88 (bm_ 14 8191) HT_ ?_
          refine pu_ 13 89 (bm_ 14 16383) HT_ ?_
          refine done_ (done_of HT_.out (by kernel_rfl)) ?_
          try go_wp2
          go_roundg k2
          case measure=>have:=HJ7.out;have:=HK2.out;omega
          case rel=>exact⟨(y757),(x16_2),(wrap64 (x62_2+1)),eq_,H',⟨by have:=HJ7.out;have:=HK2.out;omega⟩,⟨kdN_ (Kd.N_mono HO_12.out (fun _ hk=>⟨hk.2,⟨hk.1.1,hk.1.2⟩⟩))⟩,⟨kdN_ HO759.out⟩,⟨kdN_ (Kd.N_mono HO_16.out (fun _ hk=>⟨hk.1.1,⟨hk.2,hk.1.2⟩⟩))⟩,(bk_ BK744),(bl_ HB)⟩
         ·rw[if_neg c46] at H
          have c46b0:(((rd_T41 t745 x62_2).f0)==5)=false:=beq_eq_false_iff_ne.mpr c46
          have c46b1:(((rd_T41 t745 x62_2).f0) !=5)=true:=bne_iff_ne.mpr c46
          replace H:=ifn_ H
          obtain⟨c50,H⟩:=H
          have LMc50:=Aside0.mk c50
          clear c50
          obtain⟨y764,hy764⟩:∃y_:List (S41),y_=(x16_2++[(⟨(rd_T41 t745 x62_2).f0,(rd_T41 t745 x62_2).f1,(rd_T41 t745 x62_2).f2⟩:S41)]):=⟨_,rfl⟩
          replace H:(florinlaw07_EvalOrders.l0 k2 t745 t749 y757 y764 ji21 (wrap64 (Int.tmod (IntKind.u64.wrap (a4)) (IntKind.u64.wrap (ji21)))) (t745.length:Int) (wrap64 (x62_2+1)) t741 t742 t743)=some r:=by first|(rw[hy764];with_reducible exact H)|(have H2_:=(Option.bind_some _ _).symm.trans H;rw[hy764];with_reducible exact H2_)|(have H2_:=(Option.bind_some _ _).symm.trans H;with_reducible exact H2_)|with_reducible exact H|(rw[hy764];exact H)|exact H
          have Ny764:=Aside0.mk hy764
          clear hy764
          have H':=Aside0.mk H
          clear H
          have p756:0≤((ji38):Int):=od_
          have q756:(ji38)<(t745.length:Int):=od_
          obtain⟨ad756,A756_1,c756_1,e756,hx756_0,hx756_1,hx756_2,hl756_1,hi756_1⟩:=at_T41 (Kd.N_reads' HO_12.out).2.2 (ji38) p756 q756
          cases e756
          obtain⟨ce756,hce756,hMe756,hcc756⟩:=Kd.N_get HO_12.out z41 (ji38) p756 (by first|exact q756|exact od_|(have e_:=(Kd.N_reads' HO_12.out).1;omega))
          obtain⟨ua756_1,uc756_1,rfl,ul756_1,ge756_1⟩:=k41_openF hMe756
          have hv756_1:=hcc756 1 _ rfl
          rw[add_field _ _ 1 (by omega)] at hv756_1
          replace hv756_1:=Option.some.inj (hv756_1.symm.trans hx756_1)
          injection hv756_1 with hva_ hvn_ hvc_
          rw[hva_] at ge756_1
          rw[hvc_] at ul756_1
          have HL756_1:=Aside0.mk (show Kd.V (Kd.slice 53 k53) 54 _ w.heap.size _ _ ((rd_T41 t745 (ji38)).f1) from Kd.V_mk ul756_1 ge756_1)
          clear hva_ hvn_ hvc_ ge756_1 ul756_1
          clear hcc756 hce756
          have HR756_1:=Aside0.mk hi756_1
          have HC756_1:=Aside0.mk hl756_1
          clear hi756_1 hl756_1
          replace p756:=eq_true p756
          replace q756:=eq_true q756
          try go_wp2_with (first|((with_reducible refine gate_builtin (b:= .append) (xs:= #[.tmp 65,.tmp 74]) rfl ?_);(try (refine gate_guard (by rfl) ?_;dsimp only));at_builtin;refine Kd.N_append k41 (w0:=w) w.heap.size rfl (.tmp 65) (.tmp 74) 33 41 (.agg #[(.int .i64 0),(.slice none 0 0),(.string ⟨#[]⟩)]) 48 rfl Tryz.underlying33 info41 rfl (by decide) (by omega) u15 x15_2 (⟨(rd_T41 t745 (ji38)).f0,(rd_T41 t745 (ji38)).f1,(rd_T41 t745 (ji38)).f2⟩:S41) [.int .i64 ((rd_T41 t745 (ji38)).f0),.slice A756_1 ((rd_T41 t745 (ji38)).f1).length c756_1,.string ((rd_T41 t745 (ji38)).f2)] (fun k_=>some k_≠(.slice (some ad756) t745.length co30:Value).ownBlock∧some k_≠(u16:Value).ownBlock∧k_≠gb744) (fun k_=>((fun k_=>some k_≠(.slice (some ad756) t745.length co30:Value).ownBlock∧some k_≠(u16:Value).ownBlock∧k_≠gb744)) k_∧some k_≠(u15:Value).ownBlock) rfl rfl ?aP (fun _ hk=>hk) ?aF ?aO ?aB ?aS ?aL ?_;(case aP=>exact(k41_mkF _ _ (⟨(rd_T41 t745 (ji38)).f0,(rd_T41 t745 (ji38)).f1,(rd_T41 t745 (ji38)).f2⟩:S41) (Kd.V_reads' (Kd.V_mono (ok':=(fun k_=>((fun k_=>some k_≠(.slice (some ad756) t745.length co30:Value).ownBlock∧some k_≠(u16:Value).ownBlock∧k_≠gb744)) k_∧some k_≠(u15:Value).ownBlock)) (HL756_1.out) (fun k_ hk=>⟨⟨hk.2,⟨hk.1.2.1,hk.1.2.2⟩⟩,hk.1.1⟩))).2.1 (Kd.V_F (Kd.V_mono (ok':=(fun k_=>((fun k_=>some k_≠(.slice (some ad756) t745.length co30:Value).ownBlock∧some k_≠(u16:Value).ownBlock∧k_≠gb744)) k_∧some k_≠(u15:Value).ownBlock)) (HL756_1.out) (fun k_ hk=>⟨⟨hk.2,⟨hk.1.2.1,hk.1.2.2⟩⟩,hk.1.1⟩)))));(case aB=>exact(bl_ HB).out);(case aF=>exact(fun k_ hk=>⟨Kd.fresh' (Kd.N_lt (krN_ HO_12)) k_ hk,Kd.fresh' (Kd.N_lt (krN_ HO_16)) k_ hk,Kd.freshB (bk_ BK744).out k_ hk⟩));(case aO=>exact(krN_ HO_15));(case aS=>exact(below_size (bl_ HB).out));(case aL=>have:=LMc41.out;omega);intro v758 w51 ho hb hg hat;rw[← Ny757.out] at ho;have n0_:=Aside0.mk (Kd.N_afterv (ok:=(fun k_=>some k_≠(u16:Value).ownBlock∧k_≠gb744)) (kdN_ (Kd.N_mono HO_12.out (fun _ hk=>⟨⟨hk.2.1,hk.2.2⟩,hk.1⟩))) hg hat);have n1_:=Aside0.mk (Kd.N_afterv (ok:=(fun k_=>some k_≠(.slice (some ad756) t745.length co30:Value).ownBlock∧k_≠gb744)) (kdN_ (Kd.N_mono HO_16.out (fun _ hk=>⟨⟨hk.1,hk.2.2⟩,hk.2.1⟩))) hg hat);have n2_:=Aside0.mk (blk_grown (bk_ BK744).out hg (Kd.N_ne HO_15.out BK744.out (by decide)));have n3_:=Aside0.mk (Kd.V_afterv (ok:=(fun k_=>some k_≠(.slice (some ad756) t745.length co30:Value).ownBlock∧some k_≠(u16:Value).ownBlock∧k_≠gb744)) (kdV_ (Kd.V_mono HL756_1.out (fun _ hk=>⟨⟨hk.2,⟨hk.1.2.1,hk.1.2.2⟩⟩,hk.1.1⟩))) hg hat);have n4_:=Aside0.mk (hb);have n5_:=Aside0.mk (ho);clear HO_12;clear HO_16;clear BK744;clear HL756_1;clear HB;clear HO_15;have HO_12:=n0_;have HO_16:=n1_;have BK744:=n2_;have HL756_1:=n3_;have HB:=n4_;have HO759:=n5_;clear n0_ n1_ n2_ n3_ n4_ n5_;clear ho hb hg hat))
          replace HO_12:=Aside0.mk (Kd.N_drew HO_12.out)
          replace HO_16:=Aside0.mk (Kd.N_drew HO_16.out)
          replace HL756_1:=Aside0.mk (Kd.V_drew HL756_1.out)
          replace HO759:=Aside0.mk (Kd.N_drew HO759.out)
          replace BK744:=Aside0.mk (blk_drew BK744.out)
          replace HB:=Aside0.mk (below_drew1 HB.out)
          have p760:0≤(x62_2:Int):=od_
          have q760:x62_2<(t745.length:Int):=od_
          obtain⟨ad760,A760_1,c760_1,e760,hx760_0,hx760_1,hx760_2,hl760_1,hi760_1⟩:=at_T41 (Kd.N_reads' HO_12.out).2.2 x62_2 p760 q760
          obtain rfl:ad756=ad760:=(by injection e760)
          obtain⟨ce760,hce760,hMe760,hcc760⟩:=Kd.N_get HO_12.out z41 x62_2 p760 (by first|exact q760|exact od_|(have e_:=(Kd.N_reads' HO_12.out).1;omega))
          obtain⟨ua760_1,uc760_1,rfl,ul760_1,ge760_1⟩:=k41_openF hMe760
          have hv760_1:=hcc760 1 _ rfl
          rw[add_field _ _ 1 (by omega)] at hv760_1
          replace hv760_1:=Option.some.inj (hv760_1.symm.trans hx760_1)
          injection hv760_1 with hva_ hvn_ hvc_
          rw[hva_] at ge760_1
          rw[hvc_] at ul760_1
          have HL760_1:=Aside0.mk (show Kd.V (Kd.slice 53 k53) 54 _ w.heap.size _ _ ((rd_T41 t745 x62_2).f1) from Kd.V_mk ul760_1 ge760_1)
          clear hva_ hvn_ hvc_ ge760_1 ul760_1
          clear hcc760 hce760
          have HR760_1:=Aside0.mk hi760_1
          have HC760_1:=Aside0.mk hl760_1
          clear hi760_1 hl760_1
          replace p760:=eq_true p760
          replace q760:=eq_true q760
          have p762:0≤(x62_2:Int):=od_
          have q762:x62_2<(t745.length:Int):=od_
          obtain⟨ad762,A762_1,c762_1,e762,hx762_0,hx762_1,hx762_2,hl762_1,hi762_1⟩:=at_T41 (Kd.N_reads' HO_12.out).2.2 x62_2 p762 q762
          obtain rfl:ad756=ad762:=(by injection e762)
          obtain⟨ce762,hce762,hMe762,hcc762⟩:=Kd.N_get HO_12.out z41 x62_2 p762 (by first|exact q762|exact od_|(have e_:=(Kd.N_reads' HO_12.out).1;omega))
          obtain⟨ua762_1,uc762_1,rfl,ul762_1,ge762_1⟩:=k41_openF hMe762
          have hv762_1:=hcc762 1 _ rfl
          rw[add_field _ _ 1 (by omega)] at hv762_1
          replace hv762_1:=Option.some.inj (hv762_1.symm.trans hx762_1)
          injection hv762_1 with hva_ hvn_ hvc_
          rw[hva_] at ge762_1
          rw[hvc_] at ul762_1
          have HL762_1:=Aside0.mk (show Kd.V (Kd.slice 53 k53) 54 _ w.heap.size _ _ ((rd_T41 t745 x62_2).f1) from Kd.V_mk ul762_1 ge762_1)
          clear hva_ hvn_ hvc_ ge762_1 ul762_1
          clear hcc762 hce762
          have HR762_1:=Aside0.mk hi762_1
          have HC762_1:=Aside0.mk hl762_1
          clear hi762_1 hl762_1
          replace p762:=eq_true p762
          replace q762:=eq_true q762
          have ea_:=Option.some.inj (hx760_1.symm.trans hx762_1)
          injection ea_ with ea_ en_ ec_
          subst ea_
          subst ec_
          clear en_
          refine start_ (n:=14) (S:=fun w'=>w'.cell? ⟨gb744,0,none⟩=some (.string t741)∧w'.cell? ⟨gb744,1,none⟩=some (.string t742)∧w'.cell? ⟨gb744,2,none⟩=some (.int .i64 t743)∧w'.cell? (ad756.add ((x62_2).toNat*3))=some (.int .i64 ((rd_T41 t745 x62_2).f0))∧w'.cell? ⟨(ad756.add ((x62_2).toNat*3)).block,(ad756.add ((x62_2).toNat*3)).off+1,none⟩=some (.slice A760_1 ((rd_T41 t745 x62_2).f1).length c760_1)∧w'.cell? ⟨(ad756.add ((x62_2).toNat*3)).block,(ad756.add ((x62_2).toNat*3)).off+2,none⟩=some (.string ((rd_T41 t745 x62_2).f2))∧w'.cell? (ad756.add ((x62_2).toNat*3))=some (.int .i64 ((rd_T41 t745 x62_2).f0))∧w'.cell? ⟨(ad756.add ((x62_2).toNat*3)).block,(ad756.add ((x62_2).toNat*3)).off+1,none⟩=some (.slice A760_1 ((rd_T41 t745 x62_2).f1).length c760_1)∧w'.cell? ⟨(ad756.add ((x62_2).toNat*3)).block,(ad756.add ((x62_2).toNat*3)).off+2,none⟩=some (.string ((rd_T41 t745 x62_2).f2))) (ds:=[]) #[false,false,false,false,false,false,false,false,false,false,false,false,false,false] (by kernel_rfl) rfl rfl ⟨bc_ BK744 0,bc_ BK744 1,bc_ BK744 2,hx760_0,hx760_1,hx760_2,hx762_0,hx762_1,hx762_2⟩ (fun hHeld=>?_);refine with_tabW florinlaw07_EvalOrders.tab16 florinlaw07_EvalOrders.bits16 (fun HT_ HW_=>?_)
          generalize w51.drew=w52 at HO_12 HO_16 HL756_1 HO759 BK744 HB HL760_1 HL762_1 HR760_1 HR762_1 hx760_0 hx760_1 hx760_2 hx762_0 hx762_1 hx762_2 hHeld ⊢
          refine pu_ 0 76 (bm_ 14 1) HT_ ?_
          refine pu_ 1 77 (bm_ 14 3) HT_ ?_
          refine pu_ 2 78 (bm_ 14 7) HT_ ?_
          refine tk_ 3 79 (bm_ 14 15) HT_ HW_ hHeld rfl (by rintro w' ⟨s0,s1,s2,s3,s4,s5,s6,s7,s8⟩;go_simp;with_reducible rfl) ?_
          refine tk_ 4 80 (bm_ 14 31) HT_ HW_ hHeld rfl (by rintro w' ⟨s0,s1,s2,s3,s4,s5,s6,s7,s8⟩;go_simp;with_reducible rfl) ?_
          refine one_ (i:=5) (N:=some 81) (bm_ 14 63) rfl rfl (one_of HT_.out (by kernel_rfl)) (by decide) (fun K hK=>?_)
          refine gs_ Tryz.func14 #[.agg #[.int .i64 ((rd_T41 t745 x62_2).f0),.slice A760_1 ((rd_T41 t745 x62_2).f1).length c760_1,.string ((rd_T41 t745 x62_2).f2)],.agg #[.string t741,.string t742,.int .i64 t743]] ?_
          with_reducible refine(eval_Meets.calls _ _ _ _ _ _ _ _ _ _ _ ?side1 ?side2 A44.out).mono ?_
          (case side1=>repeat(first|exact(by repeat(first|(with_reducible exact HR760_1.out)|(with_reducible refine Kd.C_alloc ?_ _)|(with_reducible refine Kd.C_drewN ?_ _)|(with_reducible refine Kd.C_drew ?_)|exact HR760_1.out))|(with_reducible refine Kd.C_alloc ?_ _)|(with_reducible refine Kd.C_drewN ?_ _)|(with_reducible refine Kd.C_drew ?_)))
          (case side2=>exact HC760_1.out)
          rintro e w53 ⟨rfl,hb⟩
          have HS3_:=(hb.cell (World.block_lt_of_cell? _ _ (hHeld.2.2.2.1))).trans (hHeld.2.2.2.1)
          have HS4_:=(hb.cell (World.block_lt_of_cell? _ _ (hHeld.2.2.2.2.1))).trans (hHeld.2.2.2.2.1)
          have HS5_:=(hb.cell (World.block_lt_of_cell? _ _ (hHeld.2.2.2.2.2.1))).trans (hHeld.2.2.2.2.2.1)
          have HS6_:=(hb.cell (World.block_lt_of_cell? _ _ (hHeld.2.2.2.2.2.2.1))).trans (hHeld.2.2.2.2.2.2.1)
          have HS7_:=(hb.cell (World.block_lt_of_cell? _ _ (hHeld.2.2.2.2.2.2.2.1))).trans (hHeld.2.2.2.2.2.2.2.1)
          have HS8_:=(hb.cell (World.block_lt_of_cell? _ _ (hHeld.2.2.2.2.2.2.2.2))).trans (hHeld.2.2.2.2.2.2.2.2)
          refine⟨_,rfl,?_⟩
          replace HO_12:=Aside0.mk (Kd.N_below (krN_ HO_12) hb)
          replace HO_16:=Aside0.mk (Kd.N_below (krN_ HO_16) hb)
          replace HL756_1:=Aside0.mk (Kd.V_below (krV_ HL756_1) hb)
          replace HO759:=Aside0.mk (Kd.N_below (krN_ HO759) hb)
          replace HL760_1:=Aside0.mk (Kd.V_below (krV_ HL760_1) hb)
          replace BK744:=bb_ BK744 hb
          replace HR760_1:=Aside0.mk (Kd.C_below (by repeat(first|(with_reducible exact HR760_1.out)|(with_reducible refine Kd.C_alloc ?_ _)|(with_reducible refine Kd.C_drewN ?_ _)|(with_reducible refine Kd.C_drew ?_)|exact HR760_1.out)) hb)
          (try replace HL762_1:=Aside0.mk (Kd.V_below (krV_ HL762_1) hb))
          (try replace HR756_1:=Aside0.mk (Kd.C_below (by repeat(first|(with_reducible exact HR756_1.out)|(with_reducible refine Kd.C_alloc ?_ _)|(with_reducible refine Kd.C_drewN ?_ _)|(with_reducible refine Kd.C_drew ?_)|exact HR756_1.out)) hb))
          (try replace hx760_1:=(hb.cell (World.block_lt_of_cell? _ _ hx760_1)).trans hx760_1)
          replace HB:=Aside0.mk (below_step (bl_ HB).out hb)
          (try clear hb)
          (try clear hb2)
          (try clear hk)
          (try clear hi)
          refine hK.out _ _ ⟨bc_ BK744 0,bc_ BK744 1,bc_ BK744 2,HS3_,HS4_,HS5_,HS6_,HS7_,HS8_⟩ (fun hHeld=>?_)
          clear hK K
          refine nm_ 81 ?_
          refine pu_ 6 82 (bm_ 14 127) HT_ ?_
          refine pu_ 7 83 (bm_ 14 255) HT_ ?_
          refine pu_ 8 84 (bm_ 14 511) HT_ ?_
          refine pu_ 9 85 (bm_ 14 1023) HT_ ?_
          refine pu_ 10 86 (bm_ 14 2047) HT_ ?_
          refine tk_ 11 87 (bm_ 14 4095) HT_ HW_ hHeld rfl (by rintro w' ⟨s0,s1,s2,s3,s4,s5,s6,s7,s8⟩;go_simp;with_reducible rfl) ?_
          refine pu_ 12 88 (bm_ 14 8191) HT_ ?_
          refine pu_ 13 89 (bm_ 14 16383) HT_ ?_
          refine done_ (done_of HT_.out (by kernel_rfl)) ?_
          have p763:0≤(x62_2:Int):=od_
          have q763:x62_2<(t745.length:Int):=od_
          obtain⟨ad763,A763_1,c763_1,e763,hx763_0,hx763_1,hx763_2,hl763_1,hi763_1⟩:=at_T41 (Kd.N_reads' HO_12.out).2.2 x62_2 p763 q763
          obtain rfl:ad756=ad763:=(by injection e763)
          obtain⟨ce763,hce763,hMe763,hcc763⟩:=Kd.N_get HO_12.out z41 x62_2 p763 (by first|exact q763|exact od_|(have e_:=(Kd.N_reads' HO_12.out).1;omega))
          obtain⟨ua763_1,uc763_1,rfl,ul763_1,ge763_1⟩:=k41_openF hMe763
          have hv763_1:=hcc763 1 _ rfl
          rw[add_field _ _ 1 (by omega)] at hv763_1
          replace hv763_1:=Option.some.inj (hv763_1.symm.trans hx763_1)
          injection hv763_1 with hva_ hvn_ hvc_
          rw[hva_] at ge763_1
          rw[hvc_] at ul763_1
          have HL763_1:=Aside0.mk (show Kd.V (Kd.slice 53 k53) 54 _ w.heap.size _ _ ((rd_T41 t745 x62_2).f1) from Kd.V_mk ul763_1 ge763_1)
          clear hva_ hvn_ hvc_ ge763_1 ul763_1
          clear hcc763 hce763
          have HR763_1:=Aside0.mk hi763_1
          have HC763_1:=Aside0.mk hl763_1
          clear hi763_1 hl763_1
          replace p763:=eq_true p763
          replace q763:=eq_true q763
          have ea_:=Option.some.inj (hx760_1.symm.trans hx763_1)
          injection ea_ with ea_ en_ ec_
          subst ea_
          subst ec_
          clear en_
          try go_wp2_with (first|((with_reducible refine gate_builtin (b:= .append) (xs:= #[.tmp 90,.tmp 95]) rfl ?_);(try (refine gate_guard (by rfl) ?_;dsimp only));at_builtin;refine Kd.N_append k41 (w0:=w) w.heap.size rfl (.tmp 90) (.tmp 95) 33 41 (.agg #[(.int .i64 0),(.slice none 0 0),(.string ⟨#[]⟩)]) 48 rfl Tryz.underlying33 info41 rfl (by decide) (by omega) u16 x16_2 (⟨(rd_T41 t745 x62_2).f0,(rd_T41 t745 x62_2).f1,(rd_T41 t745 x62_2).f2⟩:S41) [.int .i64 ((rd_T41 t745 x62_2).f0),.slice A760_1 ((rd_T41 t745 x62_2).f1).length c760_1,.string ((rd_T41 t745 x62_2).f2)] (fun k_=>some k_≠(.slice (some ad756) t745.length co30:Value).ownBlock∧some k_≠(v758:Value).ownBlock∧k_≠gb744) (fun k_=>((fun k_=>some k_≠(.slice (some ad756) t745.length co30:Value).ownBlock∧some k_≠(v758:Value).ownBlock∧k_≠gb744)) k_∧some k_≠(u16:Value).ownBlock) rfl rfl ?aP (fun _ hk=>hk) ?aF ?aO ?aB ?aS ?aL ?_;(case aP=>exact(k41_mkF _ _ (⟨(rd_T41 t745 x62_2).f0,(rd_T41 t745 x62_2).f1,(rd_T41 t745 x62_2).f2⟩:S41) (Kd.V_reads' (Kd.V_mono (ok':=(fun k_=>((fun k_=>some k_≠(.slice (some ad756) t745.length co30:Value).ownBlock∧some k_≠(v758:Value).ownBlock∧k_≠gb744)) k_∧some k_≠(u16:Value).ownBlock)) (HL763_1.out) (fun k_ hk=>⟨⟨hk.2,⟨hk.1.2,hk.1.1.2⟩⟩,hk.1.1.1⟩))).2.1 (Kd.V_F (Kd.V_mono (ok':=(fun k_=>((fun k_=>some k_≠(.slice (some ad756) t745.length co30:Value).ownBlock∧some k_≠(v758:Value).ownBlock∧k_≠gb744)) k_∧some k_≠(u16:Value).ownBlock)) (HL763_1.out) (fun k_ hk=>⟨⟨hk.2,⟨hk.1.2,hk.1.1.2⟩⟩,hk.1.1.1⟩)))));(case aB=>exact(bl_ HB).out);(case aF=>exact(fun k_ hk=>⟨Kd.fresh' (Kd.N_lt (krN_ HO_12)) k_ hk,Kd.fresh' (Kd.N_lt (krN_ HO759)) k_ hk,Kd.freshB (bk_ BK744).out k_ hk⟩));(case aO=>exact(kdN_ (Kd.N_mono HO_16.out (fun _ hk=>⟨hk.1.1,⟨hk.2,hk.1.2⟩⟩))));(case aS=>exact(below_size (bl_ HB).out));(case aL=>have:=LMc50.out;omega);intro v765 w54 ho hb hg hat;rw[← Ny764.out] at ho;have n0_:=Aside0.mk (Kd.N_afterv (ok:=(fun k_=>some k_≠(v758:Value).ownBlock∧k_≠gb744)) (kdN_ (Kd.N_mono HO_12.out (fun _ hk=>⟨⟨hk.2,hk.1.2⟩,hk.1.1⟩))) hg hat);have n1_:=Aside0.mk (blk_grown (bk_ BK744).out hg (Kd.N_ne HO_16.out BK744.out (by decide)));have n2_:=Aside0.mk (Kd.V_afterv (ok:=(fun k_=>some k_≠(.slice (some ad756) t745.length co30:Value).ownBlock∧some k_≠(v758:Value).ownBlock∧k_≠gb744)) (kdV_ (Kd.V_mono HL756_1.out (fun _ hk=>⟨⟨hk.1.1,⟨hk.2,hk.1.2.2⟩⟩,hk.1.2.1⟩))) hg hat);have n3_:=Aside0.mk (Kd.N_afterv (ok:=(fun k_=>some k_≠(.slice (some ad756) t745.length co30:Value).ownBlock∧k_≠gb744)) (kdN_ (Kd.N_mono HO759.out (fun _ hk=>⟨⟨hk.1,hk.2.2⟩,hk.2.1⟩))) hg hat);have n4_:=Aside0.mk (Kd.V_afterv (ok:=(fun k_=>some k_≠(.slice (some ad756) t745.length co30:Value).ownBlock∧some k_≠(v758:Value).ownBlock∧k_≠gb744)) (kdV_ (Kd.V_mono HL760_1.out (fun _ hk=>⟨⟨hk.2,⟨hk.1.2,hk.1.1.2⟩⟩,hk.1.1.1⟩))) hg hat);have n5_:=Aside0.mk (Kd.V_afterv (ok:=(fun k_=>some k_≠(.slice (some ad756) t745.length co30:Value).ownBlock∧some k_≠(v758:Value).ownBlock∧k_≠gb744)) (kdV_ (Kd.V_mono HL762_1.out (fun _ hk=>⟨⟨hk.2,⟨hk.1.2,hk.1.1.2⟩⟩,hk.1.1.1⟩))) hg hat);have n6_:=Aside0.mk (Kd.V_afterv (ok:=(fun k_=>some k_≠(.slice (some ad756) t745.length co30:Value).ownBlock∧some k_≠(v758:Value).ownBlock∧k_≠gb744)) (kdV_ (Kd.V_mono HL763_1.out (fun _ hk=>⟨⟨hk.2,⟨hk.1.2,hk.1.1.2⟩⟩,hk.1.1.1⟩))) hg hat);have n7_:=Aside0.mk (hb);have n8_:=Aside0.mk (ho);clear HO_12;clear BK744;clear HL756_1;clear HO759;clear HL760_1;clear HL762_1;clear HL763_1;clear HB;clear HO_16;have HO_12:=n0_;have BK744:=n1_;have HL756_1:=n2_;have HO759:=n3_;have HL760_1:=n4_;have HL762_1:=n5_;have HL763_1:=n6_;have HB:=n7_;have HO766:=n8_;clear n0_ n1_ n2_ n3_ n4_ n5_ n6_ n7_ n8_;clear ho hb hg hat))
          go_roundg k2
          case measure=>have:=HJ7.out;have:=HK2.out;omega
          case rel=>exact⟨(y757),(y764),(wrap64 (x62_2+1)),eq_,H',⟨by have:=HJ7.out;have:=HK2.out;omega⟩,⟨kdN_ (Kd.N_mono HO_12.out (fun _ hk=>⟨hk.1.1,⟨hk.2,hk.1.2⟩⟩))⟩,⟨kdN_ (Kd.N_mono HO759.out (fun _ hk=>⟨hk.1.1,⟨hk.2,hk.1.2⟩⟩))⟩,⟨kdN_ HO766.out⟩,(bk_ BK744),(bl_ HB)⟩
        ·replace c45:=Bool.eq_false_iff.mpr c45
         subst c45
         have H1:(florinlaw07_EvalOrders.l0 k2 t745 t749 y757 x16_2 ji21 (wrap64 (Int.tmod (IntKind.u64.wrap (a4)) (IntKind.u64.wrap (ji21)))) (t745.length:Int) (wrap64 (x62_2+1)) t741 t742 t743)=some r:=by rw[if_neg (show ¬(false=true) by decide)] at H;exact H
         clear H
         have H:=H1
         clear H1
         have H':=Aside0.mk H
         clear H
         have p756:0≤((ji38):Int):=od_
         have q756:(ji38)<(t745.length:Int):=od_
         obtain⟨ad756,A756_1,c756_1,e756,hx756_0,hx756_1,hx756_2,hl756_1,hi756_1⟩:=at_T41 (Kd.N_reads' HO_12.out).2.2 (ji38) p756 q756
         cases e756
         obtain⟨ce756,hce756,hMe756,hcc756⟩:=Kd.N_get HO_12.out z41 (ji38) p756 (by first|exact q756|exact od_|(have e_:=(Kd.N_reads' HO_12.out).1;omega))
         obtain⟨ua756_1,uc756_1,rfl,ul756_1,ge756_1⟩:=k41_openF hMe756
         have hv756_1:=hcc756 1 _ rfl
         rw[add_field _ _ 1 (by omega)] at hv756_1
         replace hv756_1:=Option.some.inj (hv756_1.symm.trans hx756_1)
         injection hv756_1 with hva_ hvn_ hvc_
         rw[hva_] at ge756_1
         rw[hvc_] at ul756_1
         have HL756_1:=Aside0.mk (show Kd.V (Kd.slice 53 k53) 54 _ w.heap.size _ _ ((rd_T41 t745 (ji38)).f1) from Kd.V_mk ul756_1 ge756_1)
         clear hva_ hvn_ hvc_ ge756_1 ul756_1
         clear hcc756 hce756
         have HR756_1:=Aside0.mk hi756_1
         have HC756_1:=Aside0.mk hl756_1
         clear hi756_1 hl756_1
         replace p756:=eq_true p756
         replace q756:=eq_true q756
         try go_wp2_with (first|((with_reducible refine gate_builtin (b:= .append) (xs:= #[.tmp 65,.tmp 74]) rfl ?_);(try (refine gate_guard (by rfl) ?_;dsimp only));at_builtin;refine Kd.N_append k41 (w0:=w) w.heap.size rfl (.tmp 65) (.tmp 74) 33 41 (.agg #[(.int .i64 0),(.slice none 0 0),(.string ⟨#[]⟩)]) 48 rfl Tryz.underlying33 info41 rfl (by decide) (by omega) u15 x15_2 (⟨(rd_T41 t745 (ji38)).f0,(rd_T41 t745 (ji38)).f1,(rd_T41 t745 (ji38)).f2⟩:S41) [.int .i64 ((rd_T41 t745 (ji38)).f0),.slice A756_1 ((rd_T41 t745 (ji38)).f1).length c756_1,.string ((rd_T41 t745 (ji38)).f2)] (fun k_=>some k_≠(.slice (some ad756) t745.length co30:Value).ownBlock∧some k_≠(u16:Value).ownBlock∧k_≠gb744) (fun k_=>((fun k_=>some k_≠(.slice (some ad756) t745.length co30:Value).ownBlock∧some k_≠(u16:Value).ownBlock∧k_≠gb744)) k_∧some k_≠(u15:Value).ownBlock) rfl rfl ?aP (fun _ hk=>hk) ?aF ?aO ?aB ?aS ?aL ?_;(case aP=>exact(k41_mkF _ _ (⟨(rd_T41 t745 (ji38)).f0,(rd_T41 t745 (ji38)).f1,(rd_T41 t745 (ji38)).f2⟩:S41) (Kd.V_reads' (Kd.V_mono (ok':=(fun k_=>((fun k_=>some k_≠(.slice (some ad756) t745.length co30:Value).ownBlock∧some k_≠(u16:Value).ownBlock∧k_≠gb744)) k_∧some k_≠(u15:Value).ownBlock)) (HL756_1.out) (fun k_ hk=>⟨⟨hk.2,⟨hk.1.2.1,hk.1.2.2⟩⟩,hk.1.1⟩))).2.1 (Kd.V_F (Kd.V_mono (ok':=(fun k_=>((fun k_=>some k_≠(.slice (some ad756) t745.length co30:Value).ownBlock∧some k_≠(u16:Value).ownBlock∧k_≠gb744)) k_∧some k_≠(u15:Value).ownBlock)) (HL756_1.out) (fun k_ hk=>⟨⟨hk.2,⟨hk.1.2.1,hk.1.2.2⟩⟩,hk.1.1⟩)))));(case aB=>exact(bl_ HB).out);(case aF=>exact(fun k_ hk=>⟨Kd.fresh' (Kd.N_lt (krN_ HO_12)) k_ hk,Kd.fresh' (Kd.N_lt (krN_ HO_16)) k_ hk,Kd.freshB (bk_ BK744).out k_ hk⟩));(case aO=>exact(krN_ HO_15));(case aS=>exact(below_size (bl_ HB).out));(case aL=>have:=LMc41.out;omega);intro v758 w55 ho hb hg hat;rw[← Ny757.out] at ho;have n0_:=Aside0.mk (Kd.N_afterv (ok:=(fun k_=>some k_≠(u16:Value).ownBlock∧k_≠gb744)) (kdN_ (Kd.N_mono HO_12.out (fun _ hk=>⟨⟨hk.2.1,hk.2.2⟩,hk.1⟩))) hg hat);have n1_:=Aside0.mk (Kd.N_afterv (ok:=(fun k_=>some k_≠(.slice (some ad756) t745.length co30:Value).ownBlock∧k_≠gb744)) (kdN_ (Kd.N_mono HO_16.out (fun _ hk=>⟨⟨hk.1,hk.2.2⟩,hk.2.1⟩))) hg hat);have n2_:=Aside0.mk (blk_grown (bk_ BK744).out hg (Kd.N_ne HO_15.out BK744.out (by decide)));have n3_:=Aside0.mk (Kd.V_afterv (ok:=(fun k_=>some k_≠(.slice (some ad756) t745.length co30:Value).ownBlock∧some k_≠(u16:Value).ownBlock∧k_≠gb744)) (kdV_ (Kd.V_mono HL756_1.out (fun _ hk=>⟨⟨hk.2,⟨hk.1.2.1,hk.1.2.2⟩⟩,hk.1.1⟩))) hg hat);have n4_:=Aside0.mk (hb);have n5_:=Aside0.mk (ho);clear HO_12;clear HO_16;clear BK744;clear HL756_1;clear HB;clear HO_15;have HO_12:=n0_;have HO_16:=n1_;have BK744:=n2_;have HL756_1:=n3_;have HB:=n4_;have HO759:=n5_;clear n0_ n1_ n2_ n3_ n4_ n5_;clear ho hb hg hat))
         replace HO_12:=Aside0.mk (Kd.N_drew HO_12.out)
         replace HO_16:=Aside0.mk (Kd.N_drew HO_16.out)
         replace HL756_1:=Aside0.mk (Kd.V_drew HL756_1.out)
         replace HO759:=Aside0.mk (Kd.N_drew HO759.out)
         replace BK744:=Aside0.mk (blk_drew BK744.out)
         replace HB:=Aside0.mk (below_drew1 HB.out)
         have p760:0≤(x62_2:Int):=od_
         have q760:x62_2<(t745.length:Int):=od_
         obtain⟨ad760,A760_1,c760_1,e760,hx760_0,hx760_1,hx760_2,hl760_1,hi760_1⟩:=at_T41 (Kd.N_reads' HO_12.out).2.2 x62_2 p760 q760
         obtain rfl:ad756=ad760:=(by injection e760)
         obtain⟨ce760,hce760,hMe760,hcc760⟩:=Kd.N_get HO_12.out z41 x62_2 p760 (by first|exact q760|exact od_|(have e_:=(Kd.N_reads' HO_12.out).1;omega))
         obtain⟨ua760_1,uc760_1,rfl,ul760_1,ge760_1⟩:=k41_openF hMe760
         have hv760_1:=hcc760 1 _ rfl
         rw[add_field _ _ 1 (by omega)] at hv760_1
         replace hv760_1:=Option.some.inj (hv760_1.symm.trans hx760_1)
         injection hv760_1 with hva_ hvn_ hvc_
         rw[hva_] at ge760_1
         rw[hvc_] at ul760_1
         have HL760_1:=Aside0.mk (show Kd.V (Kd.slice 53 k53) 54 _ w.heap.size _ _ ((rd_T41 t745 x62_2).f1) from Kd.V_mk ul760_1 ge760_1)
         clear hva_ hvn_ hvc_ ge760_1 ul760_1
         clear hcc760 hce760
         have HR760_1:=Aside0.mk hi760_1
         have HC760_1:=Aside0.mk hl760_1
         clear hi760_1 hl760_1
         replace p760:=eq_true p760
         replace q760:=eq_true q760
         refine start_ (n:=14) (S:=fun w'=>w'.cell? ⟨gb744,0,none⟩=some (.string t741)∧w'.cell? ⟨gb744,1,none⟩=some (.string t742)∧w'.cell? ⟨gb744,2,none⟩=some (.int .i64 t743)∧w'.cell? (ad756.add ((x62_2).toNat*3))=some (.int .i64 ((rd_T41 t745 x62_2).f0))∧w'.cell? ⟨(ad756.add ((x62_2).toNat*3)).block,(ad756.add ((x62_2).toNat*3)).off+1,none⟩=some (.slice A760_1 ((rd_T41 t745 x62_2).f1).length c760_1)∧w'.cell? ⟨(ad756.add ((x62_2).toNat*3)).block,(ad756.add ((x62_2).toNat*3)).off+2,none⟩=some (.string ((rd_T41 t745 x62_2).f2))) (ds:=[]) #[false,false,false,false,false,false,false,false,false,false,false,false,false,false] (by kernel_rfl) rfl rfl ⟨bc_ BK744 0,bc_ BK744 1,bc_ BK744 2,hx760_0,hx760_1,hx760_2⟩ (fun hHeld=>?_);refine with_tabW florinlaw07_EvalOrders.tab16 florinlaw07_EvalOrders.bits16 (fun HT_ HW_=>?_)
         generalize w55.drew=w56 at HO_12 HO_16 HL756_1 HO759 BK744 HB HL760_1 HR760_1 hx760_0 hx760_1 hx760_2 hHeld ⊢
         refine pu_ 0 76 (bm_ 14 1) HT_ ?_
         refine pu_ 1 77 (bm_ 14 3) HT_ ?_
         refine pu_ 2 78 (bm_ 14 7) HT_ ?_
         refine tk_ 3 79 (bm_ 14 15) HT_ HW_ hHeld rfl (by rintro w' ⟨s0,s1,s2,s3,s4,s5⟩;go_simp;with_reducible rfl) ?_
         refine tk_ 4 80 (bm_ 14 31) HT_ HW_ hHeld rfl (by rintro w' ⟨s0,s1,s2,s3,s4,s5⟩;go_simp;with_reducible rfl) ?_
         refine one_ (i:=5) (N:=some 81) (bm_ 14 63) rfl rfl (one_of HT_.out (by kernel_rfl)) (by decide) (fun K hK=>?_)
         refine gs_ Tryz.func14 #[.agg #[.int .i64 ((rd_T41 t745 x62_2).f0),.slice A760_1 ((rd_T41 t745 x62_2).f1).length c760_1,.string ((rd_T41 t745 x62_2).f2)],.agg #[.string t741,.string t742,.int .i64 t743]] ?_
         with_reducible refine(eval_Meets.calls _ _ _ _ _ _ _ _ _ _ _ ?side1 ?side2 A44.out).mono ?_
         (case side1=>repeat(first|exact(by repeat(first|(with_reducible exact HR760_1.out)|(with_reducible refine Kd.C_alloc ?_ _)|(with_reducible refine Kd.C_drewN ?_ _)|(with_reducible refine Kd.C_drew ?_)|exact HR760_1.out))|(with_reducible refine Kd.C_alloc ?_ _)|(with_reducible refine Kd.C_drewN ?_ _)|(with_reducible refine Kd.C_drew ?_)))
         (case side2=>exact HC760_1.out)
         rintro e w57 ⟨rfl,hb⟩
         have HS3_:=(hb.cell (World.block_lt_of_cell? _ _ (hHeld.2.2.2.1))).trans (hHeld.2.2.2.1)
         have HS4_:=(hb.cell (World.block_lt_of_cell? _ _ (hHeld.2.2.2.2.1))).trans (hHeld.2.2.2.2.1)
         have HS5_:=(hb.cell (World.block_lt_of_cell? _ _ (hHeld.2.2.2.2.2))).trans (hHeld.2.2.2.2.2)
         refine⟨_,rfl,?_⟩
         replace HO_12:=Aside0.mk (Kd.N_below (krN_ HO_12) hb)
         replace HO_16:=Aside0.mk (Kd.N_below (krN_ HO_16) hb)
         replace HL756_1:=Aside0.mk (Kd.V_below (krV_ HL756_1) hb)
         replace HO759:=Aside0.mk (Kd.N_below (krN_ HO759) hb)
         replace HL760_1:=Aside0.mk (Kd.V_below (krV_ HL760_1) hb)
         replace BK744:=bb_ BK744 hb
         replace HR760_1:=Aside0.mk (Kd.C_below (by repeat(first|(with_reducible exact HR760_1.out)|(with_reducible refine Kd.C_alloc ?_ _)|(with_reducible refine Kd.C_drewN ?_ _)|(with_reducible refine Kd.C_drew ?_)|exact HR760_1.out)) hb)
         replace HB:=Aside0.mk (below_step (bl_ HB).out hb)
         (try clear hb)
         (try clear hb2)
         (try clear hk)
         (try clear hi)
         refine hK.out _ _ ⟨bc_ BK744 0,bc_ BK744 1,bc_ BK744 2,HS3_,HS4_,HS5_⟩ (fun hHeld=>?_)
         clear hK K
         refine nm_ 81 ?_
         refine pu_ 6 82 (bm_ 14 127) HT_ ?_
         refine pn_ 7 83 (bm_ 14 255) HT_ ?_
         refine pn_ 8 84 (bm_ 14 511) HT_ ?_
         refine pn_ 9 85 (bm_ 14 1023) HT_ ?_
         refine pn_ 10 86 (bm_ 14 2047) HT_ ?_
         refine pn_ 11 87 (bm_ 14 4095) HT_ ?_
         refine pn_ 12 88 (bm_ 14 8191) HT_ ?_
         refine pu_ 13 89 (bm_ 14 16383) HT_ ?_
         refine done_ (done_of HT_.out (by kernel_rfl)) ?_
         try go_wp2
         go_roundg k2
         case measure=>have:=HJ7.out;have:=HK2.out;omega
         case rel=>exact⟨(y757),(x16_2),(wrap64 (x62_2+1)),eq_,H',⟨by have:=HJ7.out;have:=HK2.out;omega⟩,⟨kdN_ (Kd.N_mono HO_12.out (fun _ hk=>⟨hk.2,⟨hk.1.1,hk.1.2⟩⟩))⟩,⟨kdN_ HO759.out⟩,⟨kdN_ (Kd.N_mono HO_16.out (fun _ hk=>⟨hk.1.1,⟨hk.2,hk.1.2⟩⟩))⟩,(bk_ BK744),(bl_ HB)⟩
       ·rw[if_neg c36] at H
        have c36b0:=decide_eq_false c36
        clear c36
        replace H:=Option.bind_eq_some_iff.mp H
        obtain⟨t767,A580,H⟩:=H
        have A58:=Aside0.mk A580
        clear A580
        replace H:=ifn_ H
        obtain⟨c59,H⟩:=H
        have c59b0:(t767==t749)=true:=beq_iff_eq.mpr c59
        have c59b1:(t767 !=t749)=false:=bne_eq_false_iff_eq.mpr c59
        clear c59
        replace H:=Option.bind_eq_some_iff.mp H
        obtain⟨t768,A600,H⟩:=H
        have A60:=Aside0.mk A600
        clear A600
        replace H:=ifn_ H
        obtain⟨c61,H⟩:=H
        have c61b0:(t768==t749)=true:=beq_iff_eq.mpr c61
        have c61b1:(t768 !=t749)=false:=bne_eq_false_iff_eq.mpr c61
        clear c61
        obtain rfl:=Option.some.inj H
        obtain⟨hcz62_0,hcz62_1,hcz62_2,hfz62_0,hfz62_1,hfz62_2⟩:=bo3_ BK744
        obtain⟨Ao63,co63,eo63⟩:=Kd.N_slice HO_15.out
        subst eo63
        go_wp2_with (first|((with_reducible refine gate_callee (f:=13) rfl ?_);refine gl_ (some 100) Tryz.func13 #[.slice Ao63 x15_2.length co63,.agg #[.string t741,.string t742,.int .i64 t743]] ?_;(with_reducible refine(eval_Pick.calls _ _ _ _ _ _ _ _ _ ?side1 ?side2 A58.out).mono ?_);(case side1=>repeat(first|exact(Kd.N_reads' HO_15.out).2.2|(with_reducible refine Kd.C_alloc ?_ _)|(with_reducible refine Kd.C_drewN ?_ _)|(with_reducible refine Kd.C_drew ?_)));(case side2=>exact(Kd.N_reads' HO_15.out).2.1);rintro e w64 ⟨rfl,hb⟩;refine⟨_,rfl,?_⟩;replace HO_12:=Aside0.mk (Kd.N_below (krN_ HO_12) hb);replace HO_15:=Aside0.mk (Kd.N_below (krN_ HO_15) hb);replace HO_16:=Aside0.mk (Kd.N_below (krN_ HO_16) hb);replace BK744:=bb_ BK744 hb;replace HB:=Aside0.mk (below_step (bl_ HB).out hb);(try clear hb);obtain⟨hcz65_0,hcz65_1,hcz65_2,hfz65_0,hfz65_1,hfz65_2⟩:=bo3_ BK744;obtain⟨Ao66,co66,eo66⟩:=Kd.N_slice HO_16.out;subst eo66)|(go_at_call 13;(with_reducible refine(eval_Pick.calls _ _ _ _ _ _ _ _ _ ?side1 ?side2 A60.out).mono ?_);(case side1=>repeat(first|exact(Kd.N_reads' HO_16.out).2.2|(with_reducible refine Kd.C_alloc ?_ _)|(with_reducible refine Kd.C_drewN ?_ _)|(with_reducible refine Kd.C_drew ?_)));(case side2=>exact(Kd.N_reads' HO_16.out).2.1);rintro e w67 ⟨rfl,hb⟩;replace HO_12:=Aside0.mk (Kd.N_below (krN_ HO_12) hb);replace HO_15:=Aside0.mk (Kd.N_below (krN_ HO_15) hb);replace HO_16:=Aside0.mk (Kd.N_below (krN_ HO_16) hb);replace BK744:=bb_ BK744 hb;replace HB:=Aside0.mk (below_step (bl_ HB).out hb);(try clear hb);(try clear hi)))
        go_ret
        exact⟨by first|rfl|(simp[errW_none,errW_some] <;> rfl)|(simp only[← hji21];first|rfl|(simp[errW_none,errW_some] <;> rfl))|(simp[*,errW_none,errW_some] <;> first|rfl|exact given_isEmpty _|exact(given_isEmpty _).symm),by repeat(first|(with_reducible first|exact HB.out|apply below_alloc|apply pw_below_drewN|apply below_drew1|refine below_set ?_ GE744.out)|exact HB.out)⟩
 ·replace c7:=Bool.eq_false_iff.mpr c7
  subst c7
  have H1:(none)=some r:=by rw[if_neg (show ¬(false=true) by decide)] at H;exact H
  clear H
  have H:=H1
  clear H1
  exact absurd H (by simp)

end Go.Proofs.YtadagjgkanlmdaaGreatDoor.P
