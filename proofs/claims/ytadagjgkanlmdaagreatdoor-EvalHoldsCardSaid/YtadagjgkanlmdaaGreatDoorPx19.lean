import Derived.Test.YtadagjgkanlmdaaGreatDoorPx0
import Derived.Test.YtadagjgkanlmdaaGreatDoorPx2
import Derived.Test.YtadagjgkanlmdaaGreatDoorPx5
import Derived.Test.YtadagjgkanlmdaaGreatDoorPx6
import Derived.Test.YtadagjgkanlmdaaGreatDoorPx7
import Derived.Test.YtadagjgkanlmdaaGreatDoorPx9
import Derived.Test.YtadagjgkanlmdaaGreatDoorPx12
import Derived.Test.YtadagjgkanlmdaaGreatDoorPx16
import Derived.Test.YtadagjgkanlmdaaGreatDoorPx17
import Derived.Test.YtadagjgkanlmdaaGreatDoorPx18
namespace Go.Proofs.YtadagjgkanlmdaaGreatDoor.P
open Go.RowKit Go.Proofs.YtadagjgkanlmdaaGreatDoorW.PrintWords Go.Proofs.YtadagjgkanlmdaaGreatDoorW.PrintLast Go.Proofs.YtadagjgkanlmdaaGreatDoorW.PrintMore
attribute [local go_sem] max2_int min2_int max_two min_two max_three min_three max_four min_four
set_option maxHeartbeats 64000000
set_option maxRecDepth 100000
set_option linter.unusedVariables false
set_option linter.unusedSimpArgs false

theorem k53_openF {W:World} {ok:Nat→Prop} {x:S53} {cs:List Value} (h:Kd.FK k53 W ok x cs):∃A3 c3,cs=[.int .u8 x.f0,.int .i64 x.f1,.bool x.f2,.slice A3 x.f3.length c3]∧x.f3.length≤c3∧Kd.F k57 W ok A3 x.f3.length x.f3:=by
  obtain⟨A3,c3,rfl,l3,_⟩:=k53_open (Kd.FK_now h)
  exact⟨A3,c3,rfl,l3,(fun W' hW=>by obtain⟨A3_,c3_,he,l3_,g3_⟩:=k53_open (h W' hW);injection (Option.some.inj (show some (Value.slice A3 x.f3.length c3)=some (Value.slice A3_ x.f3.length c3_) from congrArg (fun l=>l[3]?) he)) with ha_ _ _;rw[ha_];exact g3_)⟩
mutual
def florinlaw07_EvalHolds.j0:Nat→List (S50)→List Int→List Int→Int→Bool→Option (Bool)
 | 0,_,_,_,_,_=>none
 | k+1,x0,x1,x2,x3,x32=>if x32=true then (some true) else ((florinlaw05_Shown.f k x1 x2).bind fun bt919=>((operand_Of.f k bt919.1 bt919.2.1 bt919.2.2 (Go.bits .and .i64 x3 15)).bind fun bt922=>((florinlaw06_All.f k x0 0).bind fun bt926=>(florinlaw07_EvalHolds.l0 k bt926.1 bt926.1 (bt926.1.length:Int) 0 bt922.1 bt922.2.1 bt922.2.2))))
def florinlaw07_EvalHolds.l0:Nat→List (S41)→List (S41)→Int→Int→ByteArray→ByteArray→Int→Option (Bool)
 | 0,_,_,_,_,_,_,_=>none
 | k+1,x10,x44,x45,x46,x926000,x926001,x926002=>if x46<x45 then (if 0≤x46 then (if x46<(x44.length:Int) then (florinlaw07_EvalHolds.l1 k x10 x44 x45 x46 ((rd_T41 x44 x46).f1) (((rd_T41 x44 x46).f1).length:Int) 0 x926000 x926001 x926002 ((rd_T41 x44 x46).f0) ((rd_T41 x44 x46).f1) ((rd_T41 x44 x46).f2)) else (none)) else (none)) else ((eval_Pick.f k x10 x926000 x926001 x926002).bind fun t930=>((florinlaw07_Pick.f k x10 x926000 x926001 x926002).bind fun t931=>(if t930=t931 then ((eval_Pick.f k ([]:List (S41)) x926000 x926001 x926002).bind fun t932=>(some (t932==5))) else (none))))
def florinlaw07_EvalHolds.l1:Nat→List (S41)→List (S41)→Int→Int→List (List (S53))→Int→Int→ByteArray→ByteArray→Int→Int→List (List (S53))→ByteArray→Option (Bool)
 | 0,_,_,_,_,_,_,_,_,_,_,_,_,_=>none
 | k+1,x10,x44,x45,x46,x51,x52,x53,x926000,x926001,x926002,x935000,x935001,x935002=>if x53<x52 then (if 0≤x53 then (if x53<(x51.length:Int) then (florinlaw07_EvalHolds.l2 k x10 x44 x45 x46 x51 x52 x53 (rd_L7 x51 x53) ((rd_L7 x51 x53).length:Int) 0 x926000 x926001 x926002 x935000 x935001 x935002) else (none)) else (none)) else ((eval_Meets.f k x935000 x935001 x935002 x926000 x926001 x926002).bind fun t940=>((florinlaw07_Meets.f k x935000 x935001 x935002 x926000 x926001 x926002).bind fun t941=>(if (t940 !=t941)=true then (none) else (florinlaw07_EvalHolds.l0 k x10 x44 x45 (wrap64 (x46+1)) x926000 x926001 x926002))))
def florinlaw07_EvalHolds.l2:Nat→List (S41)→List (S41)→Int→Int→List (List (S53))→Int→Int→List (S53)→Int→Int→ByteArray→ByteArray→Int→Int→List (List (S53))→ByteArray→Option (Bool)
 | 0,_,_,_,_,_,_,_,_,_,_,_,_,_,_,_,_=>none
 | k+1,x10,x44,x45,x46,x51,x52,x53,x57,x58,x59,x926000,x926001,x926002,x935000,x935001,x935002=>if x59<x58 then (if 0≤x59 then (if x59<(x57.length:Int) then ((eval_Holds.f k ((rd_T53 x57 x59).f0) ((rd_T53 x57 x59).f1) ((rd_T53 x57 x59).f2) ((rd_T53 x57 x59).f3) x926000 x926001 x926002).bind fun t938=>((florinlaw07_Holds.f k ((rd_T53 x57 x59).f0) ((rd_T53 x57 x59).f1) ((rd_T53 x57 x59).f2) ((rd_T53 x57 x59).f3) x926000 x926001 x926002).bind fun t939=>(if (t938 !=t939)=true then (none) else (florinlaw07_EvalHolds.l2 k x10 x44 x45 x46 x51 x52 x53 x57 x58 (wrap64 (x59+1)) x926000 x926001 x926002 x935000 x935001 x935002)))) else (none)) else (none)) else (florinlaw07_EvalHolds.l1 k x10 x44 x45 x46 x51 x52 (wrap64 (x53+1)) x926000 x926001 x926002 x935000 x935001 x935002)
end
def florinlaw07_EvalHolds.f (k:Nat) (l0:List (S50)) (l1:List Int) (l2:List Int) (a3:Int):Option (Bool):=(florinlaw07_head.f k).bind fun t917=>(if t917=true then ((florinlaw06_Few.f k l0).bind fun t918=>(if t918=true then (if (l1.length:Int)>40 then (florinlaw07_EvalHolds.j0 k l0 l1 l2 a3 true) else (florinlaw07_EvalHolds.j0 k l0 l1 l2 a3 (decide ((l2.length:Int)>40)))) else (florinlaw07_EvalHolds.j0 k l0 l1 l2 a3 true))) else (none))
def florinlaw07_EvalHolds.T23:Bool × List (List Nat × List Nat):=(true,[([],[]),([],[]),([0,1],[0,1]),([],[]),([],[]),([3,4,2],[3,4]),([2,5],[2,5]),([6,5],[6]),([7],[7]),([8,7,7],[7,8]),([9,7],[7,9]),([7,10],[7,10]),([11,9,0,1,2,3,4,5,6,7,8,9,10,11],[11])])
def florinlaw07_EvalHolds.B23:List Nat:=[0,0,3,0,0,31,63,127,255,511,1023,2047,4095]
theorem florinlaw07_EvalHolds.tab23:rtab .any (opsOf Tryz.f7 23)=florinlaw07_EvalHolds.T23:=by kernel_rfl
theorem florinlaw07_EvalHolds.bits23:waitsOk florinlaw07_EvalHolds.T23.2 florinlaw07_EvalHolds.B23=true:=by kernel_rfl
theorem florinlaw07_EvalHolds.calls (k:Nat) (A0:Option Addr) (c0:Nat) (l0:List (S50)) (A1:Option Addr) (c1:Nat) (l1:List Int) (A2:Option Addr) (c2:Nat) (l2:List Int) (a3:Int) (r:Bool) (w:World) (hr0:Kd.C k50 w A0 l0.length l0) (hc0:l0.length≤c0) (hr1:Kd.C (Kd.int .u8) w A1 l1.length l1) (hc1:l1.length≤c1) (hr2:Kd.C (Kd.int .u8) w A2 l2.length l2) (hc2:l2.length≤c2) (h:florinlaw07_EvalHolds.f k l0 l1 l2 a3=some r) :
  Calls Tryz.prog 7 #[.slice A0 l0.length c0,.slice A1 l1.length c1,.slice A2 l2.length c2,.int .i64 a3] w fun e w'=>e= .returned (.bool r)∧Below w.heap.size w w':=by
 have hu27:=Tryz.underlying27
 have hu41:=Tryz.underlying41
 have hu53:=Tryz.underlying53
 have HR0:=am_ hr0
 have HC0:=am_ hc0
 clear hr0 hc0
 have HR1:=am_ hr1
 have HC1:=am_ hc1
 clear hr1 hc1
 have HR2:=am_ hr2
 have HC2:=am_ hc2
 clear hr2 hc2
 have HB:=am_ (Below.refl w.heap.size w)
 have H:=h
 clear h
 unfold florinlaw07_EvalHolds.f at H
 replace H:=Option.bind_eq_some_iff.mp H
 obtain⟨t917,A50,H⟩:=H
 have A5:=am_ A50
 clear A50
 by_cases c6:t917=true
 ·subst c6
  rw[if_pos rfl] at H
  have HC7:=am_ H
  clear H
  go_enter Tryz.func7,Tryz.ntmps7
  go_upto_region 3 with (first|((with_reducible refine gate_callee (f:=8) rfl ?_);refine gl_ (some 18) Tryz.func8 #[] ?_;(with_reducible refine(florinlaw07_head.calls _ _ _ A5.out).mono ?_);rintro e w8 ⟨rfl,hb⟩;refine⟨_,rfl,?_⟩;replace HB:=am_ (below_step (bl_ HB).out hb);(try clear hb);(try clear hi)))
  (try simp only[Act.put,List.setIfInBounds_toArray,List.set_cons_zero,List.set_cons_succ])
  go_cut [32] (fun v32 wc=>∃(kq:Nat) (x32_6:Bool),v32= .bool x32_6∧Aside0 (florinlaw07_EvalHolds.j0 kq l0 l1 l2 a3 x32_6=some r)∧Aside0 (kq≤k)∧Aside0 (Below w.heap.size w wc))
  case first =>
   have H:=HC7.out
   clear HC7
   replace H:=Option.bind_eq_some_iff.mp H
   obtain⟨t918,A90,H⟩:=H
   have A9:=am_ A90
   clear A90
   by_cases c10:t918=true
   ·subst c10
    rw[if_pos rfl] at H
    by_cases c11:(l1.length:Int)>40
    ·rw[if_pos c11] at H
     have c11b0:decide (40<(l1.length:Int))=true:=decide_eq_true c11
     have c11b1:decide (40<l1.length)=true:=decide_eq_true (by omega)
     clear c11
     (first|rw[c11b0]|(simp only[i64_w,i32_w];rw[c11b0])|skip)
     have H':=am_ H
     clear H
     go_wp2_with (first|((with_reducible refine gate_callee (f:=9) rfl ?_);refine gl_ (some 21) Tryz.func9 #[.slice A0 l0.length c0] ?_;(with_reducible refine(florinlaw06_Few.calls _ _ _ _ _ _ ?side1 ?side2 A9.out).mono ?_);(case side1=>repeat(first|exact(Kd.C_below HR0.out HB.out)|(with_reducible refine Kd.C_alloc ?_ _)|(with_reducible refine Kd.C_drewN ?_ _)|(with_reducible refine Kd.C_drew ?_)));(case side2=>exact HC0.out);rintro e w12 ⟨rfl,hb⟩;refine⟨_,rfl,?_⟩;replace HB:=am_ (below_step (bl_ HB).out hb);(try clear hb);(try clear hi)))
     go_meet
     case rel=>exact⟨_,(true),eq_,H',⟨by first|omega|exact Nat.le_refl _⟩,(bl_ HB)⟩
    rw[if_neg c11] at H
    have c11b0:decide (40<(l1.length:Int))=false:=decide_eq_false c11
    have c11b1:decide (40<l1.length)=false:=decide_eq_false (by omega)
    clear c11
    (first|rw[c11b0]|(simp only[i64_w,i32_w];rw[c11b0])|skip)
    have H':=am_ H
    clear H
    go_wp2_with (first|((with_reducible refine gate_callee (f:=9) rfl ?_);refine gl_ (some 21) Tryz.func9 #[.slice A0 l0.length c0] ?_;(with_reducible refine(florinlaw06_Few.calls _ _ _ _ _ _ ?side1 ?side2 A9.out).mono ?_);(case side1=>repeat(first|exact(Kd.C_below HR0.out HB.out)|(with_reducible refine Kd.C_alloc ?_ _)|(with_reducible refine Kd.C_drewN ?_ _)|(with_reducible refine Kd.C_drew ?_)));(case side2=>exact HC0.out);rintro e w13 ⟨rfl,hb⟩;refine⟨_,rfl,?_⟩;replace HB:=am_ (below_step (bl_ HB).out hb);(try clear hb);(try clear hi)))
    go_meet
    case rel=>exact⟨_,(decide ((l2.length:Int)>40)),eq_,H',⟨by first|omega|exact Nat.le_refl _⟩,(bl_ HB)⟩
   replace c10:=Bool.eq_false_iff.mpr c10
   subst c10
   rw[if_neg (show ¬(false=true) by decide)] at H
   have H':=am_ H
   clear H
   go_wp2_with (first|((with_reducible refine gate_callee (f:=9) rfl ?_);refine gl_ (some 21) Tryz.func9 #[.slice A0 l0.length c0] ?_;(with_reducible refine(florinlaw06_Few.calls _ _ _ _ _ _ ?side1 ?side2 A9.out).mono ?_);(case side1=>repeat(first|exact(Kd.C_below HR0.out HB.out)|(with_reducible refine Kd.C_alloc ?_ _)|(with_reducible refine Kd.C_drewN ?_ _)|(with_reducible refine Kd.C_drew ?_)));(case side2=>exact HC0.out);rintro e w14 ⟨rfl,hb⟩;refine⟨_,rfl,?_⟩;replace HB:=am_ (below_step (bl_ HB).out hb);(try clear hb);(try clear hi)))
   go_meet
   case rel=>exact⟨_,(true),eq_,H',⟨by first|omega|exact Nat.le_refl _⟩,(bl_ HB)⟩
  clear HC7
  obtain⟨kq,x32_6,rfl,HA,HJ6,HB⟩:=hcut
  cases kq with
  | zero=>exact absurd HA.out (by simp[florinlaw07_EvalHolds.j0])
  | succ kj6=>?_
  have H:=HA.out
  clear HA
  simp only[florinlaw07_EvalHolds.j0] at H
  by_cases c15:x32_6=true
  ·subst c15
   rw[if_pos rfl] at H
   obtain rfl:=Option.some.inj H
   go_wp2
   go_ret
   exact⟨ew_,(bl_ HB).out⟩
  replace c15:=Bool.eq_false_iff.mpr c15
  subst c15
  rw[if_neg (show ¬(false=true) by decide)] at H
  replace H:=Option.bind_eq_some_iff.mp H
  obtain⟨⟨t919,t920,t921⟩,A160,H⟩:=H
  dsimp only at H
  have A16:=am_ A160
  clear A160
  replace H:=Option.bind_eq_some_iff.mp H
  obtain⟨⟨t922,t923,t924⟩,A170,H⟩:=H
  dsimp only at H
  have A17:=am_ A170
  clear A170
  replace H:=Option.bind_eq_some_iff.mp H
  obtain⟨⟨t926,t929⟩,A180,H⟩:=H
  dsimp only at H
  have A18:=am_ A180
  clear A180
  have H':=am_ H
  clear H
  go_wp2_with (first|((with_reducible refine gate_callee (f:=11) rfl ?_);refine gl_ (some 35) Tryz.func11 #[.slice A1 l1.length c1,.slice A2 l2.length c2] ?_;(with_reducible refine(florinlaw05_Shown.calls _ _ _ _ _ _ _ _ _ _ _ ?side1 ?side2 ?side3 ?side4 A16.out).mono ?_);(case side1=>repeat(first|exact(Kd.C_below HR1.out HB.out)|(with_reducible refine Kd.C_alloc ?_ _)|(with_reducible refine Kd.C_drewN ?_ _)|(with_reducible refine Kd.C_drew ?_)));(case side2=>exact HC1.out);(case side3=>repeat(first|exact(Kd.C_below HR2.out HB.out)|(with_reducible refine Kd.C_alloc ?_ _)|(with_reducible refine Kd.C_drewN ?_ _)|(with_reducible refine Kd.C_drew ?_)));(case side4=>exact HC2.out);rintro e w19 ⟨rfl,hb⟩;refine⟨_,rfl,?_⟩;replace HB:=am_ (below_step (bl_ HB).out hb);(try clear hb);(try clear hi))|((with_reducible refine gate_callee (f:=10) rfl ?_);refine gl_ (some 38) Tryz.func10 #[.agg #[.bool t919,.string t920,.string t921],.int .i64 (Go.bits .and .i64 a3 15)] ?_;(with_reducible refine(operand_Of.calls _ _ _ _ _ _ _ _ _ A17.out).mono ?_);rintro e w20 ⟨rfl,hb⟩;refine⟨_,rfl,?_⟩;replace HB:=am_ (below_step (bl_ HB).out hb);(try clear hb);(try clear hi))|((with_reducible refine gate_dst (N:=9) rfl ?_);(try (refine gate_guard (by rfl) ?_;dsimp only));refine be_ 9 #[.string (⟨#[]⟩:ByteArray),.string (⟨#[]⟩:ByteArray),.int .i64 0] 27 ?_;intro gb925 hg w21 hbox hb;have BK925:=am_ (hbox);have GW925:=sz_ HB hg;have GE925:=sz_ HB hg;replace HB:=am_ (below_step (bl_ HB).out hb);clear hb hbox hg;obtain⟨hcz22_0,hcz22_1,hcz22_2,hfz22_0,hfz22_1,hfz22_2⟩:=bo3_ BK925)|((with_reducible refine gate_store (t:=27) (p:=9) rfl ?_);refine store_event (t:=27) (p:=9) (v:=?vo_w23) (w1:=(((w21.setCell ⟨gb925,0,none⟩ (.string t922)).setCell ⟨gb925,1,none⟩ (.string t923)).setCell ⟨gb925,2,none⟩ (.int .i64 t924))) ?hg ?ho ?hn ?hr ?_;(case ho=>rfl);(case hg=>rfl);(case hn=>rfl);(case hr=>first|(go_simp;done)|(go_simp;rfl));intro w23 hw;have n0_:Aside0 (w23.heap[gb925]? = some (.cells #[.string t922,.string t923,.int .i64 t924] 27 (0,0))):=⟨(by rw[hw];exact((bp_ BK925).out))⟩;have n1_:Aside0 (Below w.heap.size w w23):=⟨(by rw[hw];exact(bl_ HB).out)⟩;clear hw;clear BK925;clear HB;have BK925:=n0_;have HB:=n1_;clear n0_ n1_)|((with_reducible refine gate_callee (f:=12) rfl ?_);refine gl_ (some 41) Tryz.func12 #[.slice A0 l0.length c0,.int .i64 0] ?_;(with_reducible refine(florinlaw06_All.calls _ (fun k_=>k_<w.heap.size) _ _ _ _ _ _ _ ?side1 A18.out).mono ?_);(case side1=>exact Kd.V_mk HC0.out (Kd.F_below (Kd.C_F k50_heap HR0.out) (bl_ HB).out));rintro e w24 ⟨v927,rfl,ho0,hb⟩;refine⟨_,rfl,?_⟩;have n0_:=am_ (Kd.N_lower (Kd.N_mono (ok':=fun k_=>k_≠gb925) ho0 (fun k_ hk_=>Or.elim hk_ (fun hs_=>fun e_=>Nat.not_le.2 hs_ (by rw[e_];exact GW925.out)) (fun hn_=>(Kd.freshB (bk_ BK925).out k_ hn_)))) (below_size (bl_ HB).out));have n1_:=bb_ BK925 hb;have n2_:=am_ (below_step (bl_ HB).out hb);clear BK925;clear HB;revert n0_ n1_ n2_;intro HO928 BK925 HB;(try clear hb);(try clear ho0);obtain⟨Ao25,co25,eo25⟩:=Kd.N_slice HO928.out;subst eo25))
  go_loopg [46] kj6 (fun kq v46 w'=>∃(x46_2:Int),v46= .int .i64 x46_2∧Aside0 (florinlaw07_EvalHolds.l0 kq t926 t926 (t926.length:Int) x46_2 t922 t923 t924=some r)∧Aside0 (kq≤kj6)∧Aside0 (Kd.N k41 41 w' w.heap.size (fun k_=>k_≠gb925) (.slice Ao25 t926.length co25) t926)∧Aside0 (Kd.N k41 41 w' w.heap.size (fun k_=>k_≠gb925) (.slice Ao25 t926.length co25) t926)∧Aside0 (w'.heap[gb925]? = some (.cells #[.string t922,.string t923,.int .i64 t924] 27 (0,0)))∧Aside0 (Below w.heap.size w w'))
  case atStart=>exact⟨(0),eq_,H',⟨Nat.le_refl _⟩,⟨kdN_ HO928.out⟩,⟨kdN_ HO928.out⟩,(bk_ BK925),(bl_ HB)⟩
  clear H'
  obtain⟨x46_2,rfl,HA,HK2,HO_10,HO_44,BK925,HB⟩:=hrel
  cases gk with
  | zero=>exact absurd HA.out (by simp[florinlaw07_EvalHolds.l0])
  | succ k2=>?_
  have H:=HA.out
  clear HA
  simp only[florinlaw07_EvalHolds.l0] at H
  by_cases c26:x46_2<(t926.length:Int)
  ·rw[if_pos c26] at H
   have c26b0:=decide_eq_true c26
   clear c26
   replace H:=ifn_ H
   obtain⟨c27,H⟩:=H
   have c27b0:decide (0≤x46_2)=true:=decide_eq_true c27
   clear c27
   replace H:=ifn_ H
   obtain⟨c28,H⟩:=H
   have c28b0:decide (x46_2<(t926.length:Int))=true:=decide_eq_true c28
   clear c28
   have H':=am_ H
   clear H
   have p933:0≤(x46_2:Int):=od_
   have q933:x46_2<(t926.length:Int):=od_
   obtain⟨ad933,A933_1,c933_1,e933,hx933_0,hx933_1,hx933_2,hl933_1,hi933_1⟩:=at_T41 (Kd.N_reads' HO_44.out).2.2 x46_2 p933 q933
   cases e933
   obtain⟨ce933,hce933,hMe933,hcc933⟩:=Kd.N_get HO_44.out z41 x46_2 p933 (by first|exact q933|exact od_|(have e_:=(Kd.N_reads' HO_44.out).1;omega))
   obtain⟨ua933_1,uc933_1,rfl,ul933_1,ge933_1⟩:=k41_openF hMe933
   have hv933_1:=hcc933 1 _ rfl
   rw[add_field _ _ 1 (by omega)] at hv933_1
   replace hv933_1:=Option.some.inj (hv933_1.symm.trans hx933_1)
   injection hv933_1 with hva_ hvn_ hvc_
   rw[hva_] at ge933_1
   rw[hvc_] at ul933_1
   have HL933_1:=am_ (show Kd.V (Kd.slice 53 k53) 54 _ w.heap.size _ _ ((rd_T41 t926 x46_2).f1) from Kd.V_mk ul933_1 ge933_1)
   clear hva_ hvn_ hvc_ ge933_1 ul933_1
   clear hcc933 hce933
   have HR933_1:=am_ hi933_1
   have HC933_1:=am_ hl933_1
   clear hi933_1 hl933_1
   replace p933:=eq_true p933
   replace q933:=eq_true q933
   go_wp2_with (first|((with_reducible refine gate_dst (N:=13) rfl ?_);(try (refine gate_guard (by rfl) ?_;dsimp only));refine be_ 13 #[.int .i64 0,.slice none 0 0,.string (⟨#[]⟩:ByteArray)] 41 ?_;intro gb934 hg w29 hbox hb;have BK934:=am_ (hbox);have GW934:=sz_ HB hg;have GE934:=sz_ HB hg;have NB925_934:=na_ BK925 hg;have NB934_925:=nb_ BK925 hg;replace HO_10:=am_ (Kd.N_below (Kd.N_elderB (krN_ HO_10) gb934 (Nat.le_of_eq hg.symm)) hb);replace HO_44:=am_ (Kd.N_below (Kd.N_elderB (krN_ HO_44) gb934 (Nat.le_of_eq hg.symm)) hb);replace HL933_1:=am_ (Kd.V_below (Kd.V_elderB (krV_ HL933_1) gb934 (Nat.le_of_eq hg.symm)) hb);replace BK925:=bb_ BK925 hb;replace HR933_1:=am_ (Kd.C_below (by repeat(first|(with_reducible exact HR933_1.out)|(with_reducible refine Kd.C_alloc ?_ _)|(with_reducible refine Kd.C_drewN ?_ _)|(with_reducible refine Kd.C_drew ?_)|exact HR933_1.out)) hb);replace HB:=am_ (below_step (bl_ HB).out hb);clear hb hbox hg;have hnb30:=NB934_925.out;have hnc30:=NB925_934.out;obtain⟨hcz31_0,hcz31_1,hcz31_2,hfz31_0,hfz31_1,hfz31_2⟩:=bo3_ BK934))
   go_loopg [53] k2 (fun kq v53 w'=>∃(x53_3:Int),v53= .int .i64 x53_3∧Aside0 (florinlaw07_EvalHolds.l1 kq t926 t926 (t926.length:Int) x46_2 ((rd_T41 t926 x46_2).f1) (((rd_T41 t926 x46_2).f1).length:Int) x53_3 t922 t923 t924 ((rd_T41 t926 x46_2).f0) ((rd_T41 t926 x46_2).f1) ((rd_T41 t926 x46_2).f2)=some r)∧Aside0 (kq≤k2)∧Aside0 (Kd.N k41 41 w' w.heap.size (fun k_=>k_≠gb925∧k_≠gb934) (.slice (some ad933) t926.length co25) t926)∧Aside0 (Kd.N k41 41 w' w.heap.size (fun k_=>k_≠gb925∧k_≠gb934) (.slice (some ad933) t926.length co25) t926)∧Aside0 (Kd.V (Kd.slice 53 k53) 54 w' w.heap.size (fun k_=>some k_≠((.slice (some ad933) t926.length co25):Value).ownBlock∧k_≠gb925∧k_≠gb934) (.slice A933_1 ((rd_T41 t926 x46_2).f1).length c933_1) ((rd_T41 t926 x46_2).f1))∧Aside0 (Kd.V (Kd.slice 53 k53) 54 w' w.heap.size (fun k_=>some k_≠((.slice (some ad933) t926.length co25):Value).ownBlock∧k_≠gb925∧k_≠gb934) (.slice A933_1 ((rd_T41 t926 x46_2).f1).length c933_1) ((rd_T41 t926 x46_2).f1))∧Aside0 (w'.heap[gb925]? = some (.cells #[.string t922,.string t923,.int .i64 t924] 27 (0,0)))∧Aside0 (w'.heap[gb934]? = some (.cells #[.int .i64 ((rd_T41 t926 x46_2).f0),(.slice A933_1 ((rd_T41 t926 x46_2).f1).length c933_1),.string ((rd_T41 t926 x46_2).f2)] 41 (0,0)))∧Aside0 (Below w.heap.size w w'))
   case atStart=>exact⟨(0),eq_,H',⟨Nat.le_refl _⟩,⟨kdN_ (Kd.N_mono (Kd.N_far (Kd.N_far (Kd.N_far (Kd.N_mono HO_10.out (fun k_ hk=>(⟨hk,hk.2⟩:_∧k_≠gb934))) (fun _ hk=>hk.2) _) (fun _ hk=>hk.2) _) (fun _ hk=>hk.2) _) (fun _ hk=>⟨hk.1.1,hk.1.2⟩))⟩,⟨kdN_ (Kd.N_mono (Kd.N_far (Kd.N_far (Kd.N_far (Kd.N_mono HO_44.out (fun k_ hk=>(⟨hk,hk.2⟩:_∧k_≠gb934))) (fun _ hk=>hk.2) _) (fun _ hk=>hk.2) _) (fun _ hk=>hk.2) _) (fun _ hk=>⟨hk.1.1,hk.1.2⟩))⟩,⟨kdV_ (Kd.V_mono (Kd.V_far (Kd.V_far (Kd.V_far (Kd.V_mono HL933_1.out (fun k_ hk=>(⟨hk,hk.2⟩:_∧k_≠gb934))) (fun _ hk=>hk.2) _) (fun _ hk=>hk.2) _) (fun _ hk=>hk.2) _) (fun _ hk=>⟨hk.1.1.2,⟨hk.1.1.1,hk.1.2⟩⟩))⟩,⟨kdV_ (Kd.V_mono (Kd.V_far (Kd.V_far (Kd.V_far (Kd.V_mono HL933_1.out (fun k_ hk=>(⟨hk,hk.2⟩:_∧k_≠gb934))) (fun _ hk=>hk.2) _) (fun _ hk=>hk.2) _) (fun _ hk=>hk.2) _) (fun _ hk=>⟨hk.1.1.2,⟨hk.1.1.1,hk.1.2⟩⟩))⟩,⟨(bf_ BK925).out⟩,⟨(bp_ BK934).out⟩,(bl_ HB)⟩
   clear H'
   obtain⟨x53_3,rfl,HA,HK3,HO_10,HO_44,HO_51,HO_935001,BK925,BK934,HB⟩:=hrel
   cases gk with
   | zero=>exact absurd HA.out (by simp[florinlaw07_EvalHolds.l1])
   | succ k3=>?_
   have H:=HA.out
   clear HA
   simp only[florinlaw07_EvalHolds.l1] at H
   by_cases c32:x53_3<(((rd_T41 t926 x46_2).f1).length:Int)
   ·rw[if_pos c32] at H
    have c32b0:=decide_eq_true c32
    clear c32
    replace H:=ifn_ H
    obtain⟨c33,H⟩:=H
    have c33b0:decide (0≤x53_3)=true:=decide_eq_true c33
    clear c33
    replace H:=ifn_ H
    obtain⟨c34,H⟩:=H
    have c34b0:decide (x53_3<(((rd_T41 t926 x46_2).f1).length:Int))=true:=decide_eq_true c34
    clear c34
    have H':=am_ H
    clear H
    have p935:0≤(x53_3:Int):=od_
    have q935:x53_3<(((rd_T41 t926 x46_2).f1).length:Int):=od_
    obtain⟨ad935,A935_0,c935_0,e935,hx935_0,hl935_0,hi935_0⟩:=at_L7 (Kd.V_reads' HO_51.out).2.2 x53_3 p935 q935
    cases e935
    obtain⟨ce935,hce935,hMe935,hcc935⟩:=Kd.V_get HO_51.out [] x53_3 p935 (by first|exact q935|exact od_|(have e_:=(Kd.V_reads' HO_51.out).1;omega))
    obtain⟨ua935_0,uc935_0,rfl,ul935_0,ge935_0⟩:=Kd.FK_slice_open hMe935
    have hv935_0:=hcc935 0 _ rfl
    rw[Nat.add_zero,show((Kd.slice 53 k53)).sz=1 from rfl,Nat.mul_one] at hv935_0
    replace hv935_0:=Option.some.inj (hv935_0.symm.trans hx935_0)
    injection hv935_0 with hva_ hvn_ hvc_
    rw[hva_] at ge935_0
    rw[hvc_] at ul935_0
    have HL935_0:=am_ (show Kd.V k53 53 _ w.heap.size _ _ (rd_L7 ((rd_T41 t926 x46_2).f1) x53_3) from Kd.V_mk ul935_0 ge935_0)
    clear hva_ hvn_ hvc_ ge935_0 ul935_0
    clear hcc935 hce935
    have HR935_0:=am_ hi935_0
    have HC935_0:=am_ hl935_0
    clear hi935_0 hl935_0
    replace p935:=eq_true p935
    replace q935:=eq_true q935
    go_wp2
    go_loopg [59] k3 (fun kq v59 w'=>∃(x59_4:Int),v59= .int .i64 x59_4∧Aside0 (florinlaw07_EvalHolds.l2 kq t926 t926 (t926.length:Int) x46_2 ((rd_T41 t926 x46_2).f1) (((rd_T41 t926 x46_2).f1).length:Int) x53_3 (rd_L7 ((rd_T41 t926 x46_2).f1) x53_3) ((rd_L7 ((rd_T41 t926 x46_2).f1) x53_3).length:Int) x59_4 t922 t923 t924 ((rd_T41 t926 x46_2).f0) ((rd_T41 t926 x46_2).f1) ((rd_T41 t926 x46_2).f2)=some r)∧Aside0 (kq≤k3)∧Aside0 (Kd.N k41 41 w' w.heap.size (fun k_=>k_≠gb925∧k_≠gb934) (.slice (some ad933) t926.length co25) t926)∧Aside0 (Kd.N k41 41 w' w.heap.size (fun k_=>k_≠gb925∧k_≠gb934) (.slice (some ad933) t926.length co25) t926)∧Aside0 (Kd.V (Kd.slice 53 k53) 54 w' w.heap.size (fun k_=>some k_≠((.slice (some ad933) t926.length co25):Value).ownBlock∧k_≠gb925∧k_≠gb934) (.slice (some ad935) ((rd_T41 t926 x46_2).f1).length c933_1) ((rd_T41 t926 x46_2).f1))∧Aside0 (Kd.V k53 53 w' w.heap.size (fun k_=>some k_≠((.slice (some ad933) t926.length co25):Value).ownBlock∧k_≠gb925∧k_≠gb934) (.slice A935_0 (rd_L7 ((rd_T41 t926 x46_2).f1) x53_3).length c935_0) (rd_L7 ((rd_T41 t926 x46_2).f1) x53_3))∧Aside0 (Kd.V (Kd.slice 53 k53) 54 w' w.heap.size (fun k_=>some k_≠((.slice (some ad933) t926.length co25):Value).ownBlock∧k_≠gb925∧k_≠gb934) (.slice (some ad935) ((rd_T41 t926 x46_2).f1).length c933_1) ((rd_T41 t926 x46_2).f1))∧Aside0 (w'.heap[gb925]? = some (.cells #[.string t922,.string t923,.int .i64 t924] 27 (0,0)))∧Aside0 (w'.heap[gb934]? = some (.cells #[.int .i64 ((rd_T41 t926 x46_2).f0),(.slice (some ad935) ((rd_T41 t926 x46_2).f1).length c933_1),.string ((rd_T41 t926 x46_2).f2)] 41 (0,0)))∧Aside0 (Below w.heap.size w w'))
    case atStart=>exact⟨(0),eq_,H',⟨Nat.le_refl _⟩,⟨kdN_ HO_10.out⟩,⟨kdN_ HO_44.out⟩,⟨kdV_ HO_51.out⟩,⟨kdV_ HL935_0.out⟩,⟨kdV_ HO_935001.out⟩,(bk_ BK925),(bk_ BK934),(bl_ HB)⟩
    clear H'
    obtain⟨x59_4,rfl,HA,HK4,HO_10,HO_44,HO_51,HO_57,HO_935001,BK925,BK934,HB⟩:=hrel
    cases gk with
    | zero=>exact absurd HA.out (by simp[florinlaw07_EvalHolds.l2])
    | succ k4=>?_
    have H:=HA.out
    clear HA
    simp only[florinlaw07_EvalHolds.l2] at H
    by_cases c35:x59_4<((rd_L7 ((rd_T41 t926 x46_2).f1) x53_3).length:Int)
    ·rw[if_pos c35] at H
     have c35b0:=decide_eq_true c35
     clear c35
     replace H:=ifn_ H
     obtain⟨c36,H⟩:=H
     have c36b0:decide (0≤x59_4)=true:=decide_eq_true c36
     clear c36
     replace H:=ifn_ H
     obtain⟨c37,H⟩:=H
     have c37b0:decide (x59_4<((rd_L7 ((rd_T41 t926 x46_2).f1) x53_3).length:Int))=true:=decide_eq_true c37
     clear c37
     replace H:=Option.bind_eq_some_iff.mp H
     obtain⟨t938,A380,H⟩:=H
     have A38:=am_ A380
     clear A380
     replace H:=Option.bind_eq_some_iff.mp H
     obtain⟨t939,A390,H⟩:=H
     have A39:=am_ A390
     clear A390
     replace H:=ifp_ H
     obtain⟨c40,H⟩:=H
     have c40b0:(t938 !=t939)=false:=by simpa using c40
     (try (have c40b1:decide (t938=t939)=true:=by simpa using c40))
     (try (have c40b2:(t938==t939)=true:=by simpa using c40))
     (try (have c40b3:(t938=t939)=True:=eq_true (by simpa using c40)))
     clear c40
     have H':=am_ H
     clear H
     have p936:0≤(x59_4:Int):=od_
     have q936:x59_4<((rd_L7 ((rd_T41 t926 x46_2).f1) x53_3).length:Int):=od_
     obtain⟨ad936,A936_3,c936_3,e936,hx936_0,hx936_1,hx936_2,hx936_3,hl936_3,hi936_3⟩:=at_T53 (Kd.V_reads' HO_57.out).2.2 x59_4 p936 q936
     cases e936
     obtain⟨ce936,hce936,hMe936,hcc936⟩:=Kd.V_get HO_57.out z53 x59_4 p936 (by first|exact q936|exact od_|(have e_:=(Kd.V_reads' HO_57.out).1;omega))
     obtain⟨ua936_3,uc936_3,rfl,ul936_3,ge936_3⟩:=k53_openF hMe936
     have hv936_3:=hcc936 3 _ rfl
     rw[add_field _ _ 3 (by omega)] at hv936_3
     replace hv936_3:=Option.some.inj (hv936_3.symm.trans hx936_3)
     injection hv936_3 with hva_ hvn_ hvc_
     rw[hva_] at ge936_3
     rw[hvc_] at ul936_3
     have HL936_3:=am_ (show Kd.V k57 57 _ w.heap.size _ _ ((rd_T53 (rd_L7 ((rd_T41 t926 x46_2).f1) x53_3) x59_4).f3) from Kd.V_mk ul936_3 ge936_3)
     clear hva_ hvn_ hvc_ ge936_3 ul936_3
     clear hcc936 hce936
     have HR936_3:=am_ hi936_3
     have HC936_3:=am_ hl936_3
     clear hi936_3 hl936_3
     replace p936:=eq_true p936
     replace q936:=eq_true q936
     try go_wp2_with (first|((with_reducible refine gate_dst (N:=17) rfl ?_);(try (refine gate_guard (by rfl) ?_;dsimp only));refine be_ 17 #[.int .u8 0,.int .i64 0,.bool false,.slice none 0 0] 53 ?_;intro gb937 hg w41 hbox hb;have BK937:=am_ (hbox);have GW937:=sz_ HB hg;have GE937:=sz_ HB hg;have NB925_937:=na_ BK925 hg;have NB937_925:=nb_ BK925 hg;have NB934_937:=na_ BK934 hg;have NB937_934:=nb_ BK934 hg;replace HO_10:=am_ (Kd.N_below (Kd.N_elderB (krN_ HO_10) gb937 (Nat.le_of_eq hg.symm)) hb);replace HO_44:=am_ (Kd.N_below (Kd.N_elderB (krN_ HO_44) gb937 (Nat.le_of_eq hg.symm)) hb);replace HO_51:=am_ (Kd.V_below (Kd.V_elderB (krV_ HO_51) gb937 (Nat.le_of_eq hg.symm)) hb);replace HO_57:=am_ (Kd.V_below (Kd.V_elderB (krV_ HO_57) gb937 (Nat.le_of_eq hg.symm)) hb);replace HO_935001:=am_ (Kd.V_below (Kd.V_elderB (krV_ HO_935001) gb937 (Nat.le_of_eq hg.symm)) hb);replace HL936_3:=am_ (Kd.V_below (Kd.V_elderB (krV_ HL936_3) gb937 (Nat.le_of_eq hg.symm)) hb);replace BK925:=bb_ BK925 hb;replace BK934:=bb_ BK934 hb;replace HR936_3:=am_ (Kd.C_below (by repeat(first|(with_reducible exact HR936_3.out)|(with_reducible refine Kd.C_alloc ?_ _)|(with_reducible refine Kd.C_drewN ?_ _)|(with_reducible refine Kd.C_drew ?_)|exact HR936_3.out)) hb);replace HB:=am_ (below_step (bl_ HB).out hb);clear hb hbox hg;have hnb42:=NB937_925.out;have hnc42:=NB925_937.out;have hnb43:=NB937_934.out;have hnc43:=NB934_937.out;obtain⟨hcz44_0,hcz44_1,hcz44_2,hcz44_3,hfz44_0,hfz44_1,hfz44_2,hfz44_3⟩:=bo4_ BK937))
     obtain⟨w45,hWz1⟩:∃W_,W_=((((w41.setCell ⟨gb937,0,none⟩ (.int .u8 ((rd_T53 (rd_L7 ((rd_T41 t926 x46_2).f1) x53_3) x59_4).f0))).setCell ⟨gb937,1,none⟩ (.int .i64 ((rd_T53 (rd_L7 ((rd_T41 t926 x46_2).f1) x53_3) x59_4).f1))).setCell ⟨gb937,2,none⟩ (.bool ((rd_T53 (rd_L7 ((rd_T41 t926 x46_2).f1) x53_3) x59_4).f2))).setCell ⟨gb937,3,none⟩ (.slice A936_3 ((rd_T53 (rd_L7 ((rd_T41 t926 x46_2).f1) x53_3) x59_4).f3).length c936_3)):=⟨_,rfl⟩
     have n0_:Aside0 (Kd.N k41 41 w45 w.heap.size (fun k_=>k_≠gb925∧k_≠gb934∧k_≠gb937) (.slice (some ad933) t926.length co25) t926):=by rw[hWz1];exact⟨kdN_ (Kd.N_mono (Kd.N_far (Kd.N_far (Kd.N_far (Kd.N_far (Kd.N_mono HO_10.out (fun k_ hk=>(⟨hk,hk.2⟩:_∧k_≠gb937))) (fun _ hk=>hk.2) _) (fun _ hk=>hk.2) _) (fun _ hk=>hk.2) _) (fun _ hk=>hk.2) _) (fun _ hk=>⟨hk.1.1.1,⟨hk.1.1.2,hk.1.2⟩⟩))⟩
     have n1_:Aside0 (Kd.N k41 41 w45 w.heap.size (fun k_=>k_≠gb925∧k_≠gb934∧k_≠gb937) (.slice (some ad933) t926.length co25) t926):=by rw[hWz1];exact⟨kdN_ (Kd.N_mono (Kd.N_far (Kd.N_far (Kd.N_far (Kd.N_far (Kd.N_mono HO_44.out (fun k_ hk=>(⟨hk,hk.2⟩:_∧k_≠gb937))) (fun _ hk=>hk.2) _) (fun _ hk=>hk.2) _) (fun _ hk=>hk.2) _) (fun _ hk=>hk.2) _) (fun _ hk=>⟨hk.1.1.1,⟨hk.1.1.2,hk.1.2⟩⟩))⟩
     have n2_:Aside0 (Kd.V (Kd.slice 53 k53) 54 w45 w.heap.size (fun k_=>some k_≠(.slice (some ad933) t926.length co25:Value).ownBlock∧k_≠gb925∧k_≠gb934∧k_≠gb937) (.slice (some ad935) ((rd_T41 t926 x46_2).f1).length c933_1) ((rd_T41 t926 x46_2).f1)):=by rw[hWz1];exact⟨kdV_ (Kd.V_mono (Kd.V_far (Kd.V_far (Kd.V_far (Kd.V_far (Kd.V_mono HO_51.out (fun k_ hk=>(⟨hk,hk.2⟩:_∧k_≠gb937))) (fun _ hk=>hk.2) _) (fun _ hk=>hk.2) _) (fun _ hk=>hk.2) _) (fun _ hk=>hk.2) _) (fun _ hk=>⟨hk.1.1.1,⟨hk.1.1.2.1,⟨hk.1.1.2.2,hk.1.2⟩⟩⟩))⟩
     have n3_:Aside0 (Kd.V k53 53 w45 w.heap.size (fun k_=>some k_≠(.slice (some ad933) t926.length co25:Value).ownBlock∧k_≠gb925∧k_≠gb934∧k_≠gb937) (.slice (some ad936) (rd_L7 ((rd_T41 t926 x46_2).f1) x53_3).length c935_0) (rd_L7 ((rd_T41 t926 x46_2).f1) x53_3)):=by rw[hWz1];exact⟨kdV_ (Kd.V_mono (Kd.V_far (Kd.V_far (Kd.V_far (Kd.V_far (Kd.V_mono HO_57.out (fun k_ hk=>(⟨hk,hk.2⟩:_∧k_≠gb937))) (fun _ hk=>hk.2) _) (fun _ hk=>hk.2) _) (fun _ hk=>hk.2) _) (fun _ hk=>hk.2) _) (fun _ hk=>⟨hk.1.1.1,⟨hk.1.1.2.1,⟨hk.1.1.2.2,hk.1.2⟩⟩⟩))⟩
     have n4_:Aside0 (Kd.V (Kd.slice 53 k53) 54 w45 w.heap.size (fun k_=>some k_≠(.slice (some ad933) t926.length co25:Value).ownBlock∧k_≠gb925∧k_≠gb934∧k_≠gb937) (.slice (some ad935) ((rd_T41 t926 x46_2).f1).length c933_1) ((rd_T41 t926 x46_2).f1)):=by rw[hWz1];exact⟨kdV_ (Kd.V_mono (Kd.V_far (Kd.V_far (Kd.V_far (Kd.V_far (Kd.V_mono HO_935001.out (fun k_ hk=>(⟨hk,hk.2⟩:_∧k_≠gb937))) (fun _ hk=>hk.2) _) (fun _ hk=>hk.2) _) (fun _ hk=>hk.2) _) (fun _ hk=>hk.2) _) (fun _ hk=>⟨hk.1.1.1,⟨hk.1.1.2.1,⟨hk.1.1.2.2,hk.1.2⟩⟩⟩))⟩
     have n5_:Aside0 (Kd.V k57 57 w45 w.heap.size (fun k_=>some k_≠(.slice (some ad933) t926.length co25:Value).ownBlock∧k_≠gb925∧k_≠gb934∧k_≠gb937) (.slice A936_3 ((rd_T53 (rd_L7 ((rd_T41 t926 x46_2).f1) x53_3) x59_4).f3).length c936_3) ((rd_T53 (rd_L7 ((rd_T41 t926 x46_2).f1) x53_3) x59_4).f3)):=by rw[hWz1];exact⟨kdV_ (Kd.V_mono (Kd.V_far (Kd.V_far (Kd.V_far (Kd.V_far (Kd.V_mono HL936_3.out (fun k_ hk=>(⟨hk,hk.2⟩:_∧k_≠gb937))) (fun _ hk=>hk.2) _) (fun _ hk=>hk.2) _) (fun _ hk=>hk.2) _) (fun _ hk=>hk.2) _) (fun _ hk=>⟨hk.1.1.1,⟨hk.1.1.2.1,⟨hk.1.1.2.2,hk.1.2⟩⟩⟩))⟩
     have n6_:=wh_ hWz1 (bf_ BK925)
     have n7_:=wh_ hWz1 (bf_ BK934)
     have n8_:Aside0 (w45.heap[gb937]? = some (.cells #[.int .u8 ((rd_T53 (rd_L7 ((rd_T41 t926 x46_2).f1) x53_3) x59_4).f0),.int .i64 ((rd_T53 (rd_L7 ((rd_T41 t926 x46_2).f1) x53_3) x59_4).f1),.bool ((rd_T53 (rd_L7 ((rd_T41 t926 x46_2).f1) x53_3) x59_4).f2),.slice A936_3 ((rd_T53 (rd_L7 ((rd_T41 t926 x46_2).f1) x53_3) x59_4).f3).length c936_3] 53 (0,0))):=by rw[hWz1];exact⟨(bp_ BK937).out⟩
     have n9_:=wb_ hWz1 (bl_ HB)
     (try clear HO_10)
     (try clear HO_44)
     (try clear HO_51)
     (try clear HO_57)
     (try clear HO_935001)
     (try clear HL936_3)
     (try clear BK925)
     (try clear BK934)
     (try clear BK937)
     (try clear HB)
     rw[← hWz1]
     clear hWz1
     revert n0_ n1_ n2_ n3_ n4_ n5_ n6_ n7_ n8_ n9_
     intro HO_10 HO_44 HO_51 HO_57 HO_935001 HL936_3 BK925 BK934 BK937 HB
     replace HO_10:=am_ (Kd.N_drew HO_10.out)
     replace HO_44:=am_ (Kd.N_drew HO_44.out)
     replace HO_51:=am_ (Kd.V_drew HO_51.out)
     replace HO_57:=am_ (Kd.V_drew HO_57.out)
     replace HO_935001:=am_ (Kd.V_drew HO_935001.out)
     replace HL936_3:=am_ (Kd.V_drew HL936_3.out)
     replace BK925:=am_ (blk_drew BK925.out)
     replace BK934:=am_ (blk_drew BK934.out)
     replace BK937:=am_ (blk_drew BK937.out)
     replace HB:=am_ (below_drew1 HB.out)
     refine start_ (n:=7) (S:=fun w'=>w'.cell? ⟨gb937,0,none⟩=some (.int .u8 ((rd_T53 (rd_L7 ((rd_T41 t926 x46_2).f1) x53_3) x59_4).f0))∧w'.cell? ⟨gb937,1,none⟩=some (.int .i64 ((rd_T53 (rd_L7 ((rd_T41 t926 x46_2).f1) x53_3) x59_4).f1))∧w'.cell? ⟨gb937,2,none⟩=some (.bool ((rd_T53 (rd_L7 ((rd_T41 t926 x46_2).f1) x53_3) x59_4).f2))∧w'.cell? ⟨gb937,3,none⟩=some (.slice A936_3 ((rd_T53 (rd_L7 ((rd_T41 t926 x46_2).f1) x53_3) x59_4).f3).length c936_3)∧w'.cell? ⟨gb925,0,none⟩=some (.string t922)∧w'.cell? ⟨gb925,1,none⟩=some (.string t923)∧w'.cell? ⟨gb925,2,none⟩=some (.int .i64 t924)) (ds:=[]) #[false,false,false,false,false,false,false] (by kernel_rfl) rfl rfl ⟨bc_ BK937 0,bc_ BK937 1,bc_ BK937 2,bc_ BK937 3,bc_ BK925 0,bc_ BK925 1,bc_ BK925 2⟩ (fun hHeld=>?_)
     generalize w45.drew=w46 at HO_10 HO_44 HO_51 HO_57 HO_935001 HL936_3 BK925 BK934 BK937 HB hHeld ⊢
     refine tk0_ 0 63 #[true,false,false,false,false,false,false] hHeld rfl (by rintro w' ⟨s0,s1,s2,s3,s4,s5,s6⟩;go_simp;with_reducible rfl) ?_
     refine tk0_ 1 64 #[true,true,false,false,false,false,false] hHeld rfl (by rintro w' ⟨s0,s1,s2,s3,s4,s5,s6⟩;go_simp;with_reducible rfl) ?_
     refine tk0_ 3 66 #[true,true,false,true,false,false,false] hHeld rfl (by rintro w' ⟨s0,s1,s2,s3,s4,s5,s6⟩;go_simp;with_reducible rfl) ?_
     refine tk0_ 4 67 #[true,true,false,true,true,false,false] hHeld rfl (by rintro w' ⟨s0,s1,s2,s3,s4,s5,s6⟩;go_simp;with_reducible rfl) ?_
     refine one_ (i:=2) (N:=some 65) #[true,true,true,true,true,false,false] rfl rfl (by kernel_rfl) (by decide) (fun K hK=>?_)
     refine gs_ Tryz.func15 #[.agg #[.int .u8 ((rd_T53 (rd_L7 ((rd_T41 t926 x46_2).f1) x53_3) x59_4).f0),.int .i64 ((rd_T53 (rd_L7 ((rd_T41 t926 x46_2).f1) x53_3) x59_4).f1),.bool ((rd_T53 (rd_L7 ((rd_T41 t926 x46_2).f1) x53_3) x59_4).f2),.slice A936_3 ((rd_T53 (rd_L7 ((rd_T41 t926 x46_2).f1) x53_3) x59_4).f3).length c936_3],.agg #[.string t922,.string t923,.int .i64 t924]] ?_
     with_reducible refine(eval_Holds.calls k4 ((rd_T53 (rd_L7 ((rd_T41 t926 x46_2).f1) x53_3) x59_4).f0) ((rd_T53 (rd_L7 ((rd_T41 t926 x46_2).f1) x53_3) x59_4).f1) ((rd_T53 (rd_L7 ((rd_T41 t926 x46_2).f1) x53_3) x59_4).f2) _ _ ((rd_T53 (rd_L7 ((rd_T41 t926 x46_2).f1) x53_3) x59_4).f3) t922 t923 t924 t938 _ ?side1 ?side2 A38.out).mono ?_
     (case side1=>repeat(first|exact((Kd.V_reads' (krV_ HL936_3)).2.2)|(with_reducible refine Kd.C_alloc ?_ _)|(with_reducible refine Kd.C_drewN ?_ _)|(with_reducible refine Kd.C_drew ?_)))
     (case side2=>exact HC936_3.out)
     rintro e w47 ⟨rfl,hb⟩
     refine⟨_,rfl,?_⟩
     replace HO_10:=am_ (Kd.N_below (krN_ HO_10) hb)
     replace HO_44:=am_ (Kd.N_below (krN_ HO_44) hb)
     replace HO_51:=am_ (Kd.V_below (krV_ HO_51) hb)
     replace HO_57:=am_ (Kd.V_below (krV_ HO_57) hb)
     replace HO_935001:=am_ (Kd.V_below (krV_ HO_935001) hb)
     replace HL936_3:=am_ (Kd.V_below (krV_ HL936_3) hb)
     replace BK925:=bb_ BK925 hb
     replace BK934:=bb_ BK934 hb
     replace BK937:=bb_ BK937 hb
     replace HB:=am_ (below_step (bl_ HB).out hb)
     (try clear hb)
     (try clear hb2)
     (try clear hk)
     (try clear hi)
     refine hK.out _ _ ⟨bc_ BK937 0,bc_ BK937 1,bc_ BK937 2,bc_ BK937 3,bc_ BK925 0,bc_ BK925 1,bc_ BK925 2⟩ (fun hHeld=>?_)
     clear hK K
     refine nm_ 65 ?_
     refine one_ (i:=5) (N:=some 68) #[true,true,true,true,true,true,false] rfl rfl (by kernel_rfl) (by decide) (fun K hK=>?_)
     refine gs_ Tryz.func20 #[.agg #[.int .u8 ((rd_T53 (rd_L7 ((rd_T41 t926 x46_2).f1) x53_3) x59_4).f0),.int .i64 ((rd_T53 (rd_L7 ((rd_T41 t926 x46_2).f1) x53_3) x59_4).f1),.bool ((rd_T53 (rd_L7 ((rd_T41 t926 x46_2).f1) x53_3) x59_4).f2),.slice A936_3 ((rd_T53 (rd_L7 ((rd_T41 t926 x46_2).f1) x53_3) x59_4).f3).length c936_3],.agg #[.string t922,.string t923,.int .i64 t924]] ?_
     with_reducible refine(florinlaw07_Holds.calls k4 ((rd_T53 (rd_L7 ((rd_T41 t926 x46_2).f1) x53_3) x59_4).f0) ((rd_T53 (rd_L7 ((rd_T41 t926 x46_2).f1) x53_3) x59_4).f1) ((rd_T53 (rd_L7 ((rd_T41 t926 x46_2).f1) x53_3) x59_4).f2) _ _ ((rd_T53 (rd_L7 ((rd_T41 t926 x46_2).f1) x53_3) x59_4).f3) t922 t923 t924 t939 _ ?side1 ?side2 A39.out).mono ?_
     (case side1=>repeat(first|exact((Kd.V_reads' (krV_ HL936_3)).2.2)|(with_reducible refine Kd.C_alloc ?_ _)|(with_reducible refine Kd.C_drewN ?_ _)|(with_reducible refine Kd.C_drew ?_)))
     (case side2=>exact HC936_3.out)
     rintro e w48 ⟨rfl,hb⟩
     refine⟨_,rfl,?_⟩
     replace HO_10:=am_ (Kd.N_below (krN_ HO_10) hb)
     replace HO_44:=am_ (Kd.N_below (krN_ HO_44) hb)
     replace HO_51:=am_ (Kd.V_below (krV_ HO_51) hb)
     replace HO_57:=am_ (Kd.V_below (krV_ HO_57) hb)
     replace HO_935001:=am_ (Kd.V_below (krV_ HO_935001) hb)
     replace HL936_3:=am_ (Kd.V_below (krV_ HL936_3) hb)
     replace BK925:=bb_ BK925 hb
     replace BK934:=bb_ BK934 hb
     replace BK937:=bb_ BK937 hb
     replace HB:=am_ (below_step (bl_ HB).out hb)
     (try clear hb)
     (try clear hb2)
     (try clear hk)
     (try clear hi)
     refine hK.out _ _ ⟨bc_ BK937 0,bc_ BK937 1,bc_ BK937 2,bc_ BK937 3,bc_ BK925 0,bc_ BK925 1,bc_ BK925 2⟩ (fun hHeld=>?_)
     clear hK K
     refine nm_ 68 ?_
     refine pu0_ 6 69 #[true,true,true,true,true,true,true] ?_
     refine done_ (by kernel_rfl) ?_
     try go_wp2
     go_roundg k4
     case measure=>have:=HJ6.out;have:=HK2.out;have:=HK3.out;have:=HK4.out;omega
     case rel=>exact⟨(wrap64 (x59_4+1)),eq_,H',⟨by have:=HJ6.out;have:=HK2.out;have:=HK3.out;have:=HK4.out;omega⟩,⟨kdN_ (Kd.N_mono HO_10.out (fun _ hk=>⟨hk.1,hk.2.1⟩))⟩,⟨kdN_ (Kd.N_mono HO_44.out (fun _ hk=>⟨hk.1,hk.2.1⟩))⟩,⟨kdV_ (Kd.V_mono HO_51.out (fun _ hk=>⟨hk.1,⟨hk.2.1,hk.2.2.1⟩⟩))⟩,⟨kdV_ (Kd.V_mono HO_57.out (fun _ hk=>⟨hk.1,⟨hk.2.1,hk.2.2.1⟩⟩))⟩,⟨kdV_ (Kd.V_mono HO_935001.out (fun _ hk=>⟨hk.1,⟨hk.2.1,hk.2.2.1⟩⟩))⟩,(bk_ BK925),(bk_ BK934),(bl_ HB)⟩
    rw[if_neg c35] at H
    have c35b0:=decide_eq_false c35
    clear c35
    have H':=am_ H
    clear H
    go_wp2
    go_roundg k4
    case measure=>have:=HJ6.out;have:=HK2.out;have:=HK3.out;have:=HK4.out;omega
    case rel=>exact⟨(wrap64 (x53_3+1)),eq_,H',⟨by have:=HJ6.out;have:=HK2.out;have:=HK3.out;have:=HK4.out;omega⟩,⟨kdN_ HO_10.out⟩,⟨kdN_ HO_44.out⟩,⟨kdV_ HO_51.out⟩,⟨kdV_ HO_935001.out⟩,(bk_ BK925),(bk_ BK934),(bl_ HB)⟩
   rw[if_neg c32] at H
   have c32b0:=decide_eq_false c32
   clear c32
   replace H:=Option.bind_eq_some_iff.mp H
   obtain⟨t940,A490,H⟩:=H
   have A49:=am_ A490
   clear A490
   replace H:=Option.bind_eq_some_iff.mp H
   obtain⟨t941,A500,H⟩:=H
   have A50:=am_ A500
   clear A500
   replace H:=ifp_ H
   obtain⟨c51,H⟩:=H
   have c51b0:(t940 !=t941)=false:=by simpa using c51
   (try (have c51b1:decide (t940=t941)=true:=by simpa using c51))
   (try (have c51b2:(t940==t941)=true:=by simpa using c51))
   (try (have c51b3:(t940=t941)=True:=eq_true (by simpa using c51)))
   clear c51
   have H':=am_ H
   clear H
   try go_wp2
   replace HO_10:=am_ (Kd.N_drew HO_10.out)
   replace HO_44:=am_ (Kd.N_drew HO_44.out)
   replace HO_51:=am_ (Kd.V_drew HO_51.out)
   replace HO_935001:=am_ (Kd.V_drew HO_935001.out)
   replace BK925:=am_ (blk_drew BK925.out)
   replace BK934:=am_ (blk_drew BK934.out)
   replace HB:=am_ (below_drew1 HB.out)
   refine start_ (n:=7) (S:=fun w'=>w'.cell? ⟨gb934,0,none⟩=some (.int .i64 ((rd_T41 t926 x46_2).f0))∧w'.cell? ⟨gb934,1,none⟩=some (.slice A933_1 ((rd_T41 t926 x46_2).f1).length c933_1)∧w'.cell? ⟨gb934,2,none⟩=some (.string ((rd_T41 t926 x46_2).f2))∧w'.cell? ⟨gb925,0,none⟩=some (.string t922)∧w'.cell? ⟨gb925,1,none⟩=some (.string t923)∧w'.cell? ⟨gb925,2,none⟩=some (.int .i64 t924)) (ds:=[]) #[false,false,false,false,false,false,false] (by kernel_rfl) rfl rfl ⟨bc_ BK934 0,bc_ BK934 1,bc_ BK934 2,bc_ BK925 0,bc_ BK925 1,bc_ BK925 2⟩ (fun hHeld=>?_)
   generalize wr.drew=w52 at HO_10 HO_44 HO_51 HO_935001 BK925 BK934 HB hHeld ⊢
   refine tk0_ 0 72 #[true,false,false,false,false,false,false] hHeld rfl (by rintro w' ⟨s0,s1,s2,s3,s4,s5⟩;go_simp;with_reducible rfl) ?_
   refine tk0_ 1 73 #[true,true,false,false,false,false,false] hHeld rfl (by rintro w' ⟨s0,s1,s2,s3,s4,s5⟩;go_simp;with_reducible rfl) ?_
   refine tk0_ 3 75 #[true,true,false,true,false,false,false] hHeld rfl (by rintro w' ⟨s0,s1,s2,s3,s4,s5⟩;go_simp;with_reducible rfl) ?_
   refine tk0_ 4 76 #[true,true,false,true,true,false,false] hHeld rfl (by rintro w' ⟨s0,s1,s2,s3,s4,s5⟩;go_simp;with_reducible rfl) ?_
   refine one_ (i:=2) (N:=some 74) #[true,true,true,true,true,false,false] rfl rfl (by kernel_rfl) (by decide) (fun K hK=>?_)
   refine gs_ Tryz.func14 #[.agg #[.int .i64 ((rd_T41 t926 x46_2).f0),.slice A933_1 ((rd_T41 t926 x46_2).f1).length c933_1,.string ((rd_T41 t926 x46_2).f2)],.agg #[.string t922,.string t923,.int .i64 t924]] ?_
   with_reducible refine(eval_Meets.calls _ _ _ _ _ _ _ _ _ _ _ ?side1 ?side2 A49.out).mono ?_
   (case side1=>repeat(first|exact(Kd.V_reads' HO_935001.out).2.2|(with_reducible refine Kd.C_alloc ?_ _)|(with_reducible refine Kd.C_drewN ?_ _)|(with_reducible refine Kd.C_drew ?_)))
   (case side2=>exact(Kd.V_reads' HO_935001.out).2.1)
   rintro e w53 ⟨rfl,hb⟩
   refine⟨_,rfl,?_⟩
   replace HO_10:=am_ (Kd.N_below (krN_ HO_10) hb)
   replace HO_44:=am_ (Kd.N_below (krN_ HO_44) hb)
   replace HO_51:=am_ (Kd.V_below (krV_ HO_51) hb)
   replace HO_935001:=am_ (Kd.V_below (krV_ HO_935001) hb)
   replace BK925:=bb_ BK925 hb
   replace BK934:=bb_ BK934 hb
   replace HB:=am_ (below_step (bl_ HB).out hb)
   (try clear hb)
   (try clear hb2)
   (try clear hk)
   (try clear hi)
   refine hK.out _ _ ⟨bc_ BK934 0,bc_ BK934 1,bc_ BK934 2,bc_ BK925 0,bc_ BK925 1,bc_ BK925 2⟩ (fun hHeld=>?_)
   clear hK K
   refine nm_ 74 ?_
   refine one_ (i:=5) (N:=some 77) #[true,true,true,true,true,true,false] rfl rfl (by kernel_rfl) (by decide) (fun K hK=>?_)
   refine gs_ Tryz.func21 #[.agg #[.int .i64 ((rd_T41 t926 x46_2).f0),.slice A933_1 ((rd_T41 t926 x46_2).f1).length c933_1,.string ((rd_T41 t926 x46_2).f2)],.agg #[.string t922,.string t923,.int .i64 t924]] ?_
   with_reducible refine(florinlaw07_Meets.calls _ _ _ _ _ _ _ _ _ _ _ ?side1 ?side2 A50.out).mono ?_
   (case side1=>repeat(first|exact(Kd.V_reads' HO_935001.out).2.2|(with_reducible refine Kd.C_alloc ?_ _)|(with_reducible refine Kd.C_drewN ?_ _)|(with_reducible refine Kd.C_drew ?_)))
   (case side2=>exact(Kd.V_reads' HO_935001.out).2.1)
   rintro e w54 ⟨rfl,hb⟩
   refine⟨_,rfl,?_⟩
   replace HO_10:=am_ (Kd.N_below (krN_ HO_10) hb)
   replace HO_44:=am_ (Kd.N_below (krN_ HO_44) hb)
   replace HO_51:=am_ (Kd.V_below (krV_ HO_51) hb)
   replace HO_935001:=am_ (Kd.V_below (krV_ HO_935001) hb)
   replace BK925:=bb_ BK925 hb
   replace BK934:=bb_ BK934 hb
   replace HB:=am_ (below_step (bl_ HB).out hb)
   (try clear hb)
   (try clear hb2)
   (try clear hk)
   (try clear hi)
   refine hK.out _ _ ⟨bc_ BK934 0,bc_ BK934 1,bc_ BK934 2,bc_ BK925 0,bc_ BK925 1,bc_ BK925 2⟩ (fun hHeld=>?_)
   clear hK K
   refine nm_ 77 ?_
   refine pu0_ 6 78 #[true,true,true,true,true,true,true] ?_
   refine done_ (by kernel_rfl) ?_
   try go_wp2
   go_roundg k3
   case measure=>have:=HJ6.out;have:=HK2.out;have:=HK3.out;omega
   case rel=>exact⟨(wrap64 (x46_2+1)),eq_,H',⟨by have:=HJ6.out;have:=HK2.out;have:=HK3.out;omega⟩,⟨kdN_ (Kd.N_mono HO_10.out (fun _ hk=>hk.1))⟩,⟨kdN_ (Kd.N_mono HO_44.out (fun _ hk=>hk.1))⟩,(bk_ BK925),(bl_ HB)⟩
  rw[if_neg c26] at H
  have c26b0:=decide_eq_false c26
  clear c26
  replace H:=Option.bind_eq_some_iff.mp H
  obtain⟨t930,A550,H⟩:=H
  have A55:=am_ A550
  clear A550
  replace H:=Option.bind_eq_some_iff.mp H
  obtain⟨t931,A560,H⟩:=H
  have A56:=am_ A560
  clear A560
  by_cases c57:t930=t931
  ·rw[if_pos c57] at H
   have c57b0:(t930==t931)=true:=beq_iff_eq.mpr c57
   have c57b1:(t930 !=t931)=false:=bne_eq_false_iff_eq.mpr c57
   clear c57
   replace H:=Option.bind_eq_some_iff.mp H
   obtain⟨t932,A580,H⟩:=H
   have A58:=am_ A580
   clear A580
   obtain rfl:=Option.some.inj H
   try go_wp2
   replace HO_10:=am_ (Kd.N_drew HO_10.out)
   replace HO_44:=am_ (Kd.N_drew HO_44.out)
   replace BK925:=am_ (blk_drew BK925.out)
   replace HB:=am_ (below_drew1 HB.out)
   refine start_ (n:=13) (S:=fun w'=>w'.cell? ⟨gb925,0,none⟩=some (.string t922)∧w'.cell? ⟨gb925,1,none⟩=some (.string t923)∧w'.cell? ⟨gb925,2,none⟩=some (.int .i64 t924)) (ds:=[]) #[false,false,false,false,false,false,false,false,false,false,false,false,false] (by kernel_rfl) rfl rfl ⟨bc_ BK925 0,bc_ BK925 1,bc_ BK925 2⟩ (fun hHeld=>?_);refine with_tabW florinlaw07_EvalHolds.tab23 florinlaw07_EvalHolds.bits23 (fun HT_ HW_=>?_)
   generalize wr.drew=w59 at HO_10 HO_44 BK925 HB hHeld ⊢
   refine pu_ 0 80 (bm_ 13 1) HT_ ?_
   refine pu_ 3 83 (bm_ 13 9) HT_ ?_
   refine tk_ 1 81 (bm_ 13 11) HT_ HW_ hHeld rfl (by rintro w' ⟨s0,s1,s2⟩;go_simp;with_reducible rfl) ?_
   refine tk_ 4 84 (bm_ 13 27) HT_ HW_ hHeld rfl (by rintro w' ⟨s0,s1,s2⟩;go_simp;with_reducible rfl) ?_
   refine one_ (i:=2) (N:=some 82) (bm_ 13 31) rfl rfl (one_of HT_.out (by kernel_rfl)) (by decide) (fun K hK=>?_)
   refine gs_ Tryz.func13 #[.slice Ao25 t926.length co25,.agg #[.string t922,.string t923,.int .i64 t924]] ?_
   with_reducible refine(eval_Pick.calls _ _ _ _ _ _ _ _ _ ?side1 ?side2 A55.out).mono ?_
   (case side1=>repeat(first|exact(Kd.N_reads' HO_10.out).2.2|(with_reducible refine Kd.C_alloc ?_ _)|(with_reducible refine Kd.C_drewN ?_ _)|(with_reducible refine Kd.C_drew ?_)))
   (case side2=>exact(Kd.N_reads' HO_10.out).2.1)
   rintro e w60 ⟨rfl,hb⟩
   refine⟨_,rfl,?_⟩
   replace HO_10:=am_ (Kd.N_below (krN_ HO_10) hb)
   replace HO_44:=am_ (Kd.N_below (krN_ HO_44) hb)
   replace BK925:=bb_ BK925 hb
   replace HB:=am_ (below_step (bl_ HB).out hb)
   (try clear hb)
   (try clear hb2)
   (try clear hk)
   (try clear hi)
   refine hK.out _ _ ⟨bc_ BK925 0,bc_ BK925 1,bc_ BK925 2⟩ (fun hHeld=>?_)
   clear hK K
   refine nm_ 82 ?_
   refine one_ (i:=5) (N:=some 85) (bm_ 13 63) rfl rfl (one_of HT_.out (by kernel_rfl)) (by decide) (fun K hK=>?_)
   refine gs_ Tryz.func22 #[.slice Ao25 t926.length co25,.agg #[.string t922,.string t923,.int .i64 t924]] ?_
   with_reducible refine(florinlaw07_Pick.calls _ _ _ _ _ _ _ _ _ ?side1 ?side2 A56.out).mono ?_
   (case side1=>repeat(first|exact(Kd.N_reads' HO_10.out).2.2|(with_reducible refine Kd.C_alloc ?_ _)|(with_reducible refine Kd.C_drewN ?_ _)|(with_reducible refine Kd.C_drew ?_)))
   (case side2=>exact(Kd.N_reads' HO_10.out).2.1)
   rintro e w61 ⟨rfl,hb⟩
   refine⟨_,rfl,?_⟩
   replace HO_10:=am_ (Kd.N_below (krN_ HO_10) hb)
   replace HO_44:=am_ (Kd.N_below (krN_ HO_44) hb)
   replace BK925:=bb_ BK925 hb
   replace HB:=am_ (below_step (bl_ HB).out hb)
   (try clear hb)
   (try clear hb2)
   (try clear hk)
   (try clear hi)
   refine hK.out _ _ ⟨bc_ BK925 0,bc_ BK925 1,bc_ BK925 2⟩ (fun hHeld=>?_)
   clear hK K
   refine nm_ 85 ?_
   refine pu_ 6 86 (bm_ 13 127) HT_ ?_
   refine pu_ 7 87 (bm_ 13 255) HT_ ?_
   refine tk_ 8 88 (bm_ 13 511) HT_ HW_ hHeld rfl (by rintro w' ⟨s0,s1,s2⟩;go_simp;with_reducible rfl) ?_
   refine one_ (i:=9) (N:=some 89) (bm_ 13 1023) rfl rfl (one_of HT_.out (by kernel_rfl)) (by decide) (fun K hK=>?_)
   refine gs_ Tryz.func13 #[.slice none 0 0,.agg #[.string t922,.string t923,.int .i64 t924]] ?_
   refine(eval_Pick.calls _ _ _ _ _ _ _ _ _ ?side1 ?side2 A58.out).mono ?_
   (case side1=>exact Kd.C_nil _ _)
   (case side2=>exact Nat.le_refl _)
   rintro e w62 ⟨rfl,hb⟩
   refine⟨_,rfl,?_⟩
   replace HO_10:=am_ (Kd.N_below (krN_ HO_10) hb)
   replace HO_44:=am_ (Kd.N_below (krN_ HO_44) hb)
   replace BK925:=bb_ BK925 hb
   replace HB:=am_ (below_step (bl_ HB).out hb)
   (try clear hb)
   (try clear hb2)
   (try clear hk)
   (try clear hi)
   refine hK.out _ _ ⟨bc_ BK925 0,bc_ BK925 1,bc_ BK925 2⟩ (fun hHeld=>?_)
   clear hK K
   refine nm_ 89 ?_
   refine pu_ 10 90 (bm_ 13 2047) HT_ ?_
   refine pu_ 11 91 (bm_ 13 4095) HT_ ?_
   refine pu_ 12 8 (bm_ 13 8191) HT_ ?_
   refine done_ (done_of HT_.out (by kernel_rfl)) ?_
   try go_wp2
   go_ret
   exact⟨ew_,(bl_ HB).out⟩
  rw[if_neg c57] at H
  have c57b0:(t930==t931)=false:=beq_eq_false_iff_ne.mpr c57
  have c57b1:(t930 !=t931)=true:=bne_iff_ne.mpr c57
  exact absurd H (by simp)
 replace c6:=Bool.eq_false_iff.mpr c6
 subst c6
 rw[if_neg (show ¬(false=true) by decide)] at H
 exact absurd H (by simp)

end Go.Proofs.YtadagjgkanlmdaaGreatDoor.P
