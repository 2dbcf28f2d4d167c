-- written by a program of this session (wip/p2)
import Derived.Test.YtcokjmnkieakiaaGreatDoorPx0
import Derived.Test.YtcokjmnkieakiaaGreatDoorPx4
import Derived.Test.YtcokjmnkieakiaaGreatDoorPx5
import Derived.Test.YtcokjmnkieakiaaGreatDoorPx6
import Derived.Test.YtcokjmnkieakiaaGreatDoorPx10
import Derived.Test.YtcokjmnkieakiaaGreatDoorPx12
namespace Go.Proofs.YtcokjmnkieakiaaGreatDoor.P
open Go.RowKit Go.Proofs.YtcokjmnkieakiaaGreatDoorW.PrintWords Go.Proofs.YtcokjmnkieakiaaGreatDoorW.PrintLast Go.Proofs.YtcokjmnkieakiaaGreatDoorW.PrintMore
attribute [local go_sem] max2_int min2_int max_two min_two max_three min_three max_four min_four   -- for this text's walks alone
set_option linter.unusedVariables false
set_option linter.unusedSimpArgs false

/-! ### florinlaw06_RuleGrammar: function 3 -/
def florinlaw06_RuleGrammar.f (k:Nat) (l0:List (S46)) (a1:Int):Option (Bool):=(florinlaw06_head.f k).bind fun t696=>(if t696=true then ((florinlaw06_Few.f k l0).bind fun t697=>(if t697=true then ((florinlaw06_All.f k l0 a1).bind fun bt698=>(if (bt698.2.size:Int)>4000 then (some true) else ((rule_Parse.f k bt698.2).bind fun bt702=>(if bt702.2.1=0 then (if bt702.2.2=0 then ((florinlaw06_Same.f k bt702.1 bt698.1).bind fun t707=>(some t707)) else (none)) else (none))))) else (some true))) else (none))
set_option maxHeartbeats 64000000 in
set_option maxRecDepth 100000 in
theorem florinlaw06_RuleGrammar.calls (k:Nat) (A0:Option Addr) (c0:Nat) (l0:List (S46)) (a1:Int) (r:Bool) (w:World) (hr0:Kd.C k46 w A0 l0.length l0) (hc0:l0.length≤c0) (h:florinlaw06_RuleGrammar.f k l0 a1=some r) (ht:Lib.TabIs Tryz.prog w "internal/strconv.uint64pow10" .u64 Lib.pow10Tab:=by first|assumption|exact tb_ (by assumption) (bl_ (by assumption)).out) :
  Calls Tryz.prog 3 #[.slice A0 l0.length c0,.int .i64 a1] w fun e w'=>e= .returned (.bool r)∧Below w.heap.size w w':=by
 have HR0:=Aside0.mk hr0
 have HC0:=Aside0.mk hc0
 clear hr0 hc0
 have HB:=Aside0.mk (Below.refl w.heap.size w)
 have H:((florinlaw06_head.f k).bind fun t696=>(if t696=true then ((florinlaw06_Few.f k l0).bind fun t697=>(if t697=true then ((florinlaw06_All.f k l0 a1).bind fun bt698=>(if (bt698.2.size:Int)>4000 then (some true) else ((rule_Parse.f k bt698.2).bind fun bt702=>(if bt702.2.1=0 then (if bt702.2.2=0 then ((florinlaw06_Same.f k bt702.1 bt698.1).bind fun t707=>(some t707)) else (none)) else (none))))) else (some true))) else (none)))=some r:=h
 clear h
 replace H:=Option.bind_eq_some_iff.mp H
 obtain⟨t696,A30,H⟩:=H
 replace H:(if t696=true then ((florinlaw06_Few.f k l0).bind fun t697=>(if t697=true then ((florinlaw06_All.f k l0 a1).bind fun bt698=>(if (bt698.2.size:Int)>4000 then (some true) else ((rule_Parse.f k bt698.2).bind fun bt702=>(if bt702.2.1=0 then (if bt702.2.2=0 then ((florinlaw06_Same.f k bt702.1 bt698.1).bind fun t707=>(some t707)) else (none)) else (none))))) else (some true))) else (none))=some r:=H
 have A3:=Aside0.mk A30
 clear A30
 by_cases c4:t696=true
 ·subst c4
  have H1:((florinlaw06_Few.f k l0).bind fun t697=>(if t697=true then ((florinlaw06_All.f k l0 a1).bind fun bt698=>(if (bt698.2.size:Int)>4000 then (some true) else ((rule_Parse.f k bt698.2).bind fun bt702=>(if bt702.2.1=0 then (if bt702.2.2=0 then ((florinlaw06_Same.f k bt702.1 bt698.1).bind fun t707=>(some t707)) else (none)) else (none))))) else (some true)))=some r:=by rw[if_pos rfl] at H;exact H
  clear H
  have H:=H1
  clear H1
  replace H:=Option.bind_eq_some_iff.mp H
  obtain⟨t697,A50,H⟩:=H
  replace H:(if t697=true then ((florinlaw06_All.f k l0 a1).bind fun bt698=>(if (bt698.2.size:Int)>4000 then (some true) else ((rule_Parse.f k bt698.2).bind fun bt702=>(if bt702.2.1=0 then (if bt702.2.2=0 then ((florinlaw06_Same.f k bt702.1 bt698.1).bind fun t707=>(some t707)) else (none)) else (none))))) else (some true))=some r:=H
  have A5:=Aside0.mk A50
  clear A50
  by_cases c6:t697=true
  ·subst c6
   have H1:((florinlaw06_All.f k l0 a1).bind fun bt698=>(if (bt698.2.size:Int)>4000 then (some true) else ((rule_Parse.f k bt698.2).bind fun bt702=>(if bt702.2.1=0 then (if bt702.2.2=0 then ((florinlaw06_Same.f k bt702.1 bt698.1).bind fun t707=>(some t707)) else (none)) else (none)))))=some r:=by rw[if_pos rfl] at H;exact H
   clear H
   have H:=H1
   clear H1
   replace H:=Option.bind_eq_some_iff.mp H
   obtain⟨⟨t698,t701⟩,A70,H⟩:=H
   dsimp only at H
   have A7:=Aside0.mk A70
   clear A70
   by_cases c8:(t701.size:Int)>4000
   ·rw[if_pos c8] at H
    have c8b0:decide (4000<(t701.size:Int))=true:=decide_eq_true c8
    have c8b1:decide (4000<t701.size)=true:=decide_eq_true (by omega)
    clear c8
    obtain rfl:=Option.some.inj H
    go_enter Tryz.func3,Tryz.ntmps3
    go_wp2_with (first|((with_reducible refine gate_callee (f:=6) rfl ?_);refine gl_ (some 10) Tryz.func6 #[] ?_;(with_reducible refine(florinlaw06_head.calls _ _ _ A3.out).mono ?_);rintro e w9 ⟨rfl,hb⟩;refine⟨_,rfl,?_⟩;replace HB:=Aside0.mk (below_step (bl_ HB).out hb);(try clear hb);(try clear hi))|((with_reducible refine gate_callee (f:=7) rfl ?_);refine gl_ (some 13) Tryz.func7 #[.slice A0 l0.length c0] ?_;(with_reducible refine(florinlaw06_Few.calls _ _ _ _ _ _ ?side1 ?side2 A5.out).mono ?_);(case side1=>repeat(first|exact(Kd.C_below HR0.out HB.out)|(with_reducible refine Kd.C_alloc ?_ _)|(with_reducible refine Kd.C_drewN ?_ _)|(with_reducible refine Kd.C_drew ?_)));(case side2=>exact HC0.out);rintro e w10 ⟨rfl,hb⟩;refine⟨_,rfl,?_⟩;replace HB:=Aside0.mk (below_step (bl_ HB).out hb);(try clear hb);(try clear hi))|((with_reducible refine gate_callee (f:=8) rfl ?_);refine gl_ (some 18) Tryz.func8 #[.slice A0 l0.length c0,.int .i64 a1] ?_;(with_reducible refine(florinlaw06_All.calls _ (fun k_=>k_<w.heap.size) _ _ _ _ _ _ _ ?side1 A7.out).mono ?_);(case side1=>exact Kd.V_mk HC0.out (Kd.F_below (Kd.C_F k46_heap HR0.out) (bl_ HB).out));rintro e w11 ⟨v699,rfl,ho0,hb⟩;refine⟨_,rfl,?_⟩;have HO700:=Aside0.mk (Kd.N_lower (Kd.N_mono (ok':=fun k_=>True) ho0 (fun k_ hk_=>trivial)) (below_size (bl_ HB).out));replace HB:=Aside0.mk (below_step (bl_ HB).out hb);(try clear hb);(try clear ho0)))
    go_ret
    exact⟨ew_,(bl_ HB).out⟩
   ·rw[if_neg c8] at H
    have c8b0:decide (4000<(t701.size:Int))=false:=decide_eq_false c8
    have c8b1:decide (4000<t701.size)=false:=decide_eq_false (by omega)
    clear c8
    replace H:=Option.bind_eq_some_iff.mp H
    obtain⟨⟨t702,t705,t706⟩,A120,H⟩:=H
    dsimp only at H
    have A12:=Aside0.mk A120
    clear A120
    replace H:=ifn_ H
    obtain⟨c13,H⟩:=H
    have c13b0:(t705==0)=true:=beq_iff_eq.mpr c13
    have c13b1:(t705 !=0)=false:=bne_eq_false_iff_eq.mpr c13
    clear c13
    replace H:=ifn_ H
    obtain⟨c14,H⟩:=H
    have c14b0:(t706==0)=true:=beq_iff_eq.mpr c14
    have c14b1:(t706 !=0)=false:=bne_eq_false_iff_eq.mpr c14
    clear c14
    replace H:=Option.bind_eq_some_iff.mp H
    obtain⟨t707,A150,H⟩:=H
    replace H:(some t707)=some r:=H
    have A15:=Aside0.mk A150
    clear A150
    obtain rfl:=Option.some.inj H
    go_enter Tryz.func3,Tryz.ntmps3
    go_wp2_with (first|((with_reducible refine gate_callee (f:=6) rfl ?_);refine gl_ (some 10) Tryz.func6 #[] ?_;(with_reducible refine(florinlaw06_head.calls _ _ _ A3.out).mono ?_);rintro e w16 ⟨rfl,hb⟩;refine⟨_,rfl,?_⟩;replace HB:=Aside0.mk (below_step (bl_ HB).out hb);(try clear hb);(try clear hi))|((with_reducible refine gate_callee (f:=7) rfl ?_);refine gl_ (some 13) Tryz.func7 #[.slice A0 l0.length c0] ?_;(with_reducible refine(florinlaw06_Few.calls _ _ _ _ _ _ ?side1 ?side2 A5.out).mono ?_);(case side1=>repeat(first|exact(Kd.C_below HR0.out HB.out)|(with_reducible refine Kd.C_alloc ?_ _)|(with_reducible refine Kd.C_drewN ?_ _)|(with_reducible refine Kd.C_drew ?_)));(case side2=>exact HC0.out);rintro e w17 ⟨rfl,hb⟩;refine⟨_,rfl,?_⟩;replace HB:=Aside0.mk (below_step (bl_ HB).out hb);(try clear hb);(try clear hi))|((with_reducible refine gate_callee (f:=8) rfl ?_);refine gl_ (some 18) Tryz.func8 #[.slice A0 l0.length c0,.int .i64 a1] ?_;(with_reducible refine(florinlaw06_All.calls _ (fun k_=>k_<w.heap.size) _ _ _ _ _ _ _ ?side1 A7.out).mono ?_);(case side1=>exact Kd.V_mk HC0.out (Kd.F_below (Kd.C_F k46_heap HR0.out) (bl_ HB).out));rintro e w18 ⟨v699,rfl,ho0,hb⟩;refine⟨_,rfl,?_⟩;have HO700:=Aside0.mk (Kd.N_lower (Kd.N_mono (ok':=fun k_=>True) ho0 (fun k_ hk_=>trivial)) (below_size (bl_ HB).out));replace HB:=Aside0.mk (below_step (bl_ HB).out hb);(try clear hb);(try clear ho0))|((with_reducible refine gate_callee (f:=9) rfl ?_);refine gl_ (some 26) Tryz.func9 #[.string t701] ?_;(with_reducible refine(rule_Parse.calls _ _ _ _ _ _ A12.out).mono ?_);rintro e w19 ⟨v703,rfl,ho0,hb⟩;refine⟨_,rfl,?_⟩;have HO704:=Aside0.mk (Kd.N_lower (Kd.N_mono (ok':=fun k_=>some k_≠(v699:Value).ownBlock) ho0 (fun k_ hk_=>(Kd.fresh' (Kd.N_lt (krN_ HO700)) k_ hk_))) (below_size (bl_ HB).out));replace HO700:=Aside0.mk (Kd.N_elder' (krN_ HO700) (Kd.N_base ho0) hb);replace HB:=Aside0.mk (below_step (bl_ HB).out hb);(try clear hb);(try clear ho0);obtain⟨Ao20,co20,eo20⟩:=Kd.N_slice HO704.out;subst eo20;obtain⟨Ao21,co21,eo21⟩:=Kd.N_slice HO700.out;subst eo21)|(go_at_call 10;(with_reducible refine(florinlaw06_Same.calls _ _ _ _ _ _ _ _ _ ?side1 ?side2 ?side3 ?side4 A15.out).mono ?_);(case side1=>repeat(first|exact(Kd.N_reads' HO704.out).2.2|(with_reducible refine Kd.C_alloc ?_ _)|(with_reducible refine Kd.C_drewN ?_ _)|(with_reducible refine Kd.C_drew ?_)));(case side2=>exact(Kd.N_reads' HO704.out).2.1);(case side3=>repeat(first|exact(Kd.N_reads' HO700.out).2.2|(with_reducible refine Kd.C_alloc ?_ _)|(with_reducible refine Kd.C_drewN ?_ _)|(with_reducible refine Kd.C_drew ?_)));(case side4=>exact(Kd.N_reads' HO700.out).2.1);rintro e w22 ⟨rfl,hb⟩;replace HO700:=Aside0.mk (Kd.N_below (krN_ HO700) hb);replace HO704:=Aside0.mk (Kd.N_below (krN_ HO704) hb);replace HB:=Aside0.mk (below_step (bl_ HB).out hb);(try clear hb);(try clear hi)))
    go_ret
    exact⟨ew_,(bl_ HB).out⟩
  ·replace c6:=Bool.eq_false_iff.mpr c6
   subst c6
   have H1:(some true)=some r:=by rw[if_neg (show ¬(false=true) by decide)] at H;exact H
   clear H
   have H:=H1
   clear H1
   obtain rfl:=Option.some.inj H
   go_enter Tryz.func3,Tryz.ntmps3
   go_wp2_with (first|((with_reducible refine gate_callee (f:=6) rfl ?_);refine gl_ (some 10) Tryz.func6 #[] ?_;(with_reducible refine(florinlaw06_head.calls _ _ _ A3.out).mono ?_);rintro e w23 ⟨rfl,hb⟩;refine⟨_,rfl,?_⟩;replace HB:=Aside0.mk (below_step (bl_ HB).out hb);(try clear hb);(try clear hi))|((with_reducible refine gate_callee (f:=7) rfl ?_);refine gl_ (some 13) Tryz.func7 #[.slice A0 l0.length c0] ?_;(with_reducible refine(florinlaw06_Few.calls _ _ _ _ _ _ ?side1 ?side2 A5.out).mono ?_);(case side1=>repeat(first|exact(Kd.C_below HR0.out HB.out)|(with_reducible refine Kd.C_alloc ?_ _)|(with_reducible refine Kd.C_drewN ?_ _)|(with_reducible refine Kd.C_drew ?_)));(case side2=>exact HC0.out);rintro e w24 ⟨rfl,hb⟩;refine⟨_,rfl,?_⟩;replace HB:=Aside0.mk (below_step (bl_ HB).out hb);(try clear hb);(try clear hi)))
   go_ret
   exact⟨ew_,(bl_ HB).out⟩
 ·replace c4:=Bool.eq_false_iff.mpr c4
  subst c4
  have H1:(none)=some r:=by rw[if_neg (show ¬(false=true) by decide)] at H;exact H
  clear H
  have H:=H1
  clear H1
  exact absurd H (by simp)

end Go.Proofs.YtcokjmnkieakiaaGreatDoor.P
