-- written by a program of this session (wip/p2)
import Derived.Test.YtcokjmnkieakiaaGreatDoorPx0
import Derived.Test.YtcokjmnkieakiaaGreatDoorPx4
import Derived.Test.YtcokjmnkieakiaaGreatDoorPx5
import Derived.Test.YtcokjmnkieakiaaGreatDoorPx6
import Derived.Test.YtcokjmnkieakiaaGreatDoorPx10
import Derived.Test.YtcokjmnkieakiaaGreatDoorPx12
namespace Go.Proofs.YtcokjmnkieakiaaGreatDoor.P
open Go.RowKit Go.Proofs.YtcokjmnkieakiaaGreatDoorW.PrintWords Go.Proofs.YtcokjmnkieakiaaGreatDoorW.PrintLast Go.Proofs.YtcokjmnkieakiaaGreatDoorW.PrintMore
attribute [local go_sem] max2_int min2_int max_two min_two max_three min_three max_four min_four   -- for this text's walks alone
set_option linter.unusedVariables false
set_option linter.unusedSimpArgs false

/-! ### florinlaw06_RuleAgain: function 4 -/
def florinlaw06_RuleAgain.f (k:Nat) (l0:List (S46)):Option (Bool):=(florinlaw06_head.f k).bind fun t708=>(if t708=true then ((florinlaw06_Few.f k l0).bind fun t709=>(if t709=true then ((florinlaw06_All.f k l0 0).bind fun bt710=>((rule_Rules_String.f k bt710.1).bind fun t714=>(if (t714.size:Int)>4000 then (some true) else ((rule_Parse.f k t714).bind fun bt715=>(if bt715.2.1=0 then ((florinlaw06_Same.f k bt715.1 bt710.1).bind fun t720=>(if t720=true then ((rule_Rules_String.f k bt715.1).bind fun t721=>(some (t721.toList==t714.toList))) else (none))) else (none)))))) else (some true))) else (none))
set_option maxHeartbeats 64000000 in
set_option maxRecDepth 100000 in
theorem florinlaw06_RuleAgain.calls (k:Nat) (A0:Option Addr) (c0:Nat) (l0:List (S46)) (r:Bool) (w:World) (hr0:Kd.C k46 w A0 l0.length l0) (hc0:l0.length≤c0) (h:florinlaw06_RuleAgain.f k l0=some r) (ht:Lib.TabIs Tryz.prog w "internal/strconv.uint64pow10" .u64 Lib.pow10Tab:=by first|assumption|exact tb_ (by assumption) (bl_ (by assumption)).out) :
  Calls Tryz.prog 4 #[.slice A0 l0.length c0] w fun e w'=>e= .returned (.bool r)∧Below w.heap.size w w':=by
 have HR0:=Aside0.mk hr0
 have HC0:=Aside0.mk hc0
 clear hr0 hc0
 have HB:=Aside0.mk (Below.refl w.heap.size w)
 have H:((florinlaw06_head.f k).bind fun t708=>(if t708=true then ((florinlaw06_Few.f k l0).bind fun t709=>(if t709=true then ((florinlaw06_All.f k l0 0).bind fun bt710=>((rule_Rules_String.f k bt710.1).bind fun t714=>(if (t714.size:Int)>4000 then (some true) else ((rule_Parse.f k t714).bind fun bt715=>(if bt715.2.1=0 then ((florinlaw06_Same.f k bt715.1 bt710.1).bind fun t720=>(if t720=true then ((rule_Rules_String.f k bt715.1).bind fun t721=>(some (t721.toList==t714.toList))) else (none))) else (none)))))) else (some true))) else (none)))=some r:=h
 clear h
 replace H:=Option.bind_eq_some_iff.mp H
 obtain⟨t708,A20,H⟩:=H
 replace H:(if t708=true then ((florinlaw06_Few.f k l0).bind fun t709=>(if t709=true then ((florinlaw06_All.f k l0 0).bind fun bt710=>((rule_Rules_String.f k bt710.1).bind fun t714=>(if (t714.size:Int)>4000 then (some true) else ((rule_Parse.f k t714).bind fun bt715=>(if bt715.2.1=0 then ((florinlaw06_Same.f k bt715.1 bt710.1).bind fun t720=>(if t720=true then ((rule_Rules_String.f k bt715.1).bind fun t721=>(some (t721.toList==t714.toList))) else (none))) else (none)))))) else (some true))) else (none))=some r:=H
 have A2:=Aside0.mk A20
 clear A20
 by_cases c3:t708=true
 ·subst c3
  have H1:((florinlaw06_Few.f k l0).bind fun t709=>(if t709=true then ((florinlaw06_All.f k l0 0).bind fun bt710=>((rule_Rules_String.f k bt710.1).bind fun t714=>(if (t714.size:Int)>4000 then (some true) else ((rule_Parse.f k t714).bind fun bt715=>(if bt715.2.1=0 then ((florinlaw06_Same.f k bt715.1 bt710.1).bind fun t720=>(if t720=true then ((rule_Rules_String.f k bt715.1).bind fun t721=>(some (t721.toList==t714.toList))) else (none))) else (none)))))) else (some true)))=some r:=by rw[if_pos rfl] at H;exact H
  clear H
  have H:=H1
  clear H1
  replace H:=Option.bind_eq_some_iff.mp H
  obtain⟨t709,A40,H⟩:=H
  replace H:(if t709=true then ((florinlaw06_All.f k l0 0).bind fun bt710=>((rule_Rules_String.f k bt710.1).bind fun t714=>(if (t714.size:Int)>4000 then (some true) else ((rule_Parse.f k t714).bind fun bt715=>(if bt715.2.1=0 then ((florinlaw06_Same.f k bt715.1 bt710.1).bind fun t720=>(if t720=true then ((rule_Rules_String.f k bt715.1).bind fun t721=>(some (t721.toList==t714.toList))) else (none))) else (none)))))) else (some true))=some r:=H
  have A4:=Aside0.mk A40
  clear A40
  by_cases c5:t709=true
  ·subst c5
   have H1:((florinlaw06_All.f k l0 0).bind fun bt710=>((rule_Rules_String.f k bt710.1).bind fun t714=>(if (t714.size:Int)>4000 then (some true) else ((rule_Parse.f k t714).bind fun bt715=>(if bt715.2.1=0 then ((florinlaw06_Same.f k bt715.1 bt710.1).bind fun t720=>(if t720=true then ((rule_Rules_String.f k bt715.1).bind fun t721=>(some (t721.toList==t714.toList))) else (none))) else (none))))))=some r:=by rw[if_pos rfl] at H;exact H
   clear H
   have H:=H1
   clear H1
   replace H:=Option.bind_eq_some_iff.mp H
   obtain⟨⟨t710,t713⟩,A60,H⟩:=H
   dsimp only at H
   have A6:=Aside0.mk A60
   clear A60
   replace H:=Option.bind_eq_some_iff.mp H
   obtain⟨t714,A70,H⟩:=H
   replace H:(if (t714.size:Int)>4000 then (some true) else ((rule_Parse.f k t714).bind fun bt715=>(if bt715.2.1=0 then ((florinlaw06_Same.f k bt715.1 t710).bind fun t720=>(if t720=true then ((rule_Rules_String.f k bt715.1).bind fun t721=>(some (t721.toList==t714.toList))) else (none))) else (none))))=some r:=H
   have A7:=Aside0.mk A70
   clear A70
   by_cases c8:(t714.size:Int)>4000
   ·rw[if_pos c8] at H
    have c8b0:decide (4000<(t714.size:Int))=true:=decide_eq_true c8
    have c8b1:decide (4000<t714.size)=true:=decide_eq_true (by omega)
    clear c8
    obtain rfl:=Option.some.inj H
    go_enter Tryz.func4,Tryz.ntmps4
    go_wp2_with (first|((with_reducible refine gate_callee (f:=6) rfl ?_);refine gl_ (some 9) Tryz.func6 #[] ?_;(with_reducible refine(florinlaw06_head.calls _ _ _ A2.out).mono ?_);rintro e w9 ⟨rfl,hb⟩;refine⟨_,rfl,?_⟩;replace HB:=Aside0.mk (below_step (bl_ HB).out hb);(try clear hb);(try clear hi))|((with_reducible refine gate_callee (f:=7) rfl ?_);refine gl_ (some 12) Tryz.func7 #[.slice A0 l0.length c0] ?_;(with_reducible refine(florinlaw06_Few.calls _ _ _ _ _ _ ?side1 ?side2 A4.out).mono ?_);(case side1=>repeat(first|exact(Kd.C_below HR0.out HB.out)|(with_reducible refine Kd.C_alloc ?_ _)|(with_reducible refine Kd.C_drewN ?_ _)|(with_reducible refine Kd.C_drew ?_)));(case side2=>exact HC0.out);rintro e w10 ⟨rfl,hb⟩;refine⟨_,rfl,?_⟩;replace HB:=Aside0.mk (below_step (bl_ HB).out hb);(try clear hb);(try clear hi))|((with_reducible refine gate_callee (f:=8) rfl ?_);refine gl_ (some 16) Tryz.func8 #[.slice A0 l0.length c0,.int .i64 0] ?_;(with_reducible refine(florinlaw06_All.calls _ (fun k_=>k_<w.heap.size) _ _ _ _ _ _ _ ?side1 A6.out).mono ?_);(case side1=>exact Kd.V_mk HC0.out (Kd.F_below (Kd.C_F k46_heap HR0.out) (bl_ HB).out));rintro e w11 ⟨v711,rfl,ho0,hb⟩;refine⟨_,rfl,?_⟩;have HO712:=Aside0.mk (Kd.N_lower (Kd.N_mono (ok':=fun k_=>True) ho0 (fun k_ hk_=>trivial)) (below_size (bl_ HB).out));replace HB:=Aside0.mk (below_step (bl_ HB).out hb);(try clear hb);(try clear ho0);obtain⟨Ao12,co12,eo12⟩:=Kd.N_slice HO712.out;subst eo12)|((with_reducible refine gate_callee (f:=11) rfl ?_);refine gl_ (some 20) Tryz.func11 #[.slice Ao12 t710.length co12] ?_;(with_reducible refine(rule_Rules_String.calls _ _ _ _ _ _ ?side1 ?side2 A7.out).mono ?_);(case side1=>repeat(first|exact(Kd.N_reads' HO712.out).2.2|(with_reducible refine Kd.C_alloc ?_ _)|(with_reducible refine Kd.C_drewN ?_ _)|(with_reducible refine Kd.C_drew ?_)));(case side2=>exact(Kd.N_reads' HO712.out).2.1);rintro e w13 ⟨rfl,hb⟩;refine⟨_,rfl,?_⟩;replace HO712:=Aside0.mk (Kd.N_below (krN_ HO712) hb);replace HB:=Aside0.mk (below_step (bl_ HB).out hb);(try clear hb);(try clear hi)))
    go_ret
    exact⟨ew_,(bl_ HB).out⟩
   ·rw[if_neg c8] at H
    have c8b0:decide (4000<(t714.size:Int))=false:=decide_eq_false c8
    have c8b1:decide (4000<t714.size)=false:=decide_eq_false (by omega)
    clear c8
    replace H:=Option.bind_eq_some_iff.mp H
    obtain⟨⟨t715,t718,t719⟩,A140,H⟩:=H
    dsimp only at H
    have A14:=Aside0.mk A140
    clear A140
    replace H:=ifn_ H
    obtain⟨c15,H⟩:=H
    have c15b0:(t718==0)=true:=beq_iff_eq.mpr c15
    have c15b1:(t718 !=0)=false:=bne_eq_false_iff_eq.mpr c15
    clear c15
    replace H:=Option.bind_eq_some_iff.mp H
    obtain⟨t720,A160,H⟩:=H
    replace H:(if t720=true then ((rule_Rules_String.f k t715).bind fun t721=>(some (t721.toList==t714.toList))) else (none))=some r:=H
    have A16:=Aside0.mk A160
    clear A160
    by_cases c17:t720=true
    ·subst c17
     have H1:((rule_Rules_String.f k t715).bind fun t721=>(some (t721.toList==t714.toList)))=some r:=by rw[if_pos rfl] at H;exact H
     clear H
     have H:=H1
     clear H1
     replace H:=Option.bind_eq_some_iff.mp H
     obtain⟨t721,A180,H⟩:=H
     replace H:(some (t721.toList==t714.toList))=some r:=H
     have A18:=Aside0.mk A180
     clear A180
     obtain rfl:=Option.some.inj H
     go_enter Tryz.func4,Tryz.ntmps4
     go_wp2_with (first|((with_reducible refine gate_callee (f:=6) rfl ?_);refine gl_ (some 9) Tryz.func6 #[] ?_;(with_reducible refine(florinlaw06_head.calls _ _ _ A2.out).mono ?_);rintro e w19 ⟨rfl,hb⟩;refine⟨_,rfl,?_⟩;replace HB:=Aside0.mk (below_step (bl_ HB).out hb);(try clear hb);(try clear hi))|((with_reducible refine gate_callee (f:=7) rfl ?_);refine gl_ (some 12) Tryz.func7 #[.slice A0 l0.length c0] ?_;(with_reducible refine(florinlaw06_Few.calls _ _ _ _ _ _ ?side1 ?side2 A4.out).mono ?_);(case side1=>repeat(first|exact(Kd.C_below HR0.out HB.out)|(with_reducible refine Kd.C_alloc ?_ _)|(with_reducible refine Kd.C_drewN ?_ _)|(with_reducible refine Kd.C_drew ?_)));(case side2=>exact HC0.out);rintro e w20 ⟨rfl,hb⟩;refine⟨_,rfl,?_⟩;replace HB:=Aside0.mk (below_step (bl_ HB).out hb);(try clear hb);(try clear hi))|((with_reducible refine gate_callee (f:=8) rfl ?_);refine gl_ (some 16) Tryz.func8 #[.slice A0 l0.length c0,.int .i64 0] ?_;(with_reducible refine(florinlaw06_All.calls _ (fun k_=>k_<w.heap.size) _ _ _ _ _ _ _ ?side1 A6.out).mono ?_);(case side1=>exact Kd.V_mk HC0.out (Kd.F_below (Kd.C_F k46_heap HR0.out) (bl_ HB).out));rintro e w21 ⟨v711,rfl,ho0,hb⟩;refine⟨_,rfl,?_⟩;have HO712:=Aside0.mk (Kd.N_lower (Kd.N_mono (ok':=fun k_=>True) ho0 (fun k_ hk_=>trivial)) (below_size (bl_ HB).out));replace HB:=Aside0.mk (below_step (bl_ HB).out hb);(try clear hb);(try clear ho0);obtain⟨Ao22,co22,eo22⟩:=Kd.N_slice HO712.out;subst eo22)|((with_reducible refine gate_callee (f:=11) rfl ?_);refine gl_ (some 20) Tryz.func11 #[.slice Ao22 t710.length co22] ?_;(with_reducible refine(rule_Rules_String.calls _ _ _ _ _ _ ?side1 ?side2 A7.out).mono ?_);(case side1=>repeat(first|exact(Kd.N_reads' HO712.out).2.2|(with_reducible refine Kd.C_alloc ?_ _)|(with_reducible refine Kd.C_drewN ?_ _)|(with_reducible refine Kd.C_drew ?_)));(case side2=>exact(Kd.N_reads' HO712.out).2.1);rintro e w23 ⟨rfl,hb⟩;refine⟨_,rfl,?_⟩;replace HO712:=Aside0.mk (Kd.N_below (krN_ HO712) hb);replace HB:=Aside0.mk (below_step (bl_ HB).out hb);(try clear hb);(try clear hi))|((with_reducible refine gate_callee (f:=9) rfl ?_);refine gl_ (some 26) Tryz.func9 #[.string t714] ?_;(with_reducible refine(rule_Parse.calls _ _ _ _ _ _ A14.out).mono ?_);rintro e w24 ⟨v716,rfl,ho0,hb⟩;refine⟨_,rfl,?_⟩;have HO717:=Aside0.mk (Kd.N_lower (Kd.N_mono (ok':=fun k_=>some k_≠(.slice Ao22 t710.length co22:Value).ownBlock) ho0 (fun k_ hk_=>(Kd.fresh' (Kd.N_lt (krN_ HO712)) k_ hk_))) (below_size (bl_ HB).out));replace HO712:=Aside0.mk (Kd.N_elder' (krN_ HO712) (Kd.N_base ho0) hb);replace HB:=Aside0.mk (below_step (bl_ HB).out hb);(try clear hb);(try clear ho0);obtain⟨Ao25,co25,eo25⟩:=Kd.N_slice HO717.out;subst eo25)|(go_at_call 10;(with_reducible refine(florinlaw06_Same.calls _ _ _ _ _ _ _ _ _ ?side1 ?side2 ?side3 ?side4 A16.out).mono ?_);(case side1=>repeat(first|exact(Kd.N_reads' HO717.out).2.2|(with_reducible refine Kd.C_alloc ?_ _)|(with_reducible refine Kd.C_drewN ?_ _)|(with_reducible refine Kd.C_drew ?_)));(case side2=>exact(Kd.N_reads' HO717.out).2.1);(case side3=>repeat(first|exact(Kd.N_reads' HO712.out).2.2|(with_reducible refine Kd.C_alloc ?_ _)|(with_reducible refine Kd.C_drewN ?_ _)|(with_reducible refine Kd.C_drew ?_)));(case side4=>exact(Kd.N_reads' HO712.out).2.1);rintro e w26 ⟨rfl,hb⟩;replace HO712:=Aside0.mk (Kd.N_below (krN_ HO712) hb);replace HO717:=Aside0.mk (Kd.N_below (krN_ HO717) hb);replace HB:=Aside0.mk (below_step (bl_ HB).out hb);(try clear hb);(try clear hi))|(go_at_call 11;(with_reducible refine(rule_Rules_String.calls _ _ _ _ _ _ ?side1 ?side2 A18.out).mono ?_);(case side1=>repeat(first|exact(Kd.N_reads' HO717.out).2.2|(with_reducible refine Kd.C_alloc ?_ _)|(with_reducible refine Kd.C_drewN ?_ _)|(with_reducible refine Kd.C_drew ?_)));(case side2=>exact(Kd.N_reads' HO717.out).2.1);rintro e w27 ⟨rfl,hb⟩;replace HO712:=Aside0.mk (Kd.N_below (krN_ HO712) hb);replace HO717:=Aside0.mk (Kd.N_below (krN_ HO717) hb);replace HB:=Aside0.mk (below_step (bl_ HB).out hb);(try clear hb);(try clear hi)))
     go_ret
     exact⟨ew_,(bl_ HB).out⟩
    ·replace c17:=Bool.eq_false_iff.mpr c17
     subst c17
     have H1:(none)=some r:=by rw[if_neg (show ¬(false=true) by decide)] at H;exact H
     clear H
     have H:=H1
     clear H1
     exact absurd H (by simp)
  ·replace c5:=Bool.eq_false_iff.mpr c5
   subst c5
   have H1:(some true)=some r:=by rw[if_neg (show ¬(false=true) by decide)] at H;exact H
   clear H
   have H:=H1
   clear H1
   obtain rfl:=Option.some.inj H
   go_enter Tryz.func4,Tryz.ntmps4
   go_wp2_with (first|((with_reducible refine gate_callee (f:=6) rfl ?_);refine gl_ (some 9) Tryz.func6 #[] ?_;(with_reducible refine(florinlaw06_head.calls _ _ _ A2.out).mono ?_);rintro e w28 ⟨rfl,hb⟩;refine⟨_,rfl,?_⟩;replace HB:=Aside0.mk (below_step (bl_ HB).out hb);(try clear hb);(try clear hi))|((with_reducible refine gate_callee (f:=7) rfl ?_);refine gl_ (some 12) Tryz.func7 #[.slice A0 l0.length c0] ?_;(with_reducible refine(florinlaw06_Few.calls _ _ _ _ _ _ ?side1 ?side2 A4.out).mono ?_);(case side1=>repeat(first|exact(Kd.C_below HR0.out HB.out)|(with_reducible refine Kd.C_alloc ?_ _)|(with_reducible refine Kd.C_drewN ?_ _)|(with_reducible refine Kd.C_drew ?_)));(case side2=>exact HC0.out);rintro e w29 ⟨rfl,hb⟩;refine⟨_,rfl,?_⟩;replace HB:=Aside0.mk (below_step (bl_ HB).out hb);(try clear hb);(try clear hi)))
   go_ret
   exact⟨ew_,(bl_ HB).out⟩
 ·replace c3:=Bool.eq_false_iff.mpr c3
  subst c3
  have H1:(none)=some r:=by rw[if_neg (show ¬(false=true) by decide)] at H;exact H
  clear H
  have H:=H1
  clear H1
  exact absurd H (by simp)

end Go.Proofs.YtcokjmnkieakiaaGreatDoor.P
