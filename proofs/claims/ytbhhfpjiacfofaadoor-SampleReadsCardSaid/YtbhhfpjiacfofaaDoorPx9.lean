-- written by a program of this session (wip/p2)
import Derived.Test.YtbhhfpjiacfofaaDoorPx0
import Derived.Test.YtbhhfpjiacfofaaDoorPx1
import Derived.Test.YtbhhfpjiacfofaaDoorPx4
import Derived.Test.YtbhhfpjiacfofaaDoorPx6
import Derived.Test.YtbhhfpjiacfofaaDoorPx7
import Derived.Test.YtbhhfpjiacfofaaDoorPx8
namespace Go.Proofs.YtbhhfpjiacfofaaDoor.P
open Go.RowKit Go.Proofs.YtbhhfpjiacfofaaDoorW.PrintWords Go.Proofs.YtbhhfpjiacfofaaDoorW.PrintLast Go.Proofs.YtbhhfpjiacfofaaDoorW.PrintMore
attribute [local go_sem] max2_int min2_int max_two min_two max_three min_three max_four min_four   -- for this text's walks alone
set_option linter.unusedVariables false
set_option linter.unusedSimpArgs false

attribute [local go_sem high] eqA41
/-! ### florinlaw08_SampleReads: function 4 -/
mutual
def florinlaw08_SampleReads.l0:Nat→Int→List (S35)→Int→Int→Option (Bool)
 | 0,_,_,_,_=>none
 | k+1,x1,x58,x59,x60=>if x60<x59 then (if 0≤x60 then (if x60<(x58.length:Int) then (if (((rd_T35 x58 x60).f1).length:Int)=0 then (none) else (florinlaw08_SampleReads.l1 k x1 x58 x59 x60 ((rd_T35 x58 x60).f1) (((rd_T35 x58 x60).f1).length:Int) 0 ((rd_T35 x58 x60).f0) ((rd_T35 x58 x60).f1) ((rd_T35 x58 x60).f2))) else (none)) else (none)) else (some true)
def florinlaw08_SampleReads.l1:Nat→Int→List (S35)→Int→Int→List (S37)→Int→Int→Bool→List (S37)→Bool→Option (Bool)
 | 0,_,_,_,_,_,_,_,_,_,_=>none
 | k+1,x1,x58,x59,x60,x69,x70,x71,x353000,x353001,x353002=>if x71<x70 then (if 0≤x71 then (if x71<(x69.length:Int) then ((florinlaw08_texts.f k ((rd_T37 x69 x71).f0) ((rd_T37 x69 x71).f1)).bind fun t355=>(if (t355.length:Int)=0 then (none) else (if (t355.length:Int)>1000 then (none) else (if 0<(t355.length:Int) then (if (rdOf ByteArray.empty t355 0).toList=((rd_T37 x69 x71).f0).toList then (if ((rd_T37 x69 x71).f1).toList=([]:List UInt8) then (florinlaw08_SampleReads.j2 k x1 t355 x58 x59 x60 x69 x70 x71 ((t355.length:Int) !=1) x353000 x353001 x353002 ((rd_T37 x69 x71).f0) ((rd_T37 x69 x71).f1)) else (florinlaw08_SampleReads.j2 k x1 t355 x58 x59 x60 x69 x70 x71 false x353000 x353001 x353002 ((rd_T37 x69 x71).f0) ((rd_T37 x69 x71).f1))) else (none)) else (none))))) else (none)) else (none)) else (florinlaw08_SampleReads.l0 k x1 x58 x59 (wrap64 (x60+1)))
def florinlaw08_SampleReads.j2:Nat→Int→List ByteArray→List (S35)→Int→Int→List (S37)→Int→Int→Bool→Bool→List (S37)→Bool→ByteArray→ByteArray→Option (Bool)
 | 0,_,_,_,_,_,_,_,_,_,_,_,_,_,_=>none
 | k+1,x1,x12,x58,x59,x60,x69,x70,x71,x102,x353000,x353001,x353002,x355000,x355001=>if x102=true then (none) else (if 0≤(wrap64 ((x12.length:Int)-1)) then (if (wrap64 ((x12.length:Int)-1))<(x12.length:Int) then ((operand_Read.f k (rdOf ByteArray.empty x12 (wrap64 ((x12.length:Int)-1)))).bind fun bt360=>(if x355001.toList=([]:List UInt8) then (florinlaw08_SampleReads.j3 k x1 x12 bt360.2.2.2 x58 x59 x60 x69 x70 x71 x353000 x353001 x353002 x355000 x355001 bt360.1 bt360.2.1 bt360.2.2.1 bt360.1 bt360.2.1 bt360.2.2.1) else ((operand_Read.f k x355001).bind fun bt366=>(florinlaw08_SampleReads.j3 k x1 x12 bt360.2.2.2 x58 x59 x60 x69 x70 x71 x353000 x353001 x353002 x355000 x355001 bt360.1 bt360.2.1 bt360.2.2.1 bt366.1 bt366.2.1 bt366.2.2.1)))) else (none)) else (none))
def florinlaw08_SampleReads.j3:Nat→Int→List ByteArray→Int→List (S35)→Int→Int→List (S37)→Int→Int→Bool→List (S37)→Bool→ByteArray→ByteArray→ByteArray→ByteArray→Int→ByteArray→ByteArray→Int→Option (Bool)
 | 0,_,_,_,_,_,_,_,_,_,_,_,_,_,_,_,_,_,_,_,_=>none
 | k+1,x1,x12,x14,x58,x59,x60,x69,x70,x71,x353000,x353001,x353002,x355000,x355001,x365000,x365001,x365002,x366000,x366001,x366002=>if x14=0 then (if (!(x365000.toList==x366000.toList)||(!(x365001.toList==x366001.toList)||(!(x365002==x366002))))=true then (none) else (if x353000=true then (florinlaw08_SampleReads.j4 k x1 x12 x58 x59 x60 x69 x70 x71 false x353000 x353001 x353002 x355000 x355001) else ((operand_Ops_V.f x365000 x365001 x365002).bind fun t370=>(florinlaw08_SampleReads.j4 k x1 x12 x58 x59 x60 x69 x70 x71 (decide (t370>0)) x353000 x353001 x353002 x355000 x355001)))) else (none)
def florinlaw08_SampleReads.j4:Nat→Int→List ByteArray→List (S35)→Int→Int→List (S37)→Int→Int→Bool→Bool→List (S37)→Bool→ByteArray→ByteArray→Option (Bool)
 | 0,_,_,_,_,_,_,_,_,_,_,_,_,_,_=>none
 | k+1,x1,x12,x58,x59,x60,x69,x70,x71,x139,x353000,x353001,x353002,x355000,x355001=>if x139=true then (none) else ((florinlaw08_some.f k x355000 x355001 (wrap64 ((Go.bits .and .i64 x1 7)+1))).bind fun t371=>(if t371=(mn (x12.length:Int) (wrap64 ((Go.bits .and .i64 x1 7)+1))) then (florinlaw08_SampleReads.l1 k x1 x58 x59 x60 x69 x70 (wrap64 (x71+1)) x353000 x353001 x353002) else (none)))
end
def florinlaw08_SampleReads.f (k:Nat) (a0:ByteArray) (a1:Int):Option (Bool):=(florinlaw08_head.f k).bind fun t345=>(if t345=true then (if (a0.size:Int)>200 then (some true) else ((sample_Parse.f k a0).bind fun bt346=>(if bt346.2.1=0 then (florinlaw08_SampleReads.l0 k a1 bt346.1 (bt346.1.length:Int) 0) else (if (bt346.1.length:Int)=0 then (if bt346.2.2≥0 then (if bt346.2.2≤(a0.size:Int) then (if bt346.2.1=1 then (some true) else (if bt346.2.1=2 then (some true) else (if bt346.2.1=3 then (some true) else (some (bt346.2.1==4))))) else (none)) else (none)) else (none))))) else (none))
set_option maxHeartbeats 64000000 in
set_option maxRecDepth 100000 in
theorem florinlaw08_SampleReads.calls (k:Nat) (a0:ByteArray) (a1:Int) (r:Bool) (w:World) (h:florinlaw08_SampleReads.f k a0 a1=some r) :
  Calls Tryd.prog 4 #[.string a0,.int .i64 a1] w fun e w'=>e= .returned (.bool r)∧Below w.heap.size w w':=by
 have hu35:=Tryd.underlying35
 have hu37:=Tryd.underlying37
 have hu41:=Tryd.underlying41
 have HB:=Aside0.mk (Below.refl w.heap.size w)
 have H:=h
 clear h
 unfold florinlaw08_SampleReads.f at H
 replace H:=Option.bind_eq_some_iff.mp H
 obtain⟨t345,A30,H⟩:=H
 have A3:=Aside0.mk A30
 clear A30
 by_cases c4:t345=true
 ·subst c4
  rw[if_pos rfl] at H
  by_cases c5:(a0.size:Int)>200
  ·rw[if_pos c5] at H
   have c5b0:decide (200<(a0.size:Int))=true:=decide_eq_true c5
   have c5b1:decide (200<a0.size)=true:=decide_eq_true (by omega)
   clear c5
   obtain rfl:=Option.some.inj H
   go_enter Tryd.func4,Tryd.ntmps4
   go_wp2_with (first|(go_at_call 6;(with_reducible refine(florinlaw08_head.calls _ _ _ A3.out).mono ?_);rintro e w6 ⟨rfl,hb⟩;replace HB:=Aside0.mk (below_step (bl_ HB).out hb);(try clear hb);(try clear hi)))
   repeat(go_quiet (first|(go_at_call 6;(with_reducible refine(florinlaw08_head.calls _ _ _ A3.out).mono ?_);rintro e w6 ⟨rfl,hb⟩;replace HB:=Aside0.mk (below_step (bl_ HB).out hb);(try clear hb);(try clear hi)));try go_wp2_with (first|(go_at_call 6;(with_reducible refine(florinlaw08_head.calls _ _ _ A3.out).mono ?_);rintro e w6 ⟨rfl,hb⟩;replace HB:=Aside0.mk (below_step (bl_ HB).out hb);(try clear hb);(try clear hi))))
   go_ret
   exact⟨ew_,(bl_ HB).out⟩
  rw[if_neg c5] at H
  have c5b0:decide (200<(a0.size:Int))=false:=decide_eq_false c5
  have c5b1:decide (200<a0.size)=false:=decide_eq_false (by omega)
  clear c5
  replace H:=Option.bind_eq_some_iff.mp H
  obtain⟨⟨t346,t349,t350⟩,A70,H⟩:=H
  dsimp only at H
  have A7:=Aside0.mk A70
  clear A70
  by_cases c8:t349=0
  ·rw[if_pos c8] at H
   have c8b0:(t349==0)=true:=beq_iff_eq.mpr c8
   have c8b1:(t349 !=0)=false:=bne_eq_false_iff_eq.mpr c8
   clear c8
   have H':=Aside0.mk H
   clear H
   go_enter Tryd.func4,Tryd.ntmps4
   go_wp2_with (first|(go_at_call 6;(with_reducible refine(florinlaw08_head.calls _ _ _ A3.out).mono ?_);rintro e w9 ⟨rfl,hb⟩;replace HB:=Aside0.mk (below_step (bl_ HB).out hb);(try clear hb);(try clear hi))|(go_at_call 9;(with_reducible refine(sample_Parse.calls _ _ _ _ _ _ A7.out).mono ?_);rintro e w10 ⟨v347,rfl,ho0,hb⟩;have HO348:=Aside0.mk (Kd.N_lower (Kd.N_mono (ok':=fun k_=>True) ho0 (fun k_ hk_=>trivial)) (below_size (bl_ HB).out));replace HB:=Aside0.mk (below_step (bl_ HB).out hb);(try clear hb);(try clear ho0);obtain⟨Ao11,co11,eo11⟩:=Kd.N_slice HO348.out;subst eo11))
   repeat(go_quiet (first|(go_at_call 6;(with_reducible refine(florinlaw08_head.calls _ _ _ A3.out).mono ?_);rintro e w9 ⟨rfl,hb⟩;replace HB:=Aside0.mk (below_step (bl_ HB).out hb);(try clear hb);(try clear hi))|(go_at_call 9;(with_reducible refine(sample_Parse.calls _ _ _ _ _ _ A7.out).mono ?_);rintro e w10 ⟨v347,rfl,ho0,hb⟩;have HO348:=Aside0.mk (Kd.N_lower (Kd.N_mono (ok':=fun k_=>True) ho0 (fun k_ hk_=>trivial)) (below_size (bl_ HB).out));replace HB:=Aside0.mk (below_step (bl_ HB).out hb);(try clear hb);(try clear ho0);obtain⟨Ao11,co11,eo11⟩:=Kd.N_slice HO348.out;subst eo11));try go_wp2_with (first|(go_at_call 6;(with_reducible refine(florinlaw08_head.calls _ _ _ A3.out).mono ?_);rintro e w9 ⟨rfl,hb⟩;replace HB:=Aside0.mk (below_step (bl_ HB).out hb);(try clear hb);(try clear hi))|(go_at_call 9;(with_reducible refine(sample_Parse.calls _ _ _ _ _ _ A7.out).mono ?_);rintro e w10 ⟨v347,rfl,ho0,hb⟩;have HO348:=Aside0.mk (Kd.N_lower (Kd.N_mono (ok':=fun k_=>True) ho0 (fun k_ hk_=>trivial)) (below_size (bl_ HB).out));replace HB:=Aside0.mk (below_step (bl_ HB).out hb);(try clear hb);(try clear ho0);obtain⟨Ao11,co11,eo11⟩:=Kd.N_slice HO348.out;subst eo11)))
   go_loopg [60] k (fun kq v60 w'=>∃(x60_1:Int),v60= .int .i64 x60_1∧Aside0 (florinlaw08_SampleReads.l0 kq a1 t346 (t346.length:Int) x60_1=some r)∧Aside0 (kq≤k)∧Aside0 (Kd.N k35 35 w' w.heap.size (fun _=>True) (.slice Ao11 t346.length co11) t346)∧Aside0 (Below w.heap.size w w'))
   case atStart=>exact⟨(0),eq_,H',⟨Nat.le_refl _⟩,⟨kdN_ HO348.out⟩,(bl_ HB)⟩
   clear H'
   obtain⟨x60_1,rfl,HA,HK1,HO_58,HB⟩:=hrel
   cases gk with
   | zero=>exact absurd HA.out (by simp[florinlaw08_SampleReads.l0])
   | succ k1=>?_
   have H:=HA.out
   clear HA
   simp only[florinlaw08_SampleReads.l0] at H
   by_cases c12:x60_1<(t346.length:Int)
   ·rw[if_pos c12] at H
    have c12b0:=decide_eq_true c12
    clear c12
    replace H:=ifn_ H
    obtain⟨c13,H⟩:=H
    have c13b0:decide (0≤x60_1)=true:=decide_eq_true c13
    clear c13
    replace H:=ifn_ H
    obtain⟨c14,H⟩:=H
    have c14b0:decide (x60_1<(t346.length:Int))=true:=decide_eq_true c14
    clear c14
    replace H:=ifp_ H
    obtain⟨c15,H⟩:=H
    have c15b0:((((rd_T35 t346 x60_1).f1).length:Int)==0)=false:=beq_eq_false_iff_ne.mpr c15
    have c15b1:((((rd_T35 t346 x60_1).f1).length:Int) !=0)=true:=bne_iff_ne.mpr c15
    have c15b2:¬(((rd_T35 t346 x60_1).f1)=[]):=fun h_=>c15 (by rw[h_];rfl)
    have H':=Aside0.mk H
    clear H
    have p351:0≤(x60_1:Int):=od_
    have q351:x60_1<(t346.length:Int):=od_
    obtain⟨ad351,A351_1,c351_1,e351,hx351_0,hx351_1,hx351_2,hl351_1,hi351_1⟩:=at_T35 (Kd.N_reads' HO_58.out).2.2 x60_1 p351 q351
    cases e351
    obtain⟨ce351,hce351,hMe351,hcc351⟩:=Kd.N_get HO_58.out z35 x60_1 p351 (by first|exact q351|exact od_|(have e_:=(Kd.N_reads' HO_58.out).1;omega))
    obtain⟨ua351_1,uc351_1,rfl,ul351_1,ge351_1⟩:=k35_openF hMe351
    have hv351_1:=hcc351 1 _ rfl
    rw[add_field _ _ 1 (by omega)] at hv351_1
    replace hv351_1:=Option.some.inj (hv351_1.symm.trans hx351_1)
    injection hv351_1 with hva_ hvn_ hvc_
    rw[hva_] at ge351_1
    rw[hvc_] at ul351_1
    have HL351_1:=Aside0.mk (show Kd.V k37 37 _ w.heap.size _ _ ((rd_T35 t346 x60_1).f1) from Kd.V_mk ul351_1 ge351_1)
    clear hva_ hvn_ hvc_ ge351_1 ul351_1
    clear hcc351 hce351
    have HR351_1:=Aside0.mk hi351_1
    have HC351_1:=Aside0.mk hl351_1
    clear hi351_1 hl351_1
    replace p351:=eq_true p351
    replace q351:=eq_true q351
    go_wp2_with (first|((with_reducible refine gate_dst (N:=9) rfl ?_);(try (refine gate_guard (by rfl) ?_;dsimp only));refine be_ 9 #[.bool false,.slice none 0 0,.bool false] 35 ?_;intro gb352 hg w16 hbox hb;have BK352:=Aside0.mk (hbox);have GW352:=sz_ HB hg;have GE352:=sz_ HB hg;replace HO_58:=Aside0.mk (Kd.N_below (Kd.N_elderB (krN_ HO_58) gb352 (Nat.le_of_eq hg.symm)) hb);replace HL351_1:=Aside0.mk (Kd.V_below (Kd.V_elderB (krV_ HL351_1) gb352 (Nat.le_of_eq hg.symm)) hb);replace HR351_1:=Aside0.mk (Kd.C_below (by repeat(first|(with_reducible exact HR351_1.out)|(with_reducible refine Kd.C_alloc ?_ _)|(with_reducible refine Kd.C_drewN ?_ _)|(with_reducible refine Kd.C_drew ?_)|exact HR351_1.out)) hb);replace HB:=Aside0.mk (below_step (bl_ HB).out hb);clear hb hbox hg;obtain⟨hcz17_0,hcz17_1,hcz17_2,hfz17_0,hfz17_1,hfz17_2⟩:=bo3_ BK352))
    repeat(go_quiet (first|((with_reducible refine gate_dst (N:=9) rfl ?_);(try (refine gate_guard (by rfl) ?_;dsimp only));refine be_ 9 #[.bool false,.slice none 0 0,.bool false] 35 ?_;intro gb352 hg w16 hbox hb;have BK352:=Aside0.mk (hbox);have GW352:=sz_ HB hg;have GE352:=sz_ HB hg;replace HO_58:=Aside0.mk (Kd.N_below (Kd.N_elderB (krN_ HO_58) gb352 (Nat.le_of_eq hg.symm)) hb);replace HL351_1:=Aside0.mk (Kd.V_below (Kd.V_elderB (krV_ HL351_1) gb352 (Nat.le_of_eq hg.symm)) hb);replace HR351_1:=Aside0.mk (Kd.C_below (by repeat(first|(with_reducible exact HR351_1.out)|(with_reducible refine Kd.C_alloc ?_ _)|(with_reducible refine Kd.C_drewN ?_ _)|(with_reducible refine Kd.C_drew ?_)|exact HR351_1.out)) hb);replace HB:=Aside0.mk (below_step (bl_ HB).out hb);clear hb hbox hg;obtain⟨hcz17_0,hcz17_1,hcz17_2,hfz17_0,hfz17_1,hfz17_2⟩:=bo3_ BK352));try go_wp2_with (first|((with_reducible refine gate_dst (N:=9) rfl ?_);(try (refine gate_guard (by rfl) ?_;dsimp only));refine be_ 9 #[.bool false,.slice none 0 0,.bool false] 35 ?_;intro gb352 hg w16 hbox hb;have BK352:=Aside0.mk (hbox);have GW352:=sz_ HB hg;have GE352:=sz_ HB hg;replace HO_58:=Aside0.mk (Kd.N_below (Kd.N_elderB (krN_ HO_58) gb352 (Nat.le_of_eq hg.symm)) hb);replace HL351_1:=Aside0.mk (Kd.V_below (Kd.V_elderB (krV_ HL351_1) gb352 (Nat.le_of_eq hg.symm)) hb);replace HR351_1:=Aside0.mk (Kd.C_below (by repeat(first|(with_reducible exact HR351_1.out)|(with_reducible refine Kd.C_alloc ?_ _)|(with_reducible refine Kd.C_drewN ?_ _)|(with_reducible refine Kd.C_drew ?_)|exact HR351_1.out)) hb);replace HB:=Aside0.mk (below_step (bl_ HB).out hb);clear hb hbox hg;obtain⟨hcz17_0,hcz17_1,hcz17_2,hfz17_0,hfz17_1,hfz17_2⟩:=bo3_ BK352)))
    go_loopg [71] k1 (fun kq v71 w'=>∃(x71_2:Int),v71= .int .i64 x71_2∧Aside0 (florinlaw08_SampleReads.l1 kq a1 t346 (t346.length:Int) x60_1 ((rd_T35 t346 x60_1).f1) (((rd_T35 t346 x60_1).f1).length:Int) x71_2 ((rd_T35 t346 x60_1).f0) ((rd_T35 t346 x60_1).f1) ((rd_T35 t346 x60_1).f2)=some r)∧Aside0 (kq≤k1)∧Aside0 (Kd.N k35 35 w' w.heap.size (fun k_=>k_≠gb352) (.slice (some ad351) t346.length co11) t346)∧Aside0 (Kd.V k37 37 w' w.heap.size (fun k_=>some k_≠((.slice (some ad351) t346.length co11):Value).ownBlock∧k_≠gb352) (.slice A351_1 ((rd_T35 t346 x60_1).f1).length c351_1) ((rd_T35 t346 x60_1).f1))∧Aside0 (Kd.V k37 37 w' w.heap.size (fun k_=>some k_≠((.slice (some ad351) t346.length co11):Value).ownBlock∧k_≠gb352) (.slice A351_1 ((rd_T35 t346 x60_1).f1).length c351_1) ((rd_T35 t346 x60_1).f1))∧Aside0 (w'.heap[gb352]? = some (.cells #[.bool ((rd_T35 t346 x60_1).f0),(.slice A351_1 ((rd_T35 t346 x60_1).f1).length c351_1),.bool ((rd_T35 t346 x60_1).f2)] 35 (0,0)))∧Aside0 (Below w.heap.size w w'))
    case atStart=>exact⟨(0),eq_,H',⟨Nat.le_refl _⟩,⟨kdN_ (Kd.N_mono (Kd.N_far (Kd.N_far (Kd.N_far (Kd.N_mono HO_58.out (fun k_ hk=>(⟨hk,hk.2⟩:_∧k_≠gb352))) (fun _ hk=>hk.2) _) (fun _ hk=>hk.2) _) (fun _ hk=>hk.2) _) (fun _ hk=>hk.1.2))⟩,⟨kdV_ (Kd.V_mono (Kd.V_far (Kd.V_far (Kd.V_far (Kd.V_mono HL351_1.out (fun k_ hk=>(⟨hk,hk.2⟩:_∧k_≠gb352))) (fun _ hk=>hk.2) _) (fun _ hk=>hk.2) _) (fun _ hk=>hk.2) _) (fun _ hk=>⟨hk.1.1.2,hk.1.2⟩))⟩,⟨kdV_ (Kd.V_mono (Kd.V_far (Kd.V_far (Kd.V_far (Kd.V_mono HL351_1.out (fun k_ hk=>(⟨hk,hk.2⟩:_∧k_≠gb352))) (fun _ hk=>hk.2) _) (fun _ hk=>hk.2) _) (fun _ hk=>hk.2) _) (fun _ hk=>⟨hk.1.1.2,hk.1.2⟩))⟩,⟨(bp_ BK352).out⟩,(bl_ HB)⟩
    clear H'
    obtain⟨x71_2,rfl,HA,HK2,HO_58,HO_69,HO_353001,BK352,HB⟩:=hrel
    cases gk with
    | zero=>exact absurd HA.out (by simp[florinlaw08_SampleReads.l1])
    | succ k2=>?_
    have H:=HA.out
    clear HA
    simp only[florinlaw08_SampleReads.l1] at H
    by_cases c18:x71_2<(((rd_T35 t346 x60_1).f1).length:Int)
    ·rw[if_pos c18] at H
     have c18b0:=decide_eq_true c18
     clear c18
     replace H:=ifn_ H
     obtain⟨c19,H⟩:=H
     have c19b0:decide (0≤x71_2)=true:=decide_eq_true c19
     clear c19
     replace H:=ifn_ H
     obtain⟨c20,H⟩:=H
     have c20b0:decide (x71_2<(((rd_T35 t346 x60_1).f1).length:Int))=true:=decide_eq_true c20
     clear c20
     replace H:=Option.bind_eq_some_iff.mp H
     obtain⟨t355,A210,H⟩:=H
     have A21:=Aside0.mk A210
     clear A210
     have HC22:=Aside0.mk H
     clear H
     have p353:0≤(x71_2:Int):=od_
     have q353:x71_2<(((rd_T35 t346 x60_1).f1).length:Int):=od_
     obtain⟨ad353,e353,hx353_0,hx353_1⟩:=at_T37 (Kd.V_reads' HO_69.out).2.2 x71_2 p353 q353
     cases e353
     replace p353:=eq_true p353
     replace q353:=eq_true q353
     go_upto_region 17 with (first|((with_reducible refine gate_dst (N:=11) rfl ?_);(try (refine gate_guard (by rfl) ?_;dsimp only));refine be_ 11 #[.string (⟨#[]⟩:ByteArray),.string (⟨#[]⟩:ByteArray)] 37 ?_;intro gb354 hg w23 hbox hb;have BK354:=Aside0.mk (hbox);have GW354:=sz_ HB hg;have GE354:=sz_ HB hg;have NB352_354:=na_ BK352 hg;have NB354_352:=nb_ BK352 hg;replace HO_58:=Aside0.mk (Kd.N_below (Kd.N_elderB (krN_ HO_58) gb354 (Nat.le_of_eq hg.symm)) hb);replace HO_69:=Aside0.mk (Kd.V_below (Kd.V_elderB (krV_ HO_69) gb354 (Nat.le_of_eq hg.symm)) hb);replace HO_353001:=Aside0.mk (Kd.V_below (Kd.V_elderB (krV_ HO_353001) gb354 (Nat.le_of_eq hg.symm)) hb);replace BK352:=bb_ BK352 hb;replace HB:=Aside0.mk (below_step (bl_ HB).out hb);clear hb hbox hg;have hnb24:=NB354_352.out;have hnc24:=NB352_354.out;obtain⟨hcz25_0,hcz25_1,hfz25_0,hfz25_1⟩:=bo2_ BK354)|(go_at_call 11;(with_reducible refine(florinlaw08_texts.calls k2 ((rd_T37 ((rd_T35 t346 x60_1).f1) x71_2).f0) ((rd_T37 ((rd_T35 t346 x60_1).f1) x71_2).f1) t355 _ A21.out).mono ?_);rintro e w26 ⟨v356,rfl,ho0,hb⟩;have n0_:=Aside0.mk (Kd.N_elder' (kfN_ gb354 HO_58) (Kd.R_base ho0) hb);have n1_:=Aside0.mk (Kd.V_elder' (kfV_ gb354 HO_69) (Kd.R_base ho0) hb);have n2_:=Aside0.mk (Kd.V_elder' (kfV_ gb354 HO_353001) (Kd.R_base ho0) hb);have n3_:=Aside0.mk (Kd.R_lower ho0 (below_size (bl_ HB).out));have n4_:=bz_ BK352 hb;have n5_:=Aside0.mk (blk_below (g:=gb354) (o:= .cells #[.string ((rd_T37 ((rd_T35 t346 x60_1).f1) x71_2).f0),.string ((rd_T37 ((rd_T35 t346 x60_1).f1) x71_2).f1)] 37 (0,0)) ((bp_ BK354).out) hb);have n6_:=Aside0.mk (below_step (bl_ HB).out hb);clear HO_58;clear HO_69;clear HO_353001;clear BK352;clear BK354;clear HB;revert n0_ n1_ n2_ n3_ n4_ n5_ n6_;intro HO_58 HO_69 HO_353001 HO357 BK352 BK354 HB;(try clear hb);(try clear ho0)))
     repeat(go_quiet (first|((with_reducible refine gate_dst (N:=11) rfl ?_);(try (refine gate_guard (by rfl) ?_;dsimp only));refine be_ 11 #[.string (⟨#[]⟩:ByteArray),.string (⟨#[]⟩:ByteArray)] 37 ?_;intro gb354 hg w23 hbox hb;have BK354:=Aside0.mk (hbox);have GW354:=sz_ HB hg;have GE354:=sz_ HB hg;have NB352_354:=na_ BK352 hg;have NB354_352:=nb_ BK352 hg;replace HO_58:=Aside0.mk (Kd.N_below (Kd.N_elderB (krN_ HO_58) gb354 (Nat.le_of_eq hg.symm)) hb);replace HO_69:=Aside0.mk (Kd.V_below (Kd.V_elderB (krV_ HO_69) gb354 (Nat.le_of_eq hg.symm)) hb);replace HO_353001:=Aside0.mk (Kd.V_below (Kd.V_elderB (krV_ HO_353001) gb354 (Nat.le_of_eq hg.symm)) hb);replace BK352:=bb_ BK352 hb;replace HB:=Aside0.mk (below_step (bl_ HB).out hb);clear hb hbox hg;have hnb24:=NB354_352.out;have hnc24:=NB352_354.out;obtain⟨hcz25_0,hcz25_1,hfz25_0,hfz25_1⟩:=bo2_ BK354)|(go_at_call 11;(with_reducible refine(florinlaw08_texts.calls k2 ((rd_T37 ((rd_T35 t346 x60_1).f1) x71_2).f0) ((rd_T37 ((rd_T35 t346 x60_1).f1) x71_2).f1) t355 _ A21.out).mono ?_);rintro e w26 ⟨v356,rfl,ho0,hb⟩;have n0_:=Aside0.mk (Kd.N_elder' (kfN_ gb354 HO_58) (Kd.R_base ho0) hb);have n1_:=Aside0.mk (Kd.V_elder' (kfV_ gb354 HO_69) (Kd.R_base ho0) hb);have n2_:=Aside0.mk (Kd.V_elder' (kfV_ gb354 HO_353001) (Kd.R_base ho0) hb);have n3_:=Aside0.mk (Kd.R_lower ho0 (below_size (bl_ HB).out));have n4_:=bz_ BK352 hb;have n5_:=Aside0.mk (blk_below (g:=gb354) (o:= .cells #[.string ((rd_T37 ((rd_T35 t346 x60_1).f1) x71_2).f0),.string ((rd_T37 ((rd_T35 t346 x60_1).f1) x71_2).f1)] 37 (0,0)) ((bp_ BK354).out) hb);have n6_:=Aside0.mk (below_step (bl_ HB).out hb);clear HO_58;clear HO_69;clear HO_353001;clear BK352;clear BK354;clear HB;revert n0_ n1_ n2_ n3_ n4_ n5_ n6_;intro HO_58 HO_69 HO_353001 HO357 BK352 BK354 HB;(try clear hb);(try clear ho0)));go_upto_region 17 with (first|((with_reducible refine gate_dst (N:=11) rfl ?_);(try (refine gate_guard (by rfl) ?_;dsimp only));refine be_ 11 #[.string (⟨#[]⟩:ByteArray),.string (⟨#[]⟩:ByteArray)] 37 ?_;intro gb354 hg w23 hbox hb;have BK354:=Aside0.mk (hbox);have GW354:=sz_ HB hg;have GE354:=sz_ HB hg;have NB352_354:=na_ BK352 hg;have NB354_352:=nb_ BK352 hg;replace HO_58:=Aside0.mk (Kd.N_below (Kd.N_elderB (krN_ HO_58) gb354 (Nat.le_of_eq hg.symm)) hb);replace HO_69:=Aside0.mk (Kd.V_below (Kd.V_elderB (krV_ HO_69) gb354 (Nat.le_of_eq hg.symm)) hb);replace HO_353001:=Aside0.mk (Kd.V_below (Kd.V_elderB (krV_ HO_353001) gb354 (Nat.le_of_eq hg.symm)) hb);replace BK352:=bb_ BK352 hb;replace HB:=Aside0.mk (below_step (bl_ HB).out hb);clear hb hbox hg;have hnb24:=NB354_352.out;have hnc24:=NB352_354.out;obtain⟨hcz25_0,hcz25_1,hfz25_0,hfz25_1⟩:=bo2_ BK354)|(go_at_call 11;(with_reducible refine(florinlaw08_texts.calls k2 ((rd_T37 ((rd_T35 t346 x60_1).f1) x71_2).f0) ((rd_T37 ((rd_T35 t346 x60_1).f1) x71_2).f1) t355 _ A21.out).mono ?_);rintro e w26 ⟨v356,rfl,ho0,hb⟩;have n0_:=Aside0.mk (Kd.N_elder' (kfN_ gb354 HO_58) (Kd.R_base ho0) hb);have n1_:=Aside0.mk (Kd.V_elder' (kfV_ gb354 HO_69) (Kd.R_base ho0) hb);have n2_:=Aside0.mk (Kd.V_elder' (kfV_ gb354 HO_353001) (Kd.R_base ho0) hb);have n3_:=Aside0.mk (Kd.R_lower ho0 (below_size (bl_ HB).out));have n4_:=bz_ BK352 hb;have n5_:=Aside0.mk (blk_below (g:=gb354) (o:= .cells #[.string ((rd_T37 ((rd_T35 t346 x60_1).f1) x71_2).f0),.string ((rd_T37 ((rd_T35 t346 x60_1).f1) x71_2).f1)] 37 (0,0)) ((bp_ BK354).out) hb);have n6_:=Aside0.mk (below_step (bl_ HB).out hb);clear HO_58;clear HO_69;clear HO_353001;clear BK352;clear BK354;clear HB;revert n0_ n1_ n2_ n3_ n4_ n5_ n6_;intro HO_58 HO_69 HO_353001 HO357 BK352 BK354 HB;(try clear hb);(try clear ho0))))
     (try simp only[Act.put,List.setIfInBounds_toArray,List.set_cons_zero,List.set_cons_succ])
     go_cut [102] (fun v102 wc=>∃(kq:Nat) (x102_21:Bool),v102= .bool x102_21∧Aside0 (florinlaw08_SampleReads.j2 kq a1 t355 t346 (t346.length:Int) x60_1 ((rd_T35 t346 x60_1).f1) (((rd_T35 t346 x60_1).f1).length:Int) x71_2 x102_21 ((rd_T35 t346 x60_1).f0) ((rd_T35 t346 x60_1).f1) ((rd_T35 t346 x60_1).f2) ((rd_T37 ((rd_T35 t346 x60_1).f1) x71_2).f0) ((rd_T37 ((rd_T35 t346 x60_1).f1) x71_2).f1)=some r)∧Aside0 (kq≤k2)∧Aside0 (Kd.R Kd.string 9 wc w.heap.size (fun _=>True) v356 t355)∧Aside0 (Kd.N k35 35 wc w.heap.size (fun k_=>some k_≠(v356:Value).ownBlock∧k_≠gb352∧k_≠gb354) (.slice (some ad351) t346.length co11) t346)∧Aside0 (Kd.V k37 37 wc w.heap.size (fun k_=>some k_≠(v356:Value).ownBlock∧some k_≠((.slice (some ad351) t346.length co11):Value).ownBlock∧k_≠gb352∧k_≠gb354) (.slice (some ad353) ((rd_T35 t346 x60_1).f1).length c351_1) ((rd_T35 t346 x60_1).f1))∧Aside0 (Kd.V k37 37 wc w.heap.size (fun k_=>some k_≠(v356:Value).ownBlock∧some k_≠((.slice (some ad351) t346.length co11):Value).ownBlock∧k_≠gb352∧k_≠gb354) (.slice (some ad353) ((rd_T35 t346 x60_1).f1).length c351_1) ((rd_T35 t346 x60_1).f1))∧Aside0 (wc.heap[gb352]? = some (.cells #[.bool ((rd_T35 t346 x60_1).f0),(.slice (some ad353) ((rd_T35 t346 x60_1).f1).length c351_1),.bool ((rd_T35 t346 x60_1).f2)] 35 (0,0)))∧Aside0 (wc.heap[gb354]? = some (.cells #[.string ((rd_T37 ((rd_T35 t346 x60_1).f1) x71_2).f0),.string ((rd_T37 ((rd_T35 t346 x60_1).f1) x71_2).f1)] 37 (0,0)))∧Aside0 (Below w.heap.size w wc))
     case first =>
      have H:=HC22.out
      clear HC22
      replace H:=ifp_ H
      obtain⟨c27,H⟩:=H
      have c27b0:((t355.length:Int)==0)=false:=beq_eq_false_iff_ne.mpr c27
      have c27b1:((t355.length:Int) !=0)=true:=bne_iff_ne.mpr c27
      have c27b2:¬(t355=[]):=fun h_=>c27 (by rw[h_];rfl)
      (first|rw[c27b0]|(simp only[i64_w,i32_w];rw[c27b0])|skip)
      replace H:=ifp_ H
      obtain⟨c28,H⟩:=H
      have c28b0:decide (1000<(t355.length:Int))=false:=decide_eq_false c28
      have c28b1:decide (1000<t355.length)=false:=decide_eq_false (by omega)
      clear c28
      replace H:=ifn_ H
      obtain⟨c29,H⟩:=H
      have c29b0:decide (0<(t355.length:Int))=true:=decide_eq_true c29
      have c29b1:decide (0<t355.length)=true:=decide_eq_true (by omega)
      clear c29
      replace H:=ifn_ H
      obtain⟨c30,H⟩:=H
      have c30b0:((rdOf ByteArray.empty t355 0).toList==((rd_T37 ((rd_T35 t346 x60_1).f1) x71_2).f0).toList)=true:=beq_iff_eq.mpr c30
      have c30b1:((rdOf ByteArray.empty t355 0).toList !=((rd_T37 ((rd_T35 t346 x60_1).f1) x71_2).f0).toList)=false:=bne_eq_false_iff_eq.mpr c30
      clear c30
      by_cases c31:((rd_T37 ((rd_T35 t346 x60_1).f1) x71_2).f1).toList=([]:List UInt8)
      ·rw[if_pos c31] at H
       have c31b0:(((rd_T37 ((rd_T35 t346 x60_1).f1) x71_2).f1).toList==([]:List UInt8))=true:=beq_iff_eq.mpr c31
       have c31b1:(((rd_T37 ((rd_T35 t346 x60_1).f1) x71_2).f1).toList !=([]:List UInt8))=false:=bne_eq_false_iff_eq.mpr c31
       have c31b2:(((rd_T37 ((rd_T35 t346 x60_1).f1) x71_2).f1).toList.isEmpty)=true:=by rw[c31];rfl
       clear c31
       have H':=Aside0.mk H
       clear H
       obtain⟨Ao32,co32,eo32⟩:=Kd.R_slice HO357.out
       subst eo32
       have p358:0≤(0:Int):=(by omega)
       have q358:0<(t355.length:Int):=od_
       obtain⟨ad358,e358,hx358_0⟩:=Kd.at_string (Kd.R_reads' HO357.out).2.2 0 p358 q358
       cases e358
       have qi358:(0<t355.length)=True:=eq_true (by omega)
       (try rw[show((0:Int)).toNat=0 from rfl] at hx358_0)
       (try rw[Addr.add_zero'] at hx358_0)
       replace p358:=eq_true p358
       replace q358:=eq_true q358
       have hnb33:=NB354_352.out
       have hnc33:=NB352_354.out
       obtain⟨hcz34_0,hcz34_1,hfz34_0,hfz34_1⟩:=bo2_ BK354
       go_wp2
       repeat(go_quiet (fail);try go_wp2)
       go_meet
       case rel=>exact⟨_,(((t355.length:Int) !=1)),eq_,H',⟨by have:=HK1.out;have:=HK2.out;first|omega|exact Nat.le_refl _⟩,⟨kdR_ HO357.out⟩,⟨kdN_ (Kd.N_mono HO_58.out (fun _ hk=>⟨hk.2,⟨hk.1.1,hk.1.2⟩⟩))⟩,⟨kdV_ (Kd.V_mono HO_69.out (fun _ hk=>⟨hk.2,⟨hk.1.1.1,⟨hk.1.1.2,hk.1.2⟩⟩⟩))⟩,⟨kdV_ (Kd.V_mono HO_353001.out (fun _ hk=>⟨hk.2,⟨hk.1.1.1,⟨hk.1.1.2,hk.1.2⟩⟩⟩))⟩,(bk_ BK352),(bk_ BK354),(bl_ HB)⟩
      rw[if_neg c31] at H
      have c31b0:(((rd_T37 ((rd_T35 t346 x60_1).f1) x71_2).f1).toList==([]:List UInt8))=false:=beq_eq_false_iff_ne.mpr c31
      have c31b1:(((rd_T37 ((rd_T35 t346 x60_1).f1) x71_2).f1).toList !=([]:List UInt8))=true:=bne_iff_ne.mpr c31
      have c31b2:(((rd_T37 ((rd_T35 t346 x60_1).f1) x71_2).f1).toList.isEmpty)=false:=by rw[given_isEmpty,bne_iff_ne.mpr c31];rfl
      have H':=Aside0.mk H
      clear H
      obtain⟨Ao35,co35,eo35⟩:=Kd.R_slice HO357.out
      subst eo35
      have p358:0≤(0:Int):=(by omega)
      have q358:0<(t355.length:Int):=od_
      obtain⟨ad358,e358,hx358_0⟩:=Kd.at_string (Kd.R_reads' HO357.out).2.2 0 p358 q358
      cases e358
      have qi358:(0<t355.length)=True:=eq_true (by omega)
      (try rw[show((0:Int)).toNat=0 from rfl] at hx358_0)
      (try rw[Addr.add_zero'] at hx358_0)
      replace p358:=eq_true p358
      replace q358:=eq_true q358
      have hnb36:=NB354_352.out
      have hnc36:=NB352_354.out
      obtain⟨hcz37_0,hcz37_1,hfz37_0,hfz37_1⟩:=bo2_ BK354
      go_wp2
      repeat(go_quiet (fail);try go_wp2)
      go_meet
      case rel=>exact⟨_,(false),eq_,H',⟨by have:=HK1.out;have:=HK2.out;first|omega|exact Nat.le_refl _⟩,⟨kdR_ HO357.out⟩,⟨kdN_ (Kd.N_mono HO_58.out (fun _ hk=>⟨hk.2,⟨hk.1.1,hk.1.2⟩⟩))⟩,⟨kdV_ (Kd.V_mono HO_69.out (fun _ hk=>⟨hk.2,⟨hk.1.1.1,⟨hk.1.1.2,hk.1.2⟩⟩⟩))⟩,⟨kdV_ (Kd.V_mono HO_353001.out (fun _ hk=>⟨hk.2,⟨hk.1.1.1,⟨hk.1.1.2,hk.1.2⟩⟩⟩))⟩,(bk_ BK352),(bk_ BK354),(bl_ HB)⟩
     clear HC22
     obtain⟨kq,x102_21,rfl,HA,HJ21,HO_12,HO_58,HO_69,HO_353001,BK352,BK354,HB⟩:=hcut
     cases kq with
     | zero=>exact absurd HA.out (by simp[florinlaw08_SampleReads.j2])
     | succ kj21=>?_
     have H:=HA.out
     clear HA
     simp only[florinlaw08_SampleReads.j2] at H
     by_cases c38:x102_21=true
     ·subst c38
      rw[if_pos rfl] at H
      exact absurd H (by simp)
     replace c38:=Bool.eq_false_iff.mpr c38
     subst c38
     rw[if_neg (show ¬(false=true) by decide)] at H
     obtain⟨ji39,hji39⟩:∃j_:Int,(wrap64 ((t355.length:Int)-1))=j_:=⟨_,rfl⟩
     replace H:(if 0≤(ji39) then (if (ji39)<(t355.length:Int) then ((operand_Read.f kj21 (rdOf ByteArray.empty t355 (ji39))).bind fun bt360=>(if ((rd_T37 ((rd_T35 t346 x60_1).f1) x71_2).f1).toList=([]:List UInt8) then (florinlaw08_SampleReads.j3 kj21 a1 t355 bt360.2.2.2 t346 (t346.length:Int) x60_1 ((rd_T35 t346 x60_1).f1) (((rd_T35 t346 x60_1).f1).length:Int) x71_2 ((rd_T35 t346 x60_1).f0) ((rd_T35 t346 x60_1).f1) ((rd_T35 t346 x60_1).f2) ((rd_T37 ((rd_T35 t346 x60_1).f1) x71_2).f0) ((rd_T37 ((rd_T35 t346 x60_1).f1) x71_2).f1) bt360.1 bt360.2.1 bt360.2.2.1 bt360.1 bt360.2.1 bt360.2.2.1) else ((operand_Read.f kj21 ((rd_T37 ((rd_T35 t346 x60_1).f1) x71_2).f1)).bind fun bt366=>(florinlaw08_SampleReads.j3 kj21 a1 t355 bt360.2.2.2 t346 (t346.length:Int) x60_1 ((rd_T35 t346 x60_1).f1) (((rd_T35 t346 x60_1).f1).length:Int) x71_2 ((rd_T35 t346 x60_1).f0) ((rd_T35 t346 x60_1).f1) ((rd_T35 t346 x60_1).f2) ((rd_T37 ((rd_T35 t346 x60_1).f1) x71_2).f0) ((rd_T37 ((rd_T35 t346 x60_1).f1) x71_2).f1) bt360.1 bt360.2.1 bt360.2.2.1 bt366.1 bt366.2.1 bt366.2.2.1)))) else (none)) else (none))=some r:=by first|(rw[hji39] at H;exact H)|(simp only[hji39] at H ⊢;exact H)
     have hji39w:(IntKind.i64.wrap ((t355.length:Int)-1))=ji39:=(i64_w _).trans hji39
     replace H:=ifn_ H
     obtain⟨c40,H⟩:=H
     have c40b0:decide (0≤(ji39))=true:=decide_eq_true c40
     clear c40
     replace H:=ifn_ H
     obtain⟨c41,H⟩:=H
     have c41b0:decide ((ji39)<(t355.length:Int))=true:=decide_eq_true c41
     clear c41
     replace H:=Option.bind_eq_some_iff.mp H
     obtain⟨⟨t360,t361,t362,t363⟩,A420,H⟩:=H
     dsimp only at H
     have A42:=Aside0.mk A420
     clear A420
     have HC43:=Aside0.mk H
     clear H
     obtain⟨Ao44,co44,eo44⟩:=Kd.R_slice HO_12.out
     subst eo44
     have p359:0≤((ji39):Int):=od_
     have q359:(ji39)<(t355.length:Int):=od_
     obtain⟨ad359,e359,hx359_0⟩:=Kd.at_string (Kd.R_reads' HO_12.out).2.2 (ji39) p359 q359
     cases e359
     replace p359:=eq_true p359
     replace q359:=eq_true q359
     go_upto_if 116 with (first|(go_at_call 12;(with_reducible refine(operand_Read.calls _ _ _ _ _ _ _ A42.out).mono ?_);rintro e w45 ⟨rfl,hb⟩;replace HO_12:=kb_ HO_12 hb;replace HO_58:=Aside0.mk (Kd.N_below (krN_ HO_58) hb);replace HO_69:=Aside0.mk (Kd.V_below (krV_ HO_69) hb);replace HO_353001:=Aside0.mk (Kd.V_below (krV_ HO_353001) hb);replace BK352:=bb_ BK352 hb;replace BK354:=bb_ BK354 hb;replace HB:=Aside0.mk (below_step (bl_ HB).out hb);(try clear hb);(try clear hi))|((with_reducible refine gate_dst (N:=13) rfl ?_);(try (refine gate_guard (by rfl) ?_;dsimp only));refine be_ 13 #[.string (⟨#[]⟩:ByteArray),.string (⟨#[]⟩:ByteArray),.int .i64 0] 41 ?_;intro gb364 hg w46 hbox hb;have BK364:=Aside0.mk (hbox);have GW364:=sz_ HB hg;have GE364:=sz_ HB hg;have NB352_364:=na_ BK352 hg;have NB364_352:=nb_ BK352 hg;have NB354_364:=na_ BK354 hg;have NB364_354:=nb_ BK354 hg;replace HO_12:=kb_ HO_12 hb;replace HO_58:=Aside0.mk (Kd.N_below (Kd.N_elderB (krN_ HO_58) gb364 (Nat.le_of_eq hg.symm)) hb);replace HO_69:=Aside0.mk (Kd.V_below (Kd.V_elderB (krV_ HO_69) gb364 (Nat.le_of_eq hg.symm)) hb);replace HO_353001:=Aside0.mk (Kd.V_below (Kd.V_elderB (krV_ HO_353001) gb364 (Nat.le_of_eq hg.symm)) hb);replace BK352:=bb_ BK352 hb;replace BK354:=bb_ BK354 hb;replace HB:=Aside0.mk (below_step (bl_ HB).out hb);clear hb hbox hg;have hnb47:=NB364_352.out;have hnc47:=NB352_364.out;have hnb48:=NB364_354.out;have hnc48:=NB354_364.out;obtain⟨hcz49_0,hcz49_1,hcz49_2,hfz49_0,hfz49_1,hfz49_2⟩:=bo3_ BK364)|((with_reducible refine gate_dst (N:=15) rfl ?_);(try (refine gate_guard (by rfl) ?_;dsimp only));refine be_ 15 #[.string (⟨#[]⟩:ByteArray),.string (⟨#[]⟩:ByteArray),.int .i64 0] 41 ?_;intro gb365 hg w50 hbox hb;have n0_:=Aside0.mk (Kd.R_below (kdR_ ((Kd.R_mono (Kd.R_far (Kd.R_far (Kd.R_far (Kd.R_types HO_12.out BK364.out (by decide)) (fun _ hk=>hk.2) _) (fun _ hk=>hk.2) _) (fun _ hk=>hk.2) _) (fun _ h_=>h_.1)))) hb);have n1_:=Aside0.mk (Kd.N_below (Kd.N_elderB (kfN_ gb364 HO_58) gb365 (Nat.le_of_eq hg.symm)) hb);have n2_:=Aside0.mk (Kd.V_below (Kd.V_elderB (kfV_ gb364 HO_69) gb365 (Nat.le_of_eq hg.symm)) hb);have n3_:=Aside0.mk (Kd.V_below (Kd.V_elderB (kfV_ gb364 HO_353001) gb365 (Nat.le_of_eq hg.symm)) hb);have n4_:=bz_ BK352 hb;have n5_:=bz_ BK354 hb;have n6_:=Aside0.mk (blk_below (g:=gb364) (o:= .cells #[.string t360,.string t361,.int .i64 t362] 41 (0,0)) ((bp_ BK364).out) hb);have n7_:=Aside0.mk (below_step (bl_ HB).out hb);have n8_:=Aside0.mk (hbox);have n9_:=sz_ HB hg;have n10_:=sz_ HB hg;have n11_:=Aside0.mk ((by rw[hg];exact Nat.ne_of_lt (blk_lt (g:=gb352) (o:= .cells #[.bool ((rd_T35 t346 x60_1).f0),.slice (some ad353) ((rd_T35 t346 x60_1).f1).length c351_1,.bool ((rd_T35 t346 x60_1).f2)] 35 (0,0)) ((bf_ BK352).out)):gb352≠gb365));have n12_:=Aside0.mk ((by rw[hg];exact Nat.ne_of_gt (blk_lt (g:=gb352) (o:= .cells #[.bool ((rd_T35 t346 x60_1).f0),.slice (some ad353) ((rd_T35 t346 x60_1).f1).length c351_1,.bool ((rd_T35 t346 x60_1).f2)] 35 (0,0)) ((bf_ BK352).out)):gb365≠gb352));have n13_:=Aside0.mk ((by rw[hg];exact Nat.ne_of_lt (blk_lt (g:=gb354) (o:= .cells #[.string ((rd_T37 ((rd_T35 t346 x60_1).f1) x71_2).f0),.string ((rd_T37 ((rd_T35 t346 x60_1).f1) x71_2).f1)] 37 (0,0)) ((bf_ BK354).out)):gb354≠gb365));have n14_:=Aside0.mk ((by rw[hg];exact Nat.ne_of_gt (blk_lt (g:=gb354) (o:= .cells #[.string ((rd_T37 ((rd_T35 t346 x60_1).f1) x71_2).f0),.string ((rd_T37 ((rd_T35 t346 x60_1).f1) x71_2).f1)] 37 (0,0)) ((bf_ BK354).out)):gb365≠gb354));have n15_:=Aside0.mk ((by rw[hg];exact Nat.ne_of_lt (blk_lt (g:=gb364) (o:= .cells #[.string t360,.string t361,.int .i64 t362] 41 (0,0)) ((bp_ BK364).out)):gb364≠gb365));have n16_:=Aside0.mk ((by rw[hg];exact Nat.ne_of_gt (blk_lt (g:=gb364) (o:= .cells #[.string t360,.string t361,.int .i64 t362] 41 (0,0)) ((bp_ BK364).out)):gb365≠gb364));clear HO_12;clear HO_58;clear HO_69;clear HO_353001;clear BK352;clear BK354;clear BK364;clear HB;revert n0_ n1_ n2_ n3_ n4_ n5_ n6_ n7_ n8_ n9_ n10_ n11_ n12_ n13_ n14_ n15_ n16_;intro HO_12 HO_58 HO_69 HO_353001 BK352 BK354 BK364 HB BK365 GW365 GE365 NB352_365 NB365_352 NB354_365 NB365_354 NB364_365 NB365_364;clear hb hbox hg;have hnb51:=NB365_352.out;have hnc51:=NB352_365.out;have hnb52:=NB365_354.out;have hnc52:=NB354_365.out;have hnb53:=NB365_364.out;have hnc53:=NB364_365.out;obtain⟨hcz54_0,hcz54_1,hcz54_2,hfz54_0,hfz54_1,hfz54_2⟩:=bo3_ BK365;have hnb55:=NB354_352.out;have hnc55:=NB352_354.out;obtain⟨hcz56_0,hcz56_1,hfz56_0,hfz56_1⟩:=bo2_ BK354))
     repeat(go_quiet (first|(go_at_call 12;(with_reducible refine(operand_Read.calls _ _ _ _ _ _ _ A42.out).mono ?_);rintro e w45 ⟨rfl,hb⟩;replace HO_12:=kb_ HO_12 hb;replace HO_58:=Aside0.mk (Kd.N_below (krN_ HO_58) hb);replace HO_69:=Aside0.mk (Kd.V_below (krV_ HO_69) hb);replace HO_353001:=Aside0.mk (Kd.V_below (krV_ HO_353001) hb);replace BK352:=bb_ BK352 hb;replace BK354:=bb_ BK354 hb;replace HB:=Aside0.mk (below_step (bl_ HB).out hb);(try clear hb);(try clear hi))|((with_reducible refine gate_dst (N:=13) rfl ?_);(try (refine gate_guard (by rfl) ?_;dsimp only));refine be_ 13 #[.string (⟨#[]⟩:ByteArray),.string (⟨#[]⟩:ByteArray),.int .i64 0] 41 ?_;intro gb364 hg w46 hbox hb;have BK364:=Aside0.mk (hbox);have GW364:=sz_ HB hg;have GE364:=sz_ HB hg;have NB352_364:=na_ BK352 hg;have NB364_352:=nb_ BK352 hg;have NB354_364:=na_ BK354 hg;have NB364_354:=nb_ BK354 hg;replace HO_12:=kb_ HO_12 hb;replace HO_58:=Aside0.mk (Kd.N_below (Kd.N_elderB (krN_ HO_58) gb364 (Nat.le_of_eq hg.symm)) hb);replace HO_69:=Aside0.mk (Kd.V_below (Kd.V_elderB (krV_ HO_69) gb364 (Nat.le_of_eq hg.symm)) hb);replace HO_353001:=Aside0.mk (Kd.V_below (Kd.V_elderB (krV_ HO_353001) gb364 (Nat.le_of_eq hg.symm)) hb);replace BK352:=bb_ BK352 hb;replace BK354:=bb_ BK354 hb;replace HB:=Aside0.mk (below_step (bl_ HB).out hb);clear hb hbox hg;have hnb47:=NB364_352.out;have hnc47:=NB352_364.out;have hnb48:=NB364_354.out;have hnc48:=NB354_364.out;obtain⟨hcz49_0,hcz49_1,hcz49_2,hfz49_0,hfz49_1,hfz49_2⟩:=bo3_ BK364)|((with_reducible refine gate_dst (N:=15) rfl ?_);(try (refine gate_guard (by rfl) ?_;dsimp only));refine be_ 15 #[.string (⟨#[]⟩:ByteArray),.string (⟨#[]⟩:ByteArray),.int .i64 0] 41 ?_;intro gb365 hg w50 hbox hb;have n0_:=Aside0.mk (Kd.R_below (kdR_ ((Kd.R_mono (Kd.R_far (Kd.R_far (Kd.R_far (Kd.R_types HO_12.out BK364.out (by decide)) (fun _ hk=>hk.2) _) (fun _ hk=>hk.2) _) (fun _ hk=>hk.2) _) (fun _ h_=>h_.1)))) hb);have n1_:=Aside0.mk (Kd.N_below (Kd.N_elderB (kfN_ gb364 HO_58) gb365 (Nat.le_of_eq hg.symm)) hb);have n2_:=Aside0.mk (Kd.V_below (Kd.V_elderB (kfV_ gb364 HO_69) gb365 (Nat.le_of_eq hg.symm)) hb);have n3_:=Aside0.mk (Kd.V_below (Kd.V_elderB (kfV_ gb364 HO_353001) gb365 (Nat.le_of_eq hg.symm)) hb);have n4_:=bz_ BK352 hb;have n5_:=bz_ BK354 hb;have n6_:=Aside0.mk (blk_below (g:=gb364) (o:= .cells #[.string t360,.string t361,.int .i64 t362] 41 (0,0)) ((bp_ BK364).out) hb);have n7_:=Aside0.mk (below_step (bl_ HB).out hb);have n8_:=Aside0.mk (hbox);have n9_:=sz_ HB hg;have n10_:=sz_ HB hg;have n11_:=Aside0.mk ((by rw[hg];exact Nat.ne_of_lt (blk_lt (g:=gb352) (o:= .cells #[.bool ((rd_T35 t346 x60_1).f0),.slice (some ad353) ((rd_T35 t346 x60_1).f1).length c351_1,.bool ((rd_T35 t346 x60_1).f2)] 35 (0,0)) ((bf_ BK352).out)):gb352≠gb365));have n12_:=Aside0.mk ((by rw[hg];exact Nat.ne_of_gt (blk_lt (g:=gb352) (o:= .cells #[.bool ((rd_T35 t346 x60_1).f0),.slice (some ad353) ((rd_T35 t346 x60_1).f1).length c351_1,.bool ((rd_T35 t346 x60_1).f2)] 35 (0,0)) ((bf_ BK352).out)):gb365≠gb352));have n13_:=Aside0.mk ((by rw[hg];exact Nat.ne_of_lt (blk_lt (g:=gb354) (o:= .cells #[.string ((rd_T37 ((rd_T35 t346 x60_1).f1) x71_2).f0),.string ((rd_T37 ((rd_T35 t346 x60_1).f1) x71_2).f1)] 37 (0,0)) ((bf_ BK354).out)):gb354≠gb365));have n14_:=Aside0.mk ((by rw[hg];exact Nat.ne_of_gt (blk_lt (g:=gb354) (o:= .cells #[.string ((rd_T37 ((rd_T35 t346 x60_1).f1) x71_2).f0),.string ((rd_T37 ((rd_T35 t346 x60_1).f1) x71_2).f1)] 37 (0,0)) ((bf_ BK354).out)):gb365≠gb354));have n15_:=Aside0.mk ((by rw[hg];exact Nat.ne_of_lt (blk_lt (g:=gb364) (o:= .cells #[.string t360,.string t361,.int .i64 t362] 41 (0,0)) ((bp_ BK364).out)):gb364≠gb365));have n16_:=Aside0.mk ((by rw[hg];exact Nat.ne_of_gt (blk_lt (g:=gb364) (o:= .cells #[.string t360,.string t361,.int .i64 t362] 41 (0,0)) ((bp_ BK364).out)):gb365≠gb364));clear HO_12;clear HO_58;clear HO_69;clear HO_353001;clear BK352;clear BK354;clear BK364;clear HB;revert n0_ n1_ n2_ n3_ n4_ n5_ n6_ n7_ n8_ n9_ n10_ n11_ n12_ n13_ n14_ n15_ n16_;intro HO_12 HO_58 HO_69 HO_353001 BK352 BK354 BK364 HB BK365 GW365 GE365 NB352_365 NB365_352 NB354_365 NB365_354 NB364_365 NB365_364;clear hb hbox hg;have hnb51:=NB365_352.out;have hnc51:=NB352_365.out;have hnb52:=NB365_354.out;have hnc52:=NB354_365.out;have hnb53:=NB365_364.out;have hnc53:=NB364_365.out;obtain⟨hcz54_0,hcz54_1,hcz54_2,hfz54_0,hfz54_1,hfz54_2⟩:=bo3_ BK365;have hnb55:=NB354_352.out;have hnc55:=NB352_354.out;obtain⟨hcz56_0,hcz56_1,hfz56_0,hfz56_1⟩:=bo2_ BK354));go_upto_if 116 with (first|(go_at_call 12;(with_reducible refine(operand_Read.calls _ _ _ _ _ _ _ A42.out).mono ?_);rintro e w45 ⟨rfl,hb⟩;replace HO_12:=kb_ HO_12 hb;replace HO_58:=Aside0.mk (Kd.N_below (krN_ HO_58) hb);replace HO_69:=Aside0.mk (Kd.V_below (krV_ HO_69) hb);replace HO_353001:=Aside0.mk (Kd.V_below (krV_ HO_353001) hb);replace BK352:=bb_ BK352 hb;replace BK354:=bb_ BK354 hb;replace HB:=Aside0.mk (below_step (bl_ HB).out hb);(try clear hb);(try clear hi))|((with_reducible refine gate_dst (N:=13) rfl ?_);(try (refine gate_guard (by rfl) ?_;dsimp only));refine be_ 13 #[.string (⟨#[]⟩:ByteArray),.string (⟨#[]⟩:ByteArray),.int .i64 0] 41 ?_;intro gb364 hg w46 hbox hb;have BK364:=Aside0.mk (hbox);have GW364:=sz_ HB hg;have GE364:=sz_ HB hg;have NB352_364:=na_ BK352 hg;have NB364_352:=nb_ BK352 hg;have NB354_364:=na_ BK354 hg;have NB364_354:=nb_ BK354 hg;replace HO_12:=kb_ HO_12 hb;replace HO_58:=Aside0.mk (Kd.N_below (Kd.N_elderB (krN_ HO_58) gb364 (Nat.le_of_eq hg.symm)) hb);replace HO_69:=Aside0.mk (Kd.V_below (Kd.V_elderB (krV_ HO_69) gb364 (Nat.le_of_eq hg.symm)) hb);replace HO_353001:=Aside0.mk (Kd.V_below (Kd.V_elderB (krV_ HO_353001) gb364 (Nat.le_of_eq hg.symm)) hb);replace BK352:=bb_ BK352 hb;replace BK354:=bb_ BK354 hb;replace HB:=Aside0.mk (below_step (bl_ HB).out hb);clear hb hbox hg;have hnb47:=NB364_352.out;have hnc47:=NB352_364.out;have hnb48:=NB364_354.out;have hnc48:=NB354_364.out;obtain⟨hcz49_0,hcz49_1,hcz49_2,hfz49_0,hfz49_1,hfz49_2⟩:=bo3_ BK364)|((with_reducible refine gate_dst (N:=15) rfl ?_);(try (refine gate_guard (by rfl) ?_;dsimp only));refine be_ 15 #[.string (⟨#[]⟩:ByteArray),.string (⟨#[]⟩:ByteArray),.int .i64 0] 41 ?_;intro gb365 hg w50 hbox hb;have n0_:=Aside0.mk (Kd.R_below (kdR_ ((Kd.R_mono (Kd.R_far (Kd.R_far (Kd.R_far (Kd.R_types HO_12.out BK364.out (by decide)) (fun _ hk=>hk.2) _) (fun _ hk=>hk.2) _) (fun _ hk=>hk.2) _) (fun _ h_=>h_.1)))) hb);have n1_:=Aside0.mk (Kd.N_below (Kd.N_elderB (kfN_ gb364 HO_58) gb365 (Nat.le_of_eq hg.symm)) hb);have n2_:=Aside0.mk (Kd.V_below (Kd.V_elderB (kfV_ gb364 HO_69) gb365 (Nat.le_of_eq hg.symm)) hb);have n3_:=Aside0.mk (Kd.V_below (Kd.V_elderB (kfV_ gb364 HO_353001) gb365 (Nat.le_of_eq hg.symm)) hb);have n4_:=bz_ BK352 hb;have n5_:=bz_ BK354 hb;have n6_:=Aside0.mk (blk_below (g:=gb364) (o:= .cells #[.string t360,.string t361,.int .i64 t362] 41 (0,0)) ((bp_ BK364).out) hb);have n7_:=Aside0.mk (below_step (bl_ HB).out hb);have n8_:=Aside0.mk (hbox);have n9_:=sz_ HB hg;have n10_:=sz_ HB hg;have n11_:=Aside0.mk ((by rw[hg];exact Nat.ne_of_lt (blk_lt (g:=gb352) (o:= .cells #[.bool ((rd_T35 t346 x60_1).f0),.slice (some ad353) ((rd_T35 t346 x60_1).f1).length c351_1,.bool ((rd_T35 t346 x60_1).f2)] 35 (0,0)) ((bf_ BK352).out)):gb352≠gb365));have n12_:=Aside0.mk ((by rw[hg];exact Nat.ne_of_gt (blk_lt (g:=gb352) (o:= .cells #[.bool ((rd_T35 t346 x60_1).f0),.slice (some ad353) ((rd_T35 t346 x60_1).f1).length c351_1,.bool ((rd_T35 t346 x60_1).f2)] 35 (0,0)) ((bf_ BK352).out)):gb365≠gb352));have n13_:=Aside0.mk ((by rw[hg];exact Nat.ne_of_lt (blk_lt (g:=gb354) (o:= .cells #[.string ((rd_T37 ((rd_T35 t346 x60_1).f1) x71_2).f0),.string ((rd_T37 ((rd_T35 t346 x60_1).f1) x71_2).f1)] 37 (0,0)) ((bf_ BK354).out)):gb354≠gb365));have n14_:=Aside0.mk ((by rw[hg];exact Nat.ne_of_gt (blk_lt (g:=gb354) (o:= .cells #[.string ((rd_T37 ((rd_T35 t346 x60_1).f1) x71_2).f0),.string ((rd_T37 ((rd_T35 t346 x60_1).f1) x71_2).f1)] 37 (0,0)) ((bf_ BK354).out)):gb365≠gb354));have n15_:=Aside0.mk ((by rw[hg];exact Nat.ne_of_lt (blk_lt (g:=gb364) (o:= .cells #[.string t360,.string t361,.int .i64 t362] 41 (0,0)) ((bp_ BK364).out)):gb364≠gb365));have n16_:=Aside0.mk ((by rw[hg];exact Nat.ne_of_gt (blk_lt (g:=gb364) (o:= .cells #[.string t360,.string t361,.int .i64 t362] 41 (0,0)) ((bp_ BK364).out)):gb365≠gb364));clear HO_12;clear HO_58;clear HO_69;clear HO_353001;clear BK352;clear BK354;clear BK364;clear HB;revert n0_ n1_ n2_ n3_ n4_ n5_ n6_ n7_ n8_ n9_ n10_ n11_ n12_ n13_ n14_ n15_ n16_;intro HO_12 HO_58 HO_69 HO_353001 BK352 BK354 BK364 HB BK365 GW365 GE365 NB352_365 NB365_352 NB354_365 NB365_354 NB364_365 NB365_364;clear hb hbox hg;have hnb51:=NB365_352.out;have hnc51:=NB352_365.out;have hnb52:=NB365_354.out;have hnc52:=NB354_365.out;have hnb53:=NB365_364.out;have hnc53:=NB364_365.out;obtain⟨hcz54_0,hcz54_1,hcz54_2,hfz54_0,hfz54_1,hfz54_2⟩:=bo3_ BK365;have hnb55:=NB354_352.out;have hnc55:=NB352_354.out;obtain⟨hcz56_0,hcz56_1,hfz56_0,hfz56_1⟩:=bo2_ BK354)))
     (try simp only[Act.put,List.setIfInBounds_toArray,List.set_cons_zero,List.set_cons_succ])
     go_cut [] (fun wc=>∃(kq:Nat) (x366000_42:ByteArray) (x366001_42:ByteArray) (x366002_42:Int),Aside0 (florinlaw08_SampleReads.j3 kq a1 t355 t363 t346 (t346.length:Int) x60_1 ((rd_T35 t346 x60_1).f1) (((rd_T35 t346 x60_1).f1).length:Int) x71_2 ((rd_T35 t346 x60_1).f0) ((rd_T35 t346 x60_1).f1) ((rd_T35 t346 x60_1).f2) ((rd_T37 ((rd_T35 t346 x60_1).f1) x71_2).f0) ((rd_T37 ((rd_T35 t346 x60_1).f1) x71_2).f1) t360 t361 t362 x366000_42 x366001_42 x366002_42=some r)∧Aside0 (kq≤kj21)∧Aside0 (Kd.R Kd.string 9 wc w.heap.size (fun _=>True) (.slice (some ad359) t355.length co44) t355)∧Aside0 (Kd.N k35 35 wc w.heap.size (fun k_=>some k_≠((.slice (some ad359) t355.length co44):Value).ownBlock∧k_≠gb352∧k_≠gb354∧k_≠gb364∧k_≠gb365) (.slice (some ad351) t346.length co11) t346)∧Aside0 (Kd.V k37 37 wc w.heap.size (fun k_=>some k_≠((.slice (some ad359) t355.length co44):Value).ownBlock∧some k_≠((.slice (some ad351) t346.length co11):Value).ownBlock∧k_≠gb352∧k_≠gb354∧k_≠gb364∧k_≠gb365) (.slice (some ad353) ((rd_T35 t346 x60_1).f1).length c351_1) ((rd_T35 t346 x60_1).f1))∧Aside0 (Kd.V k37 37 wc w.heap.size (fun k_=>some k_≠((.slice (some ad359) t355.length co44):Value).ownBlock∧some k_≠((.slice (some ad351) t346.length co11):Value).ownBlock∧k_≠gb352∧k_≠gb354∧k_≠gb364∧k_≠gb365) (.slice (some ad353) ((rd_T35 t346 x60_1).f1).length c351_1) ((rd_T35 t346 x60_1).f1))∧Aside0 (wc.heap[gb352]? = some (.cells #[.bool ((rd_T35 t346 x60_1).f0),(.slice (some ad353) ((rd_T35 t346 x60_1).f1).length c351_1),.bool ((rd_T35 t346 x60_1).f2)] 35 (0,0)))∧Aside0 (wc.heap[gb354]? = some (.cells #[.string ((rd_T37 ((rd_T35 t346 x60_1).f1) x71_2).f0),.string ((rd_T37 ((rd_T35 t346 x60_1).f1) x71_2).f1)] 37 (0,0)))∧Aside0 (wc.heap[gb364]? = some (.cells #[.string t360,.string t361,.int .i64 t362] 41 (0,0)))∧Aside0 (wc.heap[gb365]? = some (.cells #[.string x366000_42,.string x366001_42,.int .i64 x366002_42] 41 (0,0)))∧Aside0 (Below w.heap.size w wc))
     case first =>
      have H:=HC43.out
      clear HC43
      by_cases c57:((rd_T37 ((rd_T35 t346 x60_1).f1) x71_2).f1).toList=([]:List UInt8)
      ·rw[if_pos c57] at H
       have c57b0:(((rd_T37 ((rd_T35 t346 x60_1).f1) x71_2).f1).toList==([]:List UInt8))=true:=beq_iff_eq.mpr c57
       have c57b1:(((rd_T37 ((rd_T35 t346 x60_1).f1) x71_2).f1).toList !=([]:List UInt8))=false:=bne_eq_false_iff_eq.mpr c57
       have c57b2:(((rd_T37 ((rd_T35 t346 x60_1).f1) x71_2).f1).toList.isEmpty)=true:=by rw[c57];rfl
       clear c57
       (first|rw[c57b0]|(simp only[i64_w,i32_w];rw[c57b0])|rw[c57b2]|skip)
       have H':=Aside0.mk H
       clear H
       go_wp2
       repeat(go_quiet (fail);try go_wp2)
       go_meet
       case rel=>first|(exact⟨_,(t360),(t361),(t362),(by first|exact H'|(rw[hji39];exact H')|(simp only[hji39];exact H')),⟨by have:=HK1.out;have:=HK2.out;have:=HJ21.out;first|omega|exact Nat.le_refl _⟩,⟨kdR_ (Kd.R_mono (Kd.R_far (Kd.R_far (Kd.R_far (Kd.R_types HO_12.out BK365.out (by decide)) (fun _ hk=>hk.2) _) (fun _ hk=>hk.2) _) (fun _ hk=>hk.2) _) (fun _ hk=>trivial))⟩,⟨kdN_ (Kd.N_mono (Kd.N_far (Kd.N_far (Kd.N_far (Kd.N_mono HO_58.out (fun k_ hk=>(⟨hk,hk.2⟩:_∧k_≠gb365))) (fun _ hk=>hk.2) _) (fun _ hk=>hk.2) _) (fun _ hk=>hk.2) _) (fun _ hk=>⟨hk.1.1.1.1,⟨hk.1.1.1.2.1,⟨hk.1.1.1.2.2,⟨hk.1.1.2,hk.1.2⟩⟩⟩⟩))⟩,⟨kdV_ (Kd.V_mono (Kd.V_far (Kd.V_far (Kd.V_far (Kd.V_mono HO_69.out (fun k_ hk=>(⟨hk,hk.2⟩:_∧k_≠gb365))) (fun _ hk=>hk.2) _) (fun _ hk=>hk.2) _) (fun _ hk=>hk.2) _) (fun _ hk=>⟨hk.1.1.1.1,⟨hk.1.1.1.2.1,⟨hk.1.1.1.2.2.1,⟨hk.1.1.1.2.2.2,⟨hk.1.1.2,hk.1.2⟩⟩⟩⟩⟩))⟩,⟨kdV_ (Kd.V_mono (Kd.V_far (Kd.V_far (Kd.V_far (Kd.V_mono HO_353001.out (fun k_ hk=>(⟨hk,hk.2⟩:_∧k_≠gb365))) (fun _ hk=>hk.2) _) (fun _ hk=>hk.2) _) (fun _ hk=>hk.2) _) (fun _ hk=>⟨hk.1.1.1.1,⟨hk.1.1.1.2.1,⟨hk.1.1.1.2.2.1,⟨hk.1.1.1.2.2.2,⟨hk.1.1.2,hk.1.2⟩⟩⟩⟩⟩))⟩,⟨(bf_ BK352).out⟩,⟨(bf_ BK354).out⟩,⟨(bf_ BK364).out⟩,⟨(bp_ BK365).out⟩,(bl_ HB)⟩)|(rw[← hji39] at H';exact⟨_,(t360),(t361),(t362),(by first|exact H'|(rw[hji39];exact H')|(simp only[hji39];exact H')),⟨by have:=HK1.out;have:=HK2.out;have:=HJ21.out;first|omega|exact Nat.le_refl _⟩,⟨kdR_ (Kd.R_mono (Kd.R_far (Kd.R_far (Kd.R_far (Kd.R_types HO_12.out BK365.out (by decide)) (fun _ hk=>hk.2) _) (fun _ hk=>hk.2) _) (fun _ hk=>hk.2) _) (fun _ hk=>trivial))⟩,⟨kdN_ (Kd.N_mono (Kd.N_far (Kd.N_far (Kd.N_far (Kd.N_mono HO_58.out (fun k_ hk=>(⟨hk,hk.2⟩:_∧k_≠gb365))) (fun _ hk=>hk.2) _) (fun _ hk=>hk.2) _) (fun _ hk=>hk.2) _) (fun _ hk=>⟨hk.1.1.1.1,⟨hk.1.1.1.2.1,⟨hk.1.1.1.2.2,⟨hk.1.1.2,hk.1.2⟩⟩⟩⟩))⟩,⟨kdV_ (Kd.V_mono (Kd.V_far (Kd.V_far (Kd.V_far (Kd.V_mono HO_69.out (fun k_ hk=>(⟨hk,hk.2⟩:_∧k_≠gb365))) (fun _ hk=>hk.2) _) (fun _ hk=>hk.2) _) (fun _ hk=>hk.2) _) (fun _ hk=>⟨hk.1.1.1.1,⟨hk.1.1.1.2.1,⟨hk.1.1.1.2.2.1,⟨hk.1.1.1.2.2.2,⟨hk.1.1.2,hk.1.2⟩⟩⟩⟩⟩))⟩,⟨kdV_ (Kd.V_mono (Kd.V_far (Kd.V_far (Kd.V_far (Kd.V_mono HO_353001.out (fun k_ hk=>(⟨hk,hk.2⟩:_∧k_≠gb365))) (fun _ hk=>hk.2) _) (fun _ hk=>hk.2) _) (fun _ hk=>hk.2) _) (fun _ hk=>⟨hk.1.1.1.1,⟨hk.1.1.1.2.1,⟨hk.1.1.1.2.2.1,⟨hk.1.1.1.2.2.2,⟨hk.1.1.2,hk.1.2⟩⟩⟩⟩⟩))⟩,⟨(bf_ BK352).out⟩,⟨(bf_ BK354).out⟩,⟨(bf_ BK364).out⟩,⟨(bp_ BK365).out⟩,(bl_ HB)⟩)
      rw[if_neg c57] at H
      have c57b0:(((rd_T37 ((rd_T35 t346 x60_1).f1) x71_2).f1).toList==([]:List UInt8))=false:=beq_eq_false_iff_ne.mpr c57
      have c57b1:(((rd_T37 ((rd_T35 t346 x60_1).f1) x71_2).f1).toList !=([]:List UInt8))=true:=bne_iff_ne.mpr c57
      have c57b2:(((rd_T37 ((rd_T35 t346 x60_1).f1) x71_2).f1).toList.isEmpty)=false:=by rw[given_isEmpty,bne_iff_ne.mpr c57];rfl
      (first|rw[c57b0]|(simp only[i64_w,i32_w];rw[c57b0])|rw[c57b2]|skip)
      replace H:=Option.bind_eq_some_iff.mp H
      obtain⟨⟨t366,t367,t368,t369⟩,A580,H⟩:=H
      dsimp only at H
      have A58:=Aside0.mk A580
      clear A580
      have H':=Aside0.mk H
      clear H
      have hnb59:=NB354_352.out
      have hnc59:=NB352_354.out
      have hnb60:=NB354_364.out
      have hnc60:=NB364_354.out
      have hnb61:=NB354_365.out
      have hnc61:=NB365_354.out
      obtain⟨hcz62_0,hcz62_1,hfz62_0,hfz62_1⟩:=bo2_ BK354
      go_wp2_with (first|(go_at_call 12;(with_reducible refine(operand_Read.calls kj21 ((rd_T37 ((rd_T35 t346 x60_1).f1) x71_2).f1) t366 t367 t368 t369 _ A58.out).mono ?_);rintro e w63 ⟨rfl,hb⟩;have n0_:=Aside0.mk (Kd.R_below (kdR_ ((Kd.R_mono (Kd.R_far (Kd.R_far (Kd.R_far (Kd.R_types HO_12.out BK365.out (by decide)) (fun _ hk=>hk.2) _) (fun _ hk=>hk.2) _) (fun _ hk=>hk.2) _) (fun _ h_=>h_.1)))) hb);have n1_:=Aside0.mk (Kd.N_below (kfN_ gb365 HO_58) hb);have n2_:=Aside0.mk (Kd.V_below (kfV_ gb365 HO_69) hb);have n3_:=Aside0.mk (Kd.V_below (kfV_ gb365 HO_353001) hb);have n4_:=bz_ BK352 hb;have n5_:=bz_ BK354 hb;have n6_:=bz_ BK364 hb;have n7_:=Aside0.mk (blk_below (g:=gb365) (o:= .cells #[.string t360,.string t361,.int .i64 t362] 41 (0,0)) ((bp_ BK365).out) hb);have n8_:=Aside0.mk (below_step (bl_ HB).out hb);clear HO_12;clear HO_58;clear HO_69;clear HO_353001;clear BK352;clear BK354;clear BK364;clear BK365;clear HB;revert n0_ n1_ n2_ n3_ n4_ n5_ n6_ n7_ n8_;intro HO_12 HO_58 HO_69 HO_353001 BK352 BK354 BK364 BK365 HB;(try clear hb);have hnb64:=NB365_352.out;have hnc64:=NB352_365.out;have hnb65:=NB365_364.out;have hnc65:=NB364_365.out;obtain⟨hcz66_0,hcz66_1,hcz66_2,hfz66_0,hfz66_1,hfz66_2⟩:=bo3_ BK365))
      repeat(go_quiet (first|(go_at_call 12;(with_reducible refine(operand_Read.calls kj21 ((rd_T37 ((rd_T35 t346 x60_1).f1) x71_2).f1) t366 t367 t368 t369 _ A58.out).mono ?_);rintro e w63 ⟨rfl,hb⟩;have n0_:=Aside0.mk (Kd.R_below (kdR_ ((Kd.R_mono (Kd.R_far (Kd.R_far (Kd.R_far (Kd.R_types HO_12.out BK365.out (by decide)) (fun _ hk=>hk.2) _) (fun _ hk=>hk.2) _) (fun _ hk=>hk.2) _) (fun _ h_=>h_.1)))) hb);have n1_:=Aside0.mk (Kd.N_below (kfN_ gb365 HO_58) hb);have n2_:=Aside0.mk (Kd.V_below (kfV_ gb365 HO_69) hb);have n3_:=Aside0.mk (Kd.V_below (kfV_ gb365 HO_353001) hb);have n4_:=bz_ BK352 hb;have n5_:=bz_ BK354 hb;have n6_:=bz_ BK364 hb;have n7_:=Aside0.mk (blk_below (g:=gb365) (o:= .cells #[.string t360,.string t361,.int .i64 t362] 41 (0,0)) ((bp_ BK365).out) hb);have n8_:=Aside0.mk (below_step (bl_ HB).out hb);clear HO_12;clear HO_58;clear HO_69;clear HO_353001;clear BK352;clear BK354;clear BK364;clear BK365;clear HB;revert n0_ n1_ n2_ n3_ n4_ n5_ n6_ n7_ n8_;intro HO_12 HO_58 HO_69 HO_353001 BK352 BK354 BK364 BK365 HB;(try clear hb);have hnb64:=NB365_352.out;have hnc64:=NB352_365.out;have hnb65:=NB365_364.out;have hnc65:=NB364_365.out;obtain⟨hcz66_0,hcz66_1,hcz66_2,hfz66_0,hfz66_1,hfz66_2⟩:=bo3_ BK365));try go_wp2_with (first|(go_at_call 12;(with_reducible refine(operand_Read.calls kj21 ((rd_T37 ((rd_T35 t346 x60_1).f1) x71_2).f1) t366 t367 t368 t369 _ A58.out).mono ?_);rintro e w63 ⟨rfl,hb⟩;have n0_:=Aside0.mk (Kd.R_below (kdR_ ((Kd.R_mono (Kd.R_far (Kd.R_far (Kd.R_far (Kd.R_types HO_12.out BK365.out (by decide)) (fun _ hk=>hk.2) _) (fun _ hk=>hk.2) _) (fun _ hk=>hk.2) _) (fun _ h_=>h_.1)))) hb);have n1_:=Aside0.mk (Kd.N_below (kfN_ gb365 HO_58) hb);have n2_:=Aside0.mk (Kd.V_below (kfV_ gb365 HO_69) hb);have n3_:=Aside0.mk (Kd.V_below (kfV_ gb365 HO_353001) hb);have n4_:=bz_ BK352 hb;have n5_:=bz_ BK354 hb;have n6_:=bz_ BK364 hb;have n7_:=Aside0.mk (blk_below (g:=gb365) (o:= .cells #[.string t360,.string t361,.int .i64 t362] 41 (0,0)) ((bp_ BK365).out) hb);have n8_:=Aside0.mk (below_step (bl_ HB).out hb);clear HO_12;clear HO_58;clear HO_69;clear HO_353001;clear BK352;clear BK354;clear BK364;clear BK365;clear HB;revert n0_ n1_ n2_ n3_ n4_ n5_ n6_ n7_ n8_;intro HO_12 HO_58 HO_69 HO_353001 BK352 BK354 BK364 BK365 HB;(try clear hb);have hnb64:=NB365_352.out;have hnc64:=NB352_365.out;have hnb65:=NB365_364.out;have hnc65:=NB364_365.out;obtain⟨hcz66_0,hcz66_1,hcz66_2,hfz66_0,hfz66_1,hfz66_2⟩:=bo3_ BK365)))
      go_meet
      case rel=>first|(exact⟨_,(t366),(t367),(t368),(by first|exact H'|(rw[hji39];exact H')|(simp only[hji39];exact H')),⟨by have:=HK1.out;have:=HK2.out;have:=HJ21.out;first|omega|exact Nat.le_refl _⟩,⟨kdR_ (Kd.R_mono (Kd.R_far (Kd.R_far (Kd.R_far (Kd.R_types HO_12.out BK365.out (by decide)) (fun _ hk=>hk.2) _) (fun _ hk=>hk.2) _) (fun _ hk=>hk.2) _) (fun _ hk=>trivial))⟩,⟨kdN_ (Kd.N_mono (Kd.N_far (Kd.N_far (Kd.N_far (Kd.N_mono HO_58.out (fun k_ hk=>(⟨hk,hk.2⟩:_∧k_≠gb365))) (fun _ hk=>hk.2) _) (fun _ hk=>hk.2) _) (fun _ hk=>hk.2) _) (fun _ hk=>⟨hk.1.1.1.1,⟨hk.1.1.1.2.1,⟨hk.1.1.1.2.2,⟨hk.1.1.2,hk.1.2⟩⟩⟩⟩))⟩,⟨kdV_ (Kd.V_mono (Kd.V_far (Kd.V_far (Kd.V_far (Kd.V_mono HO_69.out (fun k_ hk=>(⟨hk,hk.2⟩:_∧k_≠gb365))) (fun _ hk=>hk.2) _) (fun _ hk=>hk.2) _) (fun _ hk=>hk.2) _) (fun _ hk=>⟨hk.1.1.1.1,⟨hk.1.1.1.2.1,⟨hk.1.1.1.2.2.1,⟨hk.1.1.1.2.2.2,⟨hk.1.1.2,hk.1.2⟩⟩⟩⟩⟩))⟩,⟨kdV_ (Kd.V_mono (Kd.V_far (Kd.V_far (Kd.V_far (Kd.V_mono HO_353001.out (fun k_ hk=>(⟨hk,hk.2⟩:_∧k_≠gb365))) (fun _ hk=>hk.2) _) (fun _ hk=>hk.2) _) (fun _ hk=>hk.2) _) (fun _ hk=>⟨hk.1.1.1.1,⟨hk.1.1.1.2.1,⟨hk.1.1.1.2.2.1,⟨hk.1.1.1.2.2.2,⟨hk.1.1.2,hk.1.2⟩⟩⟩⟩⟩))⟩,⟨(bf_ BK352).out⟩,⟨(bf_ BK354).out⟩,⟨(bf_ BK364).out⟩,⟨(bp_ BK365).out⟩,(bl_ HB)⟩)|(rw[← hji39] at H';exact⟨_,(t366),(t367),(t368),(by first|exact H'|(rw[hji39];exact H')|(simp only[hji39];exact H')),⟨by have:=HK1.out;have:=HK2.out;have:=HJ21.out;first|omega|exact Nat.le_refl _⟩,⟨kdR_ (Kd.R_mono (Kd.R_far (Kd.R_far (Kd.R_far (Kd.R_types HO_12.out BK365.out (by decide)) (fun _ hk=>hk.2) _) (fun _ hk=>hk.2) _) (fun _ hk=>hk.2) _) (fun _ hk=>trivial))⟩,⟨kdN_ (Kd.N_mono (Kd.N_far (Kd.N_far (Kd.N_far (Kd.N_mono HO_58.out (fun k_ hk=>(⟨hk,hk.2⟩:_∧k_≠gb365))) (fun _ hk=>hk.2) _) (fun _ hk=>hk.2) _) (fun _ hk=>hk.2) _) (fun _ hk=>⟨hk.1.1.1.1,⟨hk.1.1.1.2.1,⟨hk.1.1.1.2.2,⟨hk.1.1.2,hk.1.2⟩⟩⟩⟩))⟩,⟨kdV_ (Kd.V_mono (Kd.V_far (Kd.V_far (Kd.V_far (Kd.V_mono HO_69.out (fun k_ hk=>(⟨hk,hk.2⟩:_∧k_≠gb365))) (fun _ hk=>hk.2) _) (fun _ hk=>hk.2) _) (fun _ hk=>hk.2) _) (fun _ hk=>⟨hk.1.1.1.1,⟨hk.1.1.1.2.1,⟨hk.1.1.1.2.2.1,⟨hk.1.1.1.2.2.2,⟨hk.1.1.2,hk.1.2⟩⟩⟩⟩⟩))⟩,⟨kdV_ (Kd.V_mono (Kd.V_far (Kd.V_far (Kd.V_far (Kd.V_mono HO_353001.out (fun k_ hk=>(⟨hk,hk.2⟩:_∧k_≠gb365))) (fun _ hk=>hk.2) _) (fun _ hk=>hk.2) _) (fun _ hk=>hk.2) _) (fun _ hk=>⟨hk.1.1.1.1,⟨hk.1.1.1.2.1,⟨hk.1.1.1.2.2.1,⟨hk.1.1.1.2.2.2,⟨hk.1.1.2,hk.1.2⟩⟩⟩⟩⟩))⟩,⟨(bf_ BK352).out⟩,⟨(bf_ BK354).out⟩,⟨(bf_ BK364).out⟩,⟨(bp_ BK365).out⟩,(bl_ HB)⟩)
     clear HC43
     obtain⟨kq,x366000_42,x366001_42,x366002_42,HA,HJ42,HO_12,HO_58,HO_69,HO_353001,BK352,BK354,BK364,BK365,HB⟩:=hcut
     cases kq with
     | zero=>exact absurd HA.out (by simp[florinlaw08_SampleReads.j3])
     | succ kj42=>?_
     have H:=HA.out
     clear HA
     simp only[florinlaw08_SampleReads.j3] at H
     have HC67:=Aside0.mk H
     clear H
     go_upto_region 23 with (fail)
     repeat(go_quiet (fail);go_upto_region 23 with (fail))
     go_cut [139] (fun v139 wc=>∃(kq:Nat) (x139_66:Bool),v139= .bool x139_66∧Aside0 (florinlaw08_SampleReads.j4 kq a1 t355 t346 (t346.length:Int) x60_1 ((rd_T35 t346 x60_1).f1) (((rd_T35 t346 x60_1).f1).length:Int) x71_2 x139_66 ((rd_T35 t346 x60_1).f0) ((rd_T35 t346 x60_1).f1) ((rd_T35 t346 x60_1).f2) ((rd_T37 ((rd_T35 t346 x60_1).f1) x71_2).f0) ((rd_T37 ((rd_T35 t346 x60_1).f1) x71_2).f1)=some r)∧Aside0 (kq≤kj42)∧Aside0 (Kd.R Kd.string 9 wc w.heap.size (fun _=>True) (.slice (some ad359) t355.length co44) t355)∧Aside0 (Kd.N k35 35 wc w.heap.size (fun k_=>some k_≠((.slice (some ad359) t355.length co44):Value).ownBlock∧k_≠gb352∧k_≠gb354∧k_≠gb364∧k_≠gb365) (.slice (some ad351) t346.length co11) t346)∧Aside0 (Kd.V k37 37 wc w.heap.size (fun k_=>some k_≠((.slice (some ad359) t355.length co44):Value).ownBlock∧some k_≠((.slice (some ad351) t346.length co11):Value).ownBlock∧k_≠gb352∧k_≠gb354∧k_≠gb364∧k_≠gb365) (.slice (some ad353) ((rd_T35 t346 x60_1).f1).length c351_1) ((rd_T35 t346 x60_1).f1))∧Aside0 (Kd.V k37 37 wc w.heap.size (fun k_=>some k_≠((.slice (some ad359) t355.length co44):Value).ownBlock∧some k_≠((.slice (some ad351) t346.length co11):Value).ownBlock∧k_≠gb352∧k_≠gb354∧k_≠gb364∧k_≠gb365) (.slice (some ad353) ((rd_T35 t346 x60_1).f1).length c351_1) ((rd_T35 t346 x60_1).f1))∧Aside0 (wc.heap[gb352]? = some (.cells #[.bool ((rd_T35 t346 x60_1).f0),(.slice (some ad353) ((rd_T35 t346 x60_1).f1).length c351_1),.bool ((rd_T35 t346 x60_1).f2)] 35 (0,0)))∧Aside0 (wc.heap[gb354]? = some (.cells #[.string ((rd_T37 ((rd_T35 t346 x60_1).f1) x71_2).f0),.string ((rd_T37 ((rd_T35 t346 x60_1).f1) x71_2).f1)] 37 (0,0)))∧Aside0 (wc.heap[gb364]? = some (.cells #[.string t360,.string t361,.int .i64 t362] 41 (0,0)))∧Aside0 (wc.heap[gb365]? = some (.cells #[.string x366000_42,.string x366001_42,.int .i64 x366002_42] 41 (0,0)))∧Aside0 (Below w.heap.size w wc))
     case first =>
      have H:=HC67.out
      clear HC67
      replace H:=ifn_ H
      obtain⟨c68,H⟩:=H
      have c68b0:(t363==0)=true:=beq_iff_eq.mpr c68
      have c68b1:(t363 !=0)=false:=bne_eq_false_iff_eq.mpr c68
      clear c68
      (first|rw[c68b0]|(simp only[i64_w,i32_w];rw[c68b0])|skip)
      replace H:=ifp_ H
      obtain⟨c69,H⟩:=H
      have c69b0:(!(t360.toList==x366000_42.toList)||(!(t361.toList==x366001_42.toList)||(!(t362==x366002_42))))=false:=by simpa using c69
      clear c69
      by_cases c70:((rd_T35 t346 x60_1).f0)=true
      ·rw[if_pos c70] at H
       have c70b0:((rd_T35 t346 x60_1).f0)=true:=c70
       clear c70
       have H':=Aside0.mk H
       clear H
       have hnb71:=NB364_352.out
       have hnc71:=NB352_364.out
       have hnb72:=NB364_354.out
       have hnc72:=NB354_364.out
       have hnb73:=NB364_365.out
       have hnc73:=NB365_364.out
       obtain⟨hcz74_0,hcz74_1,hcz74_2,hfz74_0,hfz74_1,hfz74_2⟩:=bo3_ BK364
       have hnb75:=NB365_352.out
       have hnc75:=NB352_365.out
       have hnb76:=NB365_354.out
       have hnc76:=NB354_365.out
       obtain⟨hcz77_0,hcz77_1,hcz77_2,hfz77_0,hfz77_1,hfz77_2⟩:=bo3_ BK365
       have hnb78:=NB352_354.out
       have hnc78:=NB354_352.out
       obtain⟨hcz79_0,hcz79_1,hcz79_2,hfz79_0,hfz79_1,hfz79_2⟩:=bo3_ BK352
       go_wp2
       repeat(go_quiet (fail);try go_wp2)
       go_meet
       case rel=>first|(exact⟨_,(false),eq_,(by first|exact H'|(rw[hji39];exact H')|(simp only[hji39];exact H')),⟨by have:=HK1.out;have:=HK2.out;have:=HJ21.out;have:=HJ42.out;first|omega|exact Nat.le_refl _⟩,⟨kdR_ HO_12.out⟩,⟨kdN_ HO_58.out⟩,⟨kdV_ HO_69.out⟩,⟨kdV_ HO_353001.out⟩,(bk_ BK352),(bk_ BK354),(bk_ BK364),(bk_ BK365),(bl_ HB)⟩)|(rw[← hji39] at H';exact⟨_,(false),eq_,(by first|exact H'|(rw[hji39];exact H')|(simp only[hji39];exact H')),⟨by have:=HK1.out;have:=HK2.out;have:=HJ21.out;have:=HJ42.out;first|omega|exact Nat.le_refl _⟩,⟨kdR_ HO_12.out⟩,⟨kdN_ HO_58.out⟩,⟨kdV_ HO_69.out⟩,⟨kdV_ HO_353001.out⟩,(bk_ BK352),(bk_ BK354),(bk_ BK364),(bk_ BK365),(bl_ HB)⟩)
      rw[if_neg c70] at H
      have c70b0:((rd_T35 t346 x60_1).f0)=false:=by simpa using c70
      clear c70
      replace H:=Option.bind_eq_some_iff.mp H
      obtain⟨t370,A800,H⟩:=H
      have A80:=Aside0.mk A800
      clear A800
      have H':=Aside0.mk H
      clear H
      have hnb81:=NB364_352.out
      have hnc81:=NB352_364.out
      have hnb82:=NB364_354.out
      have hnc82:=NB354_364.out
      have hnb83:=NB364_365.out
      have hnc83:=NB365_364.out
      obtain⟨hcz84_0,hcz84_1,hcz84_2,hfz84_0,hfz84_1,hfz84_2⟩:=bo3_ BK364
      have hnb85:=NB365_352.out
      have hnc85:=NB352_365.out
      have hnb86:=NB365_354.out
      have hnc86:=NB354_365.out
      obtain⟨hcz87_0,hcz87_1,hcz87_2,hfz87_0,hfz87_1,hfz87_2⟩:=bo3_ BK365
      have hnb88:=NB352_354.out
      have hnc88:=NB354_352.out
      obtain⟨hcz89_0,hcz89_1,hcz89_2,hfz89_0,hfz89_1,hfz89_2⟩:=bo3_ BK352
      go_wp2_with (first|(go_at_call 13;(with_reducible refine(operand_Ops_V.calls _ _ _ _ _ A80.out).mono ?_);rintro e w90 ⟨rfl,hb⟩;replace HO_12:=kb_ HO_12 hb;replace HO_58:=Aside0.mk (Kd.N_below (krN_ HO_58) hb);replace HO_69:=Aside0.mk (Kd.V_below (krV_ HO_69) hb);replace HO_353001:=Aside0.mk (Kd.V_below (krV_ HO_353001) hb);replace BK352:=bb_ BK352 hb;replace BK354:=bb_ BK354 hb;replace BK364:=bb_ BK364 hb;replace BK365:=bb_ BK365 hb;replace HB:=Aside0.mk (below_step (bl_ HB).out hb);(try clear hb);(try clear hi)))
      repeat(go_quiet (first|(go_at_call 13;(with_reducible refine(operand_Ops_V.calls _ _ _ _ _ A80.out).mono ?_);rintro e w90 ⟨rfl,hb⟩;replace HO_12:=kb_ HO_12 hb;replace HO_58:=Aside0.mk (Kd.N_below (krN_ HO_58) hb);replace HO_69:=Aside0.mk (Kd.V_below (krV_ HO_69) hb);replace HO_353001:=Aside0.mk (Kd.V_below (krV_ HO_353001) hb);replace BK352:=bb_ BK352 hb;replace BK354:=bb_ BK354 hb;replace BK364:=bb_ BK364 hb;replace BK365:=bb_ BK365 hb;replace HB:=Aside0.mk (below_step (bl_ HB).out hb);(try clear hb);(try clear hi)));try go_wp2_with (first|(go_at_call 13;(with_reducible refine(operand_Ops_V.calls _ _ _ _ _ A80.out).mono ?_);rintro e w90 ⟨rfl,hb⟩;replace HO_12:=kb_ HO_12 hb;replace HO_58:=Aside0.mk (Kd.N_below (krN_ HO_58) hb);replace HO_69:=Aside0.mk (Kd.V_below (krV_ HO_69) hb);replace HO_353001:=Aside0.mk (Kd.V_below (krV_ HO_353001) hb);replace BK352:=bb_ BK352 hb;replace BK354:=bb_ BK354 hb;replace BK364:=bb_ BK364 hb;replace BK365:=bb_ BK365 hb;replace HB:=Aside0.mk (below_step (bl_ HB).out hb);(try clear hb);(try clear hi))))
      (try simp only[c70b0,c70b0] at *)
      go_meet
      case rel=>first|(exact⟨_,(decide (t370>0)),eq_,(by first|exact H'|(rw[hji39];exact H')|(simp only[hji39];exact H')),⟨by have:=HK1.out;have:=HK2.out;have:=HJ21.out;have:=HJ42.out;first|omega|exact Nat.le_refl _⟩,⟨kdR_ HO_12.out⟩,⟨kdN_ HO_58.out⟩,⟨kdV_ HO_69.out⟩,⟨kdV_ HO_353001.out⟩,(bk_ BK352),(bk_ BK354),(bk_ BK364),(bk_ BK365),(bl_ HB)⟩)|(rw[← hji39] at H';exact⟨_,(decide (t370>0)),eq_,(by first|exact H'|(rw[hji39];exact H')|(simp only[hji39];exact H')),⟨by have:=HK1.out;have:=HK2.out;have:=HJ21.out;have:=HJ42.out;first|omega|exact Nat.le_refl _⟩,⟨kdR_ HO_12.out⟩,⟨kdN_ HO_58.out⟩,⟨kdV_ HO_69.out⟩,⟨kdV_ HO_353001.out⟩,(bk_ BK352),(bk_ BK354),(bk_ BK364),(bk_ BK365),(bl_ HB)⟩)
     clear HC67
     obtain⟨kq,x139_66,rfl,HA,HJ66,HO_12,HO_58,HO_69,HO_353001,BK352,BK354,BK364,BK365,HB⟩:=hcut
     cases kq with
     | zero=>exact absurd HA.out (by simp[florinlaw08_SampleReads.j4])
     | succ kj66=>?_
     have H:=HA.out
     clear HA
     simp only[florinlaw08_SampleReads.j4] at H
     by_cases c91:x139_66=true
     ·subst c91
      rw[if_pos rfl] at H
      exact absurd H (by simp)
     replace c91:=Bool.eq_false_iff.mpr c91
     subst c91
     rw[if_neg (show ¬(false=true) by decide)] at H
     replace H:=Option.bind_eq_some_iff.mp H
     obtain⟨t371,A920,H⟩:=H
     have A92:=Aside0.mk A920
     clear A920
     obtain⟨ji93,hji93⟩:∃j_:Int,(mn (t355.length:Int) (wrap64 ((Go.bits .and .i64 a1 7)+1)))=j_:=⟨_,rfl⟩
     replace H:(if t371=(ji93) then (florinlaw08_SampleReads.l1 kj66 a1 t346 (t346.length:Int) x60_1 ((rd_T35 t346 x60_1).f1) (((rd_T35 t346 x60_1).f1).length:Int) (wrap64 (x71_2+1)) ((rd_T35 t346 x60_1).f0) ((rd_T35 t346 x60_1).f1) ((rd_T35 t346 x60_1).f2)) else (none))=some r:=by first|(rw[hji93] at H;exact H)|(simp only[hji93] at H ⊢;exact H)
     (try rw[hji93] at A92)
     have hji93_:(if (wrap64 ((Go.bits .and .i64 a1 7)+1))<(t355.length:Int) then (wrap64 ((Go.bits .and .i64 a1 7)+1)) else (t355.length:Int))=ji93:=hji93
     replace H:=ifn_ H
     obtain⟨c94,H⟩:=H
     have c94b0:(t371==(ji93))=true:=beq_iff_eq.mpr c94
     have c94b1:(t371 !=(ji93))=false:=bne_eq_false_iff_eq.mpr c94
     clear c94
     have H':=Aside0.mk H
     clear H
     have hnb95:=NB354_352.out
     have hnc95:=NB352_354.out
     have hnb96:=NB354_364.out
     have hnc96:=NB364_354.out
     have hnb97:=NB354_365.out
     have hnc97:=NB365_354.out
     obtain⟨hcz98_0,hcz98_1,hfz98_0,hfz98_1⟩:=bo2_ BK354
     go_wp2_with (first|(go_at_call 14;(with_reducible refine(florinlaw08_some.calls kj66 ((rd_T37 ((rd_T35 t346 x60_1).f1) x71_2).f0) ((rd_T37 ((rd_T35 t346 x60_1).f1) x71_2).f1) (wrap64 ((Go.bits .and .i64 a1 7)+1)) t371 _ A92.out).mono ?_);rintro e w99 ⟨rfl,hb⟩;replace HO_12:=kb_ HO_12 hb;replace HO_58:=Aside0.mk (Kd.N_below (krN_ HO_58) hb);replace HO_69:=Aside0.mk (Kd.V_below (krV_ HO_69) hb);replace HO_353001:=Aside0.mk (Kd.V_below (krV_ HO_353001) hb);replace BK352:=bb_ BK352 hb;replace BK354:=bb_ BK354 hb;replace BK364:=bb_ BK364 hb;replace BK365:=bb_ BK365 hb;replace HB:=Aside0.mk (below_step (bl_ HB).out hb);(try clear hb);(try clear hi)))
     repeat(go_quiet (first|(go_at_call 14;(with_reducible refine(florinlaw08_some.calls kj66 ((rd_T37 ((rd_T35 t346 x60_1).f1) x71_2).f0) ((rd_T37 ((rd_T35 t346 x60_1).f1) x71_2).f1) (wrap64 ((Go.bits .and .i64 a1 7)+1)) t371 _ A92.out).mono ?_);rintro e w99 ⟨rfl,hb⟩;replace HO_12:=kb_ HO_12 hb;replace HO_58:=Aside0.mk (Kd.N_below (krN_ HO_58) hb);replace HO_69:=Aside0.mk (Kd.V_below (krV_ HO_69) hb);replace HO_353001:=Aside0.mk (Kd.V_below (krV_ HO_353001) hb);replace BK352:=bb_ BK352 hb;replace BK354:=bb_ BK354 hb;replace BK364:=bb_ BK364 hb;replace BK365:=bb_ BK365 hb;replace HB:=Aside0.mk (below_step (bl_ HB).out hb);(try clear hb);(try clear hi)));try go_wp2_with (first|(go_at_call 14;(with_reducible refine(florinlaw08_some.calls kj66 ((rd_T37 ((rd_T35 t346 x60_1).f1) x71_2).f0) ((rd_T37 ((rd_T35 t346 x60_1).f1) x71_2).f1) (wrap64 ((Go.bits .and .i64 a1 7)+1)) t371 _ A92.out).mono ?_);rintro e w99 ⟨rfl,hb⟩;replace HO_12:=kb_ HO_12 hb;replace HO_58:=Aside0.mk (Kd.N_below (krN_ HO_58) hb);replace HO_69:=Aside0.mk (Kd.V_below (krV_ HO_69) hb);replace HO_353001:=Aside0.mk (Kd.V_below (krV_ HO_353001) hb);replace BK352:=bb_ BK352 hb;replace BK354:=bb_ BK354 hb;replace BK364:=bb_ BK364 hb;replace BK365:=bb_ BK365 hb;replace HB:=Aside0.mk (below_step (bl_ HB).out hb);(try clear hb);(try clear hi))))
     go_roundg kj66
     case measure=>have:=HK1.out;have:=HK2.out;have:=HJ21.out;have:=HJ42.out;have:=HJ66.out;omega
     case rel=>exact⟨(wrap64 (x71_2+1)),eq_,H',⟨by have:=HK1.out;have:=HK2.out;have:=HJ21.out;have:=HJ42.out;have:=HJ66.out;omega⟩,⟨kdN_ (Kd.N_mono HO_58.out (fun _ hk=>hk.2.1))⟩,⟨kdV_ (Kd.V_mono HO_69.out (fun _ hk=>⟨hk.2.1,hk.2.2.1⟩))⟩,⟨kdV_ (Kd.V_mono HO_353001.out (fun _ hk=>⟨hk.2.1,hk.2.2.1⟩))⟩,(bk_ BK352),(bl_ HB)⟩
    rw[if_neg c18] at H
    have c18b0:=decide_eq_false c18
    clear c18
    have H':=Aside0.mk H
    clear H
    go_wp2
    repeat(go_quiet (fail);try go_wp2)
    go_roundg k2
    case measure=>have:=HK1.out;have:=HK2.out;omega
    case rel=>exact⟨(wrap64 (x60_1+1)),eq_,H',⟨by have:=HK1.out;have:=HK2.out;omega⟩,⟨kdN_ (Kd.N_mono HO_58.out (fun _ hk=>trivial))⟩,(bl_ HB)⟩
   rw[if_neg c12] at H
   have c12b0:=decide_eq_false c12
   clear c12
   obtain rfl:=Option.some.inj H
   go_wp2
   repeat(go_quiet (fail);try go_wp2)
   go_ret
   exact⟨ew_,(bl_ HB).out⟩
  rw[if_neg c8] at H
  have c8b0:(t349==0)=false:=beq_eq_false_iff_ne.mpr c8
  have c8b1:(t349 !=0)=true:=bne_iff_ne.mpr c8
  replace H:=ifn_ H
  obtain⟨c100,H⟩:=H
  have c100b0:((t346.length:Int)==0)=true:=beq_iff_eq.mpr c100
  have c100b1:((t346.length:Int) !=0)=false:=bne_eq_false_iff_eq.mpr c100
  clear c100
  replace H:=ifn_ H
  obtain⟨c101,H⟩:=H
  have c101b0:decide (0≤t350)=true:=decide_eq_true c101
  clear c101
  replace H:=ifn_ H
  obtain⟨c102,H⟩:=H
  have c102b0:decide (t350≤(a0.size:Int))=true:=decide_eq_true c102
  clear c102
  by_cases c103:t349=1
  ·rw[if_pos c103] at H
   have c103b0:(t349==1)=true:=beq_iff_eq.mpr c103
   have c103b1:(t349 !=1)=false:=bne_eq_false_iff_eq.mpr c103
   clear c103
   obtain rfl:=Option.some.inj H
   go_enter Tryd.func4,Tryd.ntmps4
   go_wp2_with (first|(go_at_call 6;(with_reducible refine(florinlaw08_head.calls _ _ _ A3.out).mono ?_);rintro e w104 ⟨rfl,hb⟩;replace HB:=Aside0.mk (below_step (bl_ HB).out hb);(try clear hb);(try clear hi))|(go_at_call 9;(with_reducible refine(sample_Parse.calls _ _ _ _ _ _ A7.out).mono ?_);rintro e w105 ⟨v347,rfl,ho0,hb⟩;have HO348:=Aside0.mk (Kd.N_lower (Kd.N_mono (ok':=fun k_=>True) ho0 (fun k_ hk_=>trivial)) (below_size (bl_ HB).out));replace HB:=Aside0.mk (below_step (bl_ HB).out hb);(try clear hb);(try clear ho0);obtain⟨Ao106,co106,eo106⟩:=Kd.N_slice HO348.out;subst eo106))
   repeat(go_quiet (first|(go_at_call 6;(with_reducible refine(florinlaw08_head.calls _ _ _ A3.out).mono ?_);rintro e w104 ⟨rfl,hb⟩;replace HB:=Aside0.mk (below_step (bl_ HB).out hb);(try clear hb);(try clear hi))|(go_at_call 9;(with_reducible refine(sample_Parse.calls _ _ _ _ _ _ A7.out).mono ?_);rintro e w105 ⟨v347,rfl,ho0,hb⟩;have HO348:=Aside0.mk (Kd.N_lower (Kd.N_mono (ok':=fun k_=>True) ho0 (fun k_ hk_=>trivial)) (below_size (bl_ HB).out));replace HB:=Aside0.mk (below_step (bl_ HB).out hb);(try clear hb);(try clear ho0);obtain⟨Ao106,co106,eo106⟩:=Kd.N_slice HO348.out;subst eo106));try go_wp2_with (first|(go_at_call 6;(with_reducible refine(florinlaw08_head.calls _ _ _ A3.out).mono ?_);rintro e w104 ⟨rfl,hb⟩;replace HB:=Aside0.mk (below_step (bl_ HB).out hb);(try clear hb);(try clear hi))|(go_at_call 9;(with_reducible refine(sample_Parse.calls _ _ _ _ _ _ A7.out).mono ?_);rintro e w105 ⟨v347,rfl,ho0,hb⟩;have HO348:=Aside0.mk (Kd.N_lower (Kd.N_mono (ok':=fun k_=>True) ho0 (fun k_ hk_=>trivial)) (below_size (bl_ HB).out));replace HB:=Aside0.mk (below_step (bl_ HB).out hb);(try clear hb);(try clear ho0);obtain⟨Ao106,co106,eo106⟩:=Kd.N_slice HO348.out;subst eo106)))
   go_ret
   exact⟨ew_,(bl_ HB).out⟩
  rw[if_neg c103] at H
  have c103b0:(t349==1)=false:=beq_eq_false_iff_ne.mpr c103
  have c103b1:(t349 !=1)=true:=bne_iff_ne.mpr c103
  by_cases c107:t349=2
  ·rw[if_pos c107] at H
   have c107b0:(t349==2)=true:=beq_iff_eq.mpr c107
   have c107b1:(t349 !=2)=false:=bne_eq_false_iff_eq.mpr c107
   clear c107
   obtain rfl:=Option.some.inj H
   go_enter Tryd.func4,Tryd.ntmps4
   go_wp2_with (first|(go_at_call 6;(with_reducible refine(florinlaw08_head.calls _ _ _ A3.out).mono ?_);rintro e w108 ⟨rfl,hb⟩;replace HB:=Aside0.mk (below_step (bl_ HB).out hb);(try clear hb);(try clear hi))|(go_at_call 9;(with_reducible refine(sample_Parse.calls _ _ _ _ _ _ A7.out).mono ?_);rintro e w109 ⟨v347,rfl,ho0,hb⟩;have HO348:=Aside0.mk (Kd.N_lower (Kd.N_mono (ok':=fun k_=>True) ho0 (fun k_ hk_=>trivial)) (below_size (bl_ HB).out));replace HB:=Aside0.mk (below_step (bl_ HB).out hb);(try clear hb);(try clear ho0);obtain⟨Ao110,co110,eo110⟩:=Kd.N_slice HO348.out;subst eo110))
   repeat(go_quiet (first|(go_at_call 6;(with_reducible refine(florinlaw08_head.calls _ _ _ A3.out).mono ?_);rintro e w108 ⟨rfl,hb⟩;replace HB:=Aside0.mk (below_step (bl_ HB).out hb);(try clear hb);(try clear hi))|(go_at_call 9;(with_reducible refine(sample_Parse.calls _ _ _ _ _ _ A7.out).mono ?_);rintro e w109 ⟨v347,rfl,ho0,hb⟩;have HO348:=Aside0.mk (Kd.N_lower (Kd.N_mono (ok':=fun k_=>True) ho0 (fun k_ hk_=>trivial)) (below_size (bl_ HB).out));replace HB:=Aside0.mk (below_step (bl_ HB).out hb);(try clear hb);(try clear ho0);obtain⟨Ao110,co110,eo110⟩:=Kd.N_slice HO348.out;subst eo110));try go_wp2_with (first|(go_at_call 6;(with_reducible refine(florinlaw08_head.calls _ _ _ A3.out).mono ?_);rintro e w108 ⟨rfl,hb⟩;replace HB:=Aside0.mk (below_step (bl_ HB).out hb);(try clear hb);(try clear hi))|(go_at_call 9;(with_reducible refine(sample_Parse.calls _ _ _ _ _ _ A7.out).mono ?_);rintro e w109 ⟨v347,rfl,ho0,hb⟩;have HO348:=Aside0.mk (Kd.N_lower (Kd.N_mono (ok':=fun k_=>True) ho0 (fun k_ hk_=>trivial)) (below_size (bl_ HB).out));replace HB:=Aside0.mk (below_step (bl_ HB).out hb);(try clear hb);(try clear ho0);obtain⟨Ao110,co110,eo110⟩:=Kd.N_slice HO348.out;subst eo110)))
   go_ret
   exact⟨ew_,(bl_ HB).out⟩
  rw[if_neg c107] at H
  have c107b0:(t349==2)=false:=beq_eq_false_iff_ne.mpr c107
  have c107b1:(t349 !=2)=true:=bne_iff_ne.mpr c107
  by_cases c111:t349=3
  ·rw[if_pos c111] at H
   have c111b0:(t349==3)=true:=beq_iff_eq.mpr c111
   have c111b1:(t349 !=3)=false:=bne_eq_false_iff_eq.mpr c111
   clear c111
   obtain rfl:=Option.some.inj H
   go_enter Tryd.func4,Tryd.ntmps4
   go_wp2_with (first|(go_at_call 6;(with_reducible refine(florinlaw08_head.calls _ _ _ A3.out).mono ?_);rintro e w112 ⟨rfl,hb⟩;replace HB:=Aside0.mk (below_step (bl_ HB).out hb);(try clear hb);(try clear hi))|(go_at_call 9;(with_reducible refine(sample_Parse.calls _ _ _ _ _ _ A7.out).mono ?_);rintro e w113 ⟨v347,rfl,ho0,hb⟩;have HO348:=Aside0.mk (Kd.N_lower (Kd.N_mono (ok':=fun k_=>True) ho0 (fun k_ hk_=>trivial)) (below_size (bl_ HB).out));replace HB:=Aside0.mk (below_step (bl_ HB).out hb);(try clear hb);(try clear ho0);obtain⟨Ao114,co114,eo114⟩:=Kd.N_slice HO348.out;subst eo114))
   repeat(go_quiet (first|(go_at_call 6;(with_reducible refine(florinlaw08_head.calls _ _ _ A3.out).mono ?_);rintro e w112 ⟨rfl,hb⟩;replace HB:=Aside0.mk (below_step (bl_ HB).out hb);(try clear hb);(try clear hi))|(go_at_call 9;(with_reducible refine(sample_Parse.calls _ _ _ _ _ _ A7.out).mono ?_);rintro e w113 ⟨v347,rfl,ho0,hb⟩;have HO348:=Aside0.mk (Kd.N_lower (Kd.N_mono (ok':=fun k_=>True) ho0 (fun k_ hk_=>trivial)) (below_size (bl_ HB).out));replace HB:=Aside0.mk (below_step (bl_ HB).out hb);(try clear hb);(try clear ho0);obtain⟨Ao114,co114,eo114⟩:=Kd.N_slice HO348.out;subst eo114));try go_wp2_with (first|(go_at_call 6;(with_reducible refine(florinlaw08_head.calls _ _ _ A3.out).mono ?_);rintro e w112 ⟨rfl,hb⟩;replace HB:=Aside0.mk (below_step (bl_ HB).out hb);(try clear hb);(try clear hi))|(go_at_call 9;(with_reducible refine(sample_Parse.calls _ _ _ _ _ _ A7.out).mono ?_);rintro e w113 ⟨v347,rfl,ho0,hb⟩;have HO348:=Aside0.mk (Kd.N_lower (Kd.N_mono (ok':=fun k_=>True) ho0 (fun k_ hk_=>trivial)) (below_size (bl_ HB).out));replace HB:=Aside0.mk (below_step (bl_ HB).out hb);(try clear hb);(try clear ho0);obtain⟨Ao114,co114,eo114⟩:=Kd.N_slice HO348.out;subst eo114)))
   go_ret
   exact⟨ew_,(bl_ HB).out⟩
  rw[if_neg c111] at H
  have c111b0:(t349==3)=false:=beq_eq_false_iff_ne.mpr c111
  have c111b1:(t349 !=3)=true:=bne_iff_ne.mpr c111
  obtain rfl:=Option.some.inj H
  go_enter Tryd.func4,Tryd.ntmps4
  go_wp2_with (first|(go_at_call 6;(with_reducible refine(florinlaw08_head.calls _ _ _ A3.out).mono ?_);rintro e w115 ⟨rfl,hb⟩;replace HB:=Aside0.mk (below_step (bl_ HB).out hb);(try clear hb);(try clear hi))|(go_at_call 9;(with_reducible refine(sample_Parse.calls _ _ _ _ _ _ A7.out).mono ?_);rintro e w116 ⟨v347,rfl,ho0,hb⟩;have HO348:=Aside0.mk (Kd.N_lower (Kd.N_mono (ok':=fun k_=>True) ho0 (fun k_ hk_=>trivial)) (below_size (bl_ HB).out));replace HB:=Aside0.mk (below_step (bl_ HB).out hb);(try clear hb);(try clear ho0);obtain⟨Ao117,co117,eo117⟩:=Kd.N_slice HO348.out;subst eo117))
  repeat(go_quiet (first|(go_at_call 6;(with_reducible refine(florinlaw08_head.calls _ _ _ A3.out).mono ?_);rintro e w115 ⟨rfl,hb⟩;replace HB:=Aside0.mk (below_step (bl_ HB).out hb);(try clear hb);(try clear hi))|(go_at_call 9;(with_reducible refine(sample_Parse.calls _ _ _ _ _ _ A7.out).mono ?_);rintro e w116 ⟨v347,rfl,ho0,hb⟩;have HO348:=Aside0.mk (Kd.N_lower (Kd.N_mono (ok':=fun k_=>True) ho0 (fun k_ hk_=>trivial)) (below_size (bl_ HB).out));replace HB:=Aside0.mk (below_step (bl_ HB).out hb);(try clear hb);(try clear ho0);obtain⟨Ao117,co117,eo117⟩:=Kd.N_slice HO348.out;subst eo117));try go_wp2_with (first|(go_at_call 6;(with_reducible refine(florinlaw08_head.calls _ _ _ A3.out).mono ?_);rintro e w115 ⟨rfl,hb⟩;replace HB:=Aside0.mk (below_step (bl_ HB).out hb);(try clear hb);(try clear hi))|(go_at_call 9;(with_reducible refine(sample_Parse.calls _ _ _ _ _ _ A7.out).mono ?_);rintro e w116 ⟨v347,rfl,ho0,hb⟩;have HO348:=Aside0.mk (Kd.N_lower (Kd.N_mono (ok':=fun k_=>True) ho0 (fun k_ hk_=>trivial)) (below_size (bl_ HB).out));replace HB:=Aside0.mk (below_step (bl_ HB).out hb);(try clear hb);(try clear ho0);obtain⟨Ao117,co117,eo117⟩:=Kd.N_slice HO348.out;subst eo117)))
  go_ret
  exact⟨ew_,(bl_ HB).out⟩
 replace c4:=Bool.eq_false_iff.mpr c4
 subst c4
 rw[if_neg (show ¬(false=true) by decide)] at H
 exact absurd H (by simp)

/-- THE ONE PURE STATEMENT of florinlaw08_SampleReads: yours. -/
def florinlaw08_SampleReads.Pure:Prop:=∀(a0:ByteArray) (a1:Int),a0.size≤140737488351232→(Lit.int .i64 a1).wf=true→∃k,florinlaw08_SampleReads.f k a0 a1=some true
theorem florinlaw08_SampleReads.walk (P:florinlaw08_SampleReads.Pure) (a0:ByteArray) (a1:Int) (w:World) (w0:a0.size≤140737488351232) (w1:(Lit.int .i64 a1).wf=true) :
  Calls Tryd.prog 4 #[.string a0,.int .i64 a1] w fun e w'=>e= .returned (.bool true)∧Below w.heap.size w w':=by
 obtain⟨k,h⟩:=P a0 a1 w0 w1
 refine(florinlaw08_SampleReads.calls _ _ _ _ _ h).mono ?_
 rintro e w' ⟨rfl,hd⟩
 exact⟨rfl,hd⟩

end Go.Proofs.YtbhhfpjiacfofaaDoor.P
