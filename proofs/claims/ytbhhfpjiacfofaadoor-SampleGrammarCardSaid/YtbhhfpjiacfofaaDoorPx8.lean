-- written by a program of this session (wip/p2)
import Derived.Test.YtbhhfpjiacfofaaDoorPx0
import Derived.Test.YtbhhfpjiacfofaaDoorPx6
import Derived.Test.YtbhhfpjiacfofaaDoorPx7
namespace Go.Proofs.YtbhhfpjiacfofaaDoor.P
open Go.RowKit Go.Proofs.YtbhhfpjiacfofaaDoorW.PrintWords Go.Proofs.YtbhhfpjiacfofaaDoorW.PrintLast Go.Proofs.YtbhhfpjiacfofaaDoorW.PrintMore
attribute [local go_sem] max2_int min2_int max_two min_two max_three min_three max_four min_four   -- for this text's walks alone
set_option linter.unusedVariables false
set_option linter.unusedSimpArgs false

/-! ### florinlaw08_head: function 6 -/
def florinlaw08_head.f (k:Nat):Option (Bool):=(sample_Parse.f k (⟨#[64,100,101,99,105,109,97,108,32,48,46,56,126,49,46,49,44,32,226,128,166]⟩:ByteArray)).bind fun bt328=>(if bt328.2.1=0 then (if (bt328.1.length:Int)=1 then (if 0<(bt328.1.length:Int) then (if ((rd_T35 bt328.1 0).f0=true) then (if ((rd_T35 bt328.1 0).f2=true) then (if (((rd_T35 bt328.1 0).f1).length:Int)=1 then (if 0<(((rd_T35 bt328.1 0).f1).length:Int) then ((florinlaw08_texts.f k ((rd_T37 ((rd_T35 bt328.1 0).f1) 0).f0) ((rd_T37 ((rd_T35 bt328.1 0).f1) 0).f1)).bind fun t338=>(if (t338.length:Int)=4 then (if 0<(t338.length:Int) then (if (rdOf ByteArray.empty t338 0).toList=([48,46,56]:List UInt8) then (if 1<(t338.length:Int) then (if (rdOf ByteArray.empty t338 1).toList=([48,46,57]:List UInt8) then (if 2<(t338.length:Int) then (if (rdOf ByteArray.empty t338 2).toList=([49,46,48]:List UInt8) then (if 3<(t338.length:Int) then (some ((rdOf ByteArray.empty t338 3).toList==([49,46,49]:List UInt8))) else (none)) else (none)) else (none)) else (none)) else (none)) else (none)) else (none)) else (none))) else (none)) else (none)) else (none)) else (none)) else (none)) else (none)) else (none))
set_option maxHeartbeats 64000000 in
set_option maxRecDepth 100000 in
theorem florinlaw08_head.calls (k:Nat)  (r:Bool) (w:World) (h:florinlaw08_head.f k=some r) :
  Calls Tryd.prog 6 #[] w fun e w'=>e= .returned (.bool r)∧Below w.heap.size w w':=by
 have hu37:=Tryd.underlying37
 have HB:=Aside0.mk (Below.refl w.heap.size w)
 have H:=h
 clear h
 unfold florinlaw08_head.f at H
 replace H:=Option.bind_eq_some_iff.mp H
 obtain⟨⟨t328,t331,t332⟩,A10,H⟩:=H
 dsimp only at H
 have A1:=Aside0.mk A10
 clear A10
 replace H:=ifn_ H
 obtain⟨c2,H⟩:=H
 have c2b0:(t331==0)=true:=beq_iff_eq.mpr c2
 have c2b1:(t331 !=0)=false:=bne_eq_false_iff_eq.mpr c2
 clear c2
 replace H:=ifn_ H
 obtain⟨c3,H⟩:=H
 have c3b0:((t328.length:Int)==1)=true:=beq_iff_eq.mpr c3
 have c3b1:((t328.length:Int) !=1)=false:=bne_eq_false_iff_eq.mpr c3
 clear c3
 replace H:=ifn_ H
 obtain⟨c4,H⟩:=H
 have c4b0:decide (0<(t328.length:Int))=true:=decide_eq_true c4
 have c4b1:decide (0<t328.length)=true:=decide_eq_true (by omega)
 clear c4
 obtain⟨bq5,hbq5⟩:∃b_:Bool,b_=((rd_T35 t328 0).f0):=⟨_,rfl⟩
 replace H:(if (bq5=true) then (if ((rd_T35 t328 0).f2=true) then (if (((rd_T35 t328 0).f1).length:Int)=1 then (if 0<(((rd_T35 t328 0).f1).length:Int) then ((florinlaw08_texts.f k ((rd_T37 ((rd_T35 t328 0).f1) 0).f0) ((rd_T37 ((rd_T35 t328 0).f1) 0).f1)).bind fun t338=>(if (t338.length:Int)=4 then (if 0<(t338.length:Int) then (if (rdOf ByteArray.empty t338 0).toList=([48,46,56]:List UInt8) then (if 1<(t338.length:Int) then (if (rdOf ByteArray.empty t338 1).toList=([48,46,57]:List UInt8) then (if 2<(t338.length:Int) then (if (rdOf ByteArray.empty t338 2).toList=([49,46,48]:List UInt8) then (if 3<(t338.length:Int) then (some ((rdOf ByteArray.empty t338 3).toList==([49,46,49]:List UInt8))) else (none)) else (none)) else (none)) else (none)) else (none)) else (none)) else (none)) else (none))) else (none)) else (none)) else (none)) else (none))=some r:=by rw[← hbq5] at H;exact H
 have Nbq5:=Aside0.mk hbq5
 clear hbq5
 by_cases c6:(bq5=true)
 ·subst c6
  rw[if_pos rfl] at H
  obtain⟨bq7,hbq7⟩:∃b_:Bool,b_=((rd_T35 t328 0).f2):=⟨_,rfl⟩
  replace H:(if (bq7=true) then (if (((rd_T35 t328 0).f1).length:Int)=1 then (if 0<(((rd_T35 t328 0).f1).length:Int) then ((florinlaw08_texts.f k ((rd_T37 ((rd_T35 t328 0).f1) 0).f0) ((rd_T37 ((rd_T35 t328 0).f1) 0).f1)).bind fun t338=>(if (t338.length:Int)=4 then (if 0<(t338.length:Int) then (if (rdOf ByteArray.empty t338 0).toList=([48,46,56]:List UInt8) then (if 1<(t338.length:Int) then (if (rdOf ByteArray.empty t338 1).toList=([48,46,57]:List UInt8) then (if 2<(t338.length:Int) then (if (rdOf ByteArray.empty t338 2).toList=([49,46,48]:List UInt8) then (if 3<(t338.length:Int) then (some ((rdOf ByteArray.empty t338 3).toList==([49,46,49]:List UInt8))) else (none)) else (none)) else (none)) else (none)) else (none)) else (none)) else (none)) else (none))) else (none)) else (none)) else (none))=some r:=by rw[← hbq7] at H;exact H
  have Nbq7:=Aside0.mk hbq7
  clear hbq7
  by_cases c8:(bq7=true)
  ·subst c8
   rw[if_pos rfl] at H
   replace H:=ifn_ H
   obtain⟨c9,H⟩:=H
   have c9b0:((((rd_T35 t328 0).f1).length:Int)==1)=true:=beq_iff_eq.mpr c9
   have c9b1:((((rd_T35 t328 0).f1).length:Int) !=1)=false:=bne_eq_false_iff_eq.mpr c9
   clear c9
   replace H:=ifn_ H
   obtain⟨c10,H⟩:=H
   have c10b0:decide (0<(((rd_T35 t328 0).f1).length:Int))=true:=decide_eq_true c10
   have c10b1:decide (0<((rd_T35 t328 0).f1).length)=true:=decide_eq_true (by omega)
   clear c10
   replace H:=Option.bind_eq_some_iff.mp H
   obtain⟨t338,A110,H⟩:=H
   have A11:=Aside0.mk A110
   clear A110
   replace H:=ifn_ H
   obtain⟨c12,H⟩:=H
   have c12b0:((t338.length:Int)==4)=true:=beq_iff_eq.mpr c12
   have c12b1:((t338.length:Int) !=4)=false:=bne_eq_false_iff_eq.mpr c12
   clear c12
   replace H:=ifn_ H
   obtain⟨c13,H⟩:=H
   have c13b0:decide (0<(t338.length:Int))=true:=decide_eq_true c13
   have c13b1:decide (0<t338.length)=true:=decide_eq_true (by omega)
   clear c13
   replace H:=ifn_ H
   obtain⟨c14,H⟩:=H
   have c14b0:((rdOf ByteArray.empty t338 0).toList==([48,46,56]:List UInt8))=true:=beq_iff_eq.mpr c14
   have c14b1:((rdOf ByteArray.empty t338 0).toList !=([48,46,56]:List UInt8))=false:=bne_eq_false_iff_eq.mpr c14
   clear c14
   replace H:=ifn_ H
   obtain⟨c15,H⟩:=H
   have c15b0:decide (1<(t338.length:Int))=true:=decide_eq_true c15
   have c15b1:decide (1<t338.length)=true:=decide_eq_true (by omega)
   clear c15
   replace H:=ifn_ H
   obtain⟨c16,H⟩:=H
   have c16b0:((rdOf ByteArray.empty t338 1).toList==([48,46,57]:List UInt8))=true:=beq_iff_eq.mpr c16
   have c16b1:((rdOf ByteArray.empty t338 1).toList !=([48,46,57]:List UInt8))=false:=bne_eq_false_iff_eq.mpr c16
   clear c16
   replace H:=ifn_ H
   obtain⟨c17,H⟩:=H
   have c17b0:decide (2<(t338.length:Int))=true:=decide_eq_true c17
   have c17b1:decide (2<t338.length)=true:=decide_eq_true (by omega)
   clear c17
   replace H:=ifn_ H
   obtain⟨c18,H⟩:=H
   have c18b0:((rdOf ByteArray.empty t338 2).toList==([49,46,48]:List UInt8))=true:=beq_iff_eq.mpr c18
   have c18b1:((rdOf ByteArray.empty t338 2).toList !=([49,46,48]:List UInt8))=false:=bne_eq_false_iff_eq.mpr c18
   clear c18
   replace H:=ifn_ H
   obtain⟨c19,H⟩:=H
   have c19b0:decide (3<(t338.length:Int))=true:=decide_eq_true c19
   have c19b1:decide (3<t338.length)=true:=decide_eq_true (by omega)
   clear c19
   obtain rfl:=Option.some.inj H
   go_enter Tryd.func6,Tryd.ntmps6
   go_wp2_with (first|((with_reducible refine gate_callee (f:=9) rfl ?_);refine gl_ (some 6) Tryd.func9 #[.string (⟨#[64,100,101,99,105,109,97,108,32,48,46,56,126,49,46,49,44,32,226,128,166]⟩:ByteArray)] ?_;(with_reducible refine(sample_Parse.calls _ _ _ _ _ _ A1.out).mono ?_);rintro e w20 ⟨v329,rfl,ho0,hb⟩;refine⟨_,rfl,?_⟩;have HO330:=Aside0.mk (Kd.N_lower (Kd.N_mono (ok':=fun k_=>True) ho0 (fun k_ hk_=>trivial)) (below_size (bl_ HB).out));replace HB:=Aside0.mk (below_step (bl_ HB).out hb);(try clear hb);(try clear ho0);obtain⟨Ao21,co21,eo21⟩:=Kd.N_slice HO330.out;subst eo21;have p333:0≤(0:Int):=(by omega);have q333:0<(t328.length:Int):=od_;obtain⟨ad333,A333_1,c333_1,e333,hx333_0,hx333_1,hx333_2,hl333_1,hi333_1⟩:=at_T35 (Kd.N_reads' HO330.out).2.2 0 p333 q333;(try rw[← Nbq5.out] at hx333_0);(try rw[← Nbq7.out] at hx333_0);(try rw[← Nbq5.out] at hx333_2);(try rw[← Nbq7.out] at hx333_2);cases e333;obtain⟨ce333,hce333,hMe333,hcc333⟩:=Kd.N_get HO330.out z35 0 p333 (by first|exact q333|exact od_|(have e_:=(Kd.N_reads' HO330.out).1;omega));obtain⟨ua333_1,uc333_1,rfl,ul333_1,ge333_1⟩:=k35_openF hMe333;have hv333_1:=hcc333 1 _ rfl;rw[add_field _ _ 1 (by omega)] at hv333_1;replace hv333_1:=Option.some.inj (hv333_1.symm.trans hx333_1);injection hv333_1 with hva_ hvn_ hvc_;rw[hva_] at ge333_1;rw[hvc_] at ul333_1;have HL333_1:=Aside0.mk (show Kd.V k37 37 _ w.heap.size _ _ ((rd_T35 t328 0).f1) from Kd.V_mk ul333_1 ge333_1);clear hva_ hvn_ hvc_ ge333_1 ul333_1;clear hcc333 hce333;have qi333:(0<t328.length)=True:=eq_true (by omega);(try rw[show((0:Int)).toNat=0 from rfl] at hx333_0);(try rw[show 0*3=0 from rfl] at hx333_0);(try rw[Addr.add_zero'] at hx333_0);(try rw[show((0:Int)).toNat=0 from rfl] at hx333_1);(try rw[show 0*3=0 from rfl] at hx333_1);(try rw[Addr.add_zero'] at hx333_1);(try rw[show((0:Int)).toNat=0 from rfl] at hx333_2);(try rw[show 0*3=0 from rfl] at hx333_2);(try rw[Addr.add_zero'] at hx333_2);have HR333_1:=Aside0.mk hi333_1;have HC333_1:=Aside0.mk hl333_1;clear hi333_1 hl333_1;replace p333:=eq_true p333;replace q333:=eq_true q333;have p334:0≤(0:Int):=(by omega);have q334:0<(t328.length:Int):=od_;obtain⟨ad334,A334_1,c334_1,e334,hx334_0,hx334_1,hx334_2,hl334_1,hi334_1⟩:=at_T35 (Kd.N_reads' HO330.out).2.2 0 p334 q334;(try rw[← Nbq5.out] at hx334_0);(try rw[← Nbq7.out] at hx334_0);(try rw[← Nbq5.out] at hx334_2);(try rw[← Nbq7.out] at hx334_2);obtain rfl:ad333=ad334:=(by injection e334);obtain⟨ce334,hce334,hMe334,hcc334⟩:=Kd.N_get HO330.out z35 0 p334 (by first|exact q334|exact od_|(have e_:=(Kd.N_reads' HO330.out).1;omega));obtain⟨ua334_1,uc334_1,rfl,ul334_1,ge334_1⟩:=k35_openF hMe334;have hv334_1:=hcc334 1 _ rfl;rw[add_field _ _ 1 (by omega)] at hv334_1;replace hv334_1:=Option.some.inj (hv334_1.symm.trans hx334_1);injection hv334_1 with hva_ hvn_ hvc_;rw[hva_] at ge334_1;rw[hvc_] at ul334_1;have HL334_1:=Aside0.mk (show Kd.V k37 37 _ w.heap.size _ _ ((rd_T35 t328 0).f1) from Kd.V_mk ul334_1 ge334_1);clear hva_ hvn_ hvc_ ge334_1 ul334_1;clear hcc334 hce334;have qi334:(0<t328.length)=True:=eq_true (by omega);(try rw[show((0:Int)).toNat=0 from rfl] at hx334_0);(try rw[show 0*3=0 from rfl] at hx334_0);(try rw[Addr.add_zero'] at hx334_0);(try rw[show((0:Int)).toNat=0 from rfl] at hx334_1);(try rw[show 0*3=0 from rfl] at hx334_1);(try rw[Addr.add_zero'] at hx334_1);(try rw[show((0:Int)).toNat=0 from rfl] at hx334_2);(try rw[show 0*3=0 from rfl] at hx334_2);(try rw[Addr.add_zero'] at hx334_2);have HR334_1:=Aside0.mk hi334_1;have HC334_1:=Aside0.mk hl334_1;clear hi334_1 hl334_1;replace p334:=eq_true p334;replace q334:=eq_true q334;have ea_:=Option.some.inj (hx333_1.symm.trans hx334_1);injection ea_ with ea_ en_ ec_;subst ea_;subst ec_;clear en_;have p335:0≤(0:Int):=(by omega);have q335:0<(t328.length:Int):=od_;obtain⟨ad335,A335_1,c335_1,e335,hx335_0,hx335_1,hx335_2,hl335_1,hi335_1⟩:=at_T35 (Kd.N_reads' HO330.out).2.2 0 p335 q335;(try rw[← Nbq5.out] at hx335_0);(try rw[← Nbq7.out] at hx335_0);(try rw[← Nbq5.out] at hx335_2);(try rw[← Nbq7.out] at hx335_2);obtain rfl:ad333=ad335:=(by injection e335);obtain⟨ce335,hce335,hMe335,hcc335⟩:=Kd.N_get HO330.out z35 0 p335 (by first|exact q335|exact od_|(have e_:=(Kd.N_reads' HO330.out).1;omega));obtain⟨ua335_1,uc335_1,rfl,ul335_1,ge335_1⟩:=k35_openF hMe335;have hv335_1:=hcc335 1 _ rfl;rw[add_field _ _ 1 (by omega)] at hv335_1;replace hv335_1:=Option.some.inj (hv335_1.symm.trans hx335_1);injection hv335_1 with hva_ hvn_ hvc_;rw[hva_] at ge335_1;rw[hvc_] at ul335_1;have HL335_1:=Aside0.mk (show Kd.V k37 37 _ w.heap.size _ _ ((rd_T35 t328 0).f1) from Kd.V_mk ul335_1 ge335_1);clear hva_ hvn_ hvc_ ge335_1 ul335_1;clear hcc335 hce335;have qi335:(0<t328.length)=True:=eq_true (by omega);(try rw[show((0:Int)).toNat=0 from rfl] at hx335_0);(try rw[show 0*3=0 from rfl] at hx335_0);(try rw[Addr.add_zero'] at hx335_0);(try rw[show((0:Int)).toNat=0 from rfl] at hx335_1);(try rw[show 0*3=0 from rfl] at hx335_1);(try rw[Addr.add_zero'] at hx335_1);(try rw[show((0:Int)).toNat=0 from rfl] at hx335_2);(try rw[show 0*3=0 from rfl] at hx335_2);(try rw[Addr.add_zero'] at hx335_2);have HR335_1:=Aside0.mk hi335_1;have HC335_1:=Aside0.mk hl335_1;clear hi335_1 hl335_1;replace p335:=eq_true p335;replace q335:=eq_true q335;have ea_:=Option.some.inj (hx333_1.symm.trans hx335_1);injection ea_ with ea_ en_ ec_;subst ea_;subst ec_;clear en_;have p336:0≤(0:Int):=(by omega);have q336:0<(t328.length:Int):=od_;obtain⟨ad336,A336_1,c336_1,e336,hx336_0,hx336_1,hx336_2,hl336_1,hi336_1⟩:=at_T35 (Kd.N_reads' HO330.out).2.2 0 p336 q336;(try rw[← Nbq5.out] at hx336_0);(try rw[← Nbq7.out] at hx336_0);(try rw[← Nbq5.out] at hx336_2);(try rw[← Nbq7.out] at hx336_2);obtain rfl:ad333=ad336:=(by injection e336);obtain⟨ce336,hce336,hMe336,hcc336⟩:=Kd.N_get HO330.out z35 0 p336 (by first|exact q336|exact od_|(have e_:=(Kd.N_reads' HO330.out).1;omega));obtain⟨ua336_1,uc336_1,rfl,ul336_1,ge336_1⟩:=k35_openF hMe336;have hv336_1:=hcc336 1 _ rfl;rw[add_field _ _ 1 (by omega)] at hv336_1;replace hv336_1:=Option.some.inj (hv336_1.symm.trans hx336_1);injection hv336_1 with hva_ hvn_ hvc_;rw[hva_] at ge336_1;rw[hvc_] at ul336_1;have HL336_1:=Aside0.mk (show Kd.V k37 37 _ w.heap.size _ _ ((rd_T35 t328 0).f1) from Kd.V_mk ul336_1 ge336_1);clear hva_ hvn_ hvc_ ge336_1 ul336_1;clear hcc336 hce336;have qi336:(0<t328.length)=True:=eq_true (by omega);(try rw[show((0:Int)).toNat=0 from rfl] at hx336_0);(try rw[show 0*3=0 from rfl] at hx336_0);(try rw[Addr.add_zero'] at hx336_0);(try rw[show((0:Int)).toNat=0 from rfl] at hx336_1);(try rw[show 0*3=0 from rfl] at hx336_1);(try rw[Addr.add_zero'] at hx336_1);(try rw[show((0:Int)).toNat=0 from rfl] at hx336_2);(try rw[show 0*3=0 from rfl] at hx336_2);(try rw[Addr.add_zero'] at hx336_2);have HR336_1:=Aside0.mk hi336_1;have HC336_1:=Aside0.mk hl336_1;clear hi336_1 hl336_1;replace p336:=eq_true p336;replace q336:=eq_true q336;have ea_:=Option.some.inj (hx333_1.symm.trans hx336_1);injection ea_ with ea_ en_ ec_;subst ea_;subst ec_;clear en_;have p337:0≤(0:Int):=(by omega);have q337:0<(((rd_T35 t328 0).f1).length:Int):=od_;obtain⟨ad337,e337,hx337_0,hx337_1⟩:=at_T37 (by repeat(first|(with_reducible exact HR336_1.out)|(with_reducible refine Kd.C_alloc ?_ _)|(with_reducible refine Kd.C_drewN ?_ _)|(with_reducible refine Kd.C_drew ?_)|exact HR336_1.out)) 0 p337 q337;cases e337;have qi337:(0<((rd_T35 t328 0).f1).length)=True:=eq_true (by omega);(try rw[show((0:Int)).toNat=0 from rfl] at hx337_0);(try rw[show 0*2=0 from rfl] at hx337_0);(try rw[Addr.add_zero'] at hx337_0);(try rw[show((0:Int)).toNat=0 from rfl] at hx337_1);(try rw[show 0*2=0 from rfl] at hx337_1);(try rw[Addr.add_zero'] at hx337_1);replace p337:=eq_true p337;replace q337:=eq_true q337)|((with_reducible refine gate_callee (f:=11) rfl ?_);refine gl_ (some 45) Tryd.func11 #[.agg #[.string ((rd_T37 ((rd_T35 t328 0).f1) 0).f0),.string ((rd_T37 ((rd_T35 t328 0).f1) 0).f1)]] ?_;(with_reducible refine(florinlaw08_texts.calls k ((rd_T37 ((rd_T35 t328 0).f1) 0).f0) ((rd_T37 ((rd_T35 t328 0).f1) 0).f1) t338 _ A11.out).mono ?_);rintro e w22 ⟨v339,rfl,ho0,hb⟩;refine⟨_,rfl,?_⟩;have HO340:=Aside0.mk (Kd.R_lower ho0 (below_size (bl_ HB).out));replace HO330:=Aside0.mk (Kd.N_elder' (krN_ HO330) (Kd.R_base ho0) hb);replace HL333_1:=Aside0.mk (Kd.V_elder' (krV_ HL333_1) (Kd.R_base ho0) hb);replace HL334_1:=Aside0.mk (Kd.V_elder' (krV_ HL334_1) (Kd.R_base ho0) hb);replace HL335_1:=Aside0.mk (Kd.V_elder' (krV_ HL335_1) (Kd.R_base ho0) hb);replace HL336_1:=Aside0.mk (Kd.V_elder' (krV_ HL336_1) (Kd.R_base ho0) hb);replace HR333_1:=Aside0.mk (Kd.C_below (by repeat(first|(with_reducible exact HR333_1.out)|(with_reducible refine Kd.C_alloc ?_ _)|(with_reducible refine Kd.C_drewN ?_ _)|(with_reducible refine Kd.C_drew ?_)|exact HR333_1.out)) hb);replace HR334_1:=Aside0.mk (Kd.C_below (by repeat(first|(with_reducible exact HR334_1.out)|(with_reducible refine Kd.C_alloc ?_ _)|(with_reducible refine Kd.C_drewN ?_ _)|(with_reducible refine Kd.C_drew ?_)|exact HR334_1.out)) hb);replace HR335_1:=Aside0.mk (Kd.C_below (by repeat(first|(with_reducible exact HR335_1.out)|(with_reducible refine Kd.C_alloc ?_ _)|(with_reducible refine Kd.C_drewN ?_ _)|(with_reducible refine Kd.C_drew ?_)|exact HR335_1.out)) hb);replace HR336_1:=Aside0.mk (Kd.C_below (by repeat(first|(with_reducible exact HR336_1.out)|(with_reducible refine Kd.C_alloc ?_ _)|(with_reducible refine Kd.C_drewN ?_ _)|(with_reducible refine Kd.C_drew ?_)|exact HR336_1.out)) hb);replace HB:=Aside0.mk (below_step (bl_ HB).out hb);(try clear hb);(try clear ho0);obtain⟨Ao23,co23,eo23⟩:=Kd.R_slice HO340.out;subst eo23;have p341:0≤(0:Int):=(by omega);have q341:0<(t338.length:Int):=od_;obtain⟨ad341,e341,hx341_0⟩:=Kd.at_string (Kd.R_reads' HO340.out).2.2 0 p341 q341;cases e341;have qi341:(0<t338.length)=True:=eq_true (by omega);(try rw[show((0:Int)).toNat=0 from rfl] at hx341_0);(try rw[Addr.add_zero'] at hx341_0);replace p341:=eq_true p341;replace q341:=eq_true q341;have p342:0≤(1:Int):=(by omega);have q342:1<(t338.length:Int):=od_;obtain⟨ad342,e342,hx342_0⟩:=Kd.at_string (Kd.R_reads' HO340.out).2.2 1 p342 q342;obtain rfl:ad341=ad342:=(by injection e342);(try simp only[show(1:Int).toNat=1 from rfl,Nat.reduceMul,Nat.reduceEqDiff,Go.Addr.add, ↓reduceIte] at hx342_0);have qi342:(1<t338.length)=True:=eq_true (by omega);(try rw[show((1:Int)).toNat=1 from rfl] at hx342_0);replace p342:=eq_true p342;replace q342:=eq_true q342;have p343:0≤(2:Int):=(by omega);have q343:2<(t338.length:Int):=od_;obtain⟨ad343,e343,hx343_0⟩:=Kd.at_string (Kd.R_reads' HO340.out).2.2 2 p343 q343;obtain rfl:ad341=ad343:=(by injection e343);(try simp only[show(2:Int).toNat=2 from rfl,Nat.reduceMul,Nat.reduceEqDiff,Go.Addr.add, ↓reduceIte] at hx343_0);have qi343:(2<t338.length)=True:=eq_true (by omega);(try rw[show((2:Int)).toNat=2 from rfl] at hx343_0);replace p343:=eq_true p343;replace q343:=eq_true q343;have p344:0≤(3:Int):=(by omega);have q344:3<(t338.length:Int):=od_;obtain⟨ad344,e344,hx344_0⟩:=Kd.at_string (Kd.R_reads' HO340.out).2.2 3 p344 q344;obtain rfl:ad341=ad344:=(by injection e344);(try simp only[show(3:Int).toNat=3 from rfl,Nat.reduceMul,Nat.reduceEqDiff,Go.Addr.add, ↓reduceIte] at hx344_0);have qi344:(3<t338.length)=True:=eq_true (by omega);(try rw[show((3:Int)).toNat=3 from rfl] at hx344_0);replace p344:=eq_true p344;replace q344:=eq_true q344))
   go_ret
   exact⟨ew_,(bl_ HB).out⟩
  replace c8:=Bool.eq_false_iff.mpr c8
  subst c8
  rw[if_neg (show ¬(false=true) by decide)] at H
  exact absurd H (by simp)
 replace c6:=Bool.eq_false_iff.mpr c6
 subst c6
 rw[if_neg (show ¬(false=true) by decide)] at H
 exact absurd H (by simp)

end Go.Proofs.YtbhhfpjiacfofaaDoor.P
