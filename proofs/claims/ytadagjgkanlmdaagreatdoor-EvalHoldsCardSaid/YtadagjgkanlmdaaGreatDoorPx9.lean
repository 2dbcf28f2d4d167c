import Derived.Test.YtadagjgkanlmdaaGreatDoorPx0
import Derived.Test.YtadagjgkanlmdaaGreatDoorPx8
namespace Go.Proofs.YtadagjgkanlmdaaGreatDoor.P
open Go.RowKit Go.Proofs.YtadagjgkanlmdaaGreatDoorW.PrintWords Go.Proofs.YtadagjgkanlmdaaGreatDoorW.PrintLast Go.Proofs.YtadagjgkanlmdaaGreatDoorW.PrintMore
attribute [local go_sem] max2_int min2_int max_two min_two max_three min_three max_four min_four
set_option maxHeartbeats 64000000
set_option maxRecDepth 100000
set_option linter.unusedVariables false
set_option linter.unusedSimpArgs false

def florinlaw05_Shown.f (k:Nat) (l0:List Int) (l1:List Int):Option (Bool × ByteArray × ByteArray):=(florinlaw01_Digits.f k l0).bind fun t627=>((florinlaw01_Digits.f k l1).bind fun t628=>(if t627.toList=([]:List UInt8) then (if t628.toList=([]:List UInt8) then (some (false,(⟨#[48]⟩:ByteArray),t628)) else (some (false,t627,t628))) else (some (false,t627,t628))))
theorem florinlaw05_Shown.calls (k:Nat) (A0:Option Addr) (c0:Nat) (l0:List Int) (A1:Option Addr) (c1:Nat) (l1:List Int) (r1:Bool) (r2:ByteArray) (r3:ByteArray) (w:World) (hr0:Kd.C (Kd.int .u8) w A0 l0.length l0) (hc0:l0.length≤c0) (hr1:Kd.C (Kd.int .u8) w A1 l1.length l1) (hc1:l1.length≤c1) (h:florinlaw05_Shown.f k l0 l1=some (r1,r2,r3)) :
  Calls Tryz.prog 11 #[.slice A0 l0.length c0,.slice A1 l1.length c1] w fun e w'=>e= .returned (.agg #[.bool r1,.string r2,.string r3])∧Below w.heap.size w w':=by
 have hu30:=Tryz.underlying30
 have HR0:=am_ hr0
 have HC0:=am_ hc0
 clear hr0 hc0
 have HR1:=am_ hr1
 have HC1:=am_ hc1
 clear hr1 hc1
 have HB:=am_ (Below.refl w.heap.size w)
 have H:=h
 clear h
 unfold florinlaw05_Shown.f at H
 replace H:=Option.bind_eq_some_iff.mp H
 obtain⟨t627,A30,H⟩:=H
 have A3:=am_ A30
 clear A30
 replace H:=Option.bind_eq_some_iff.mp H
 obtain⟨t628,A40,H⟩:=H
 have A4:=am_ A40
 clear A40
 by_cases c5:t627.toList=([]:List UInt8)
 ·rw[if_pos c5] at H
  have c5b0:(t627.toList==([]:List UInt8))=true:=beq_iff_eq.mpr c5
  have c5b1:(t627.toList !=([]:List UInt8))=false:=bne_eq_false_iff_eq.mpr c5
  have c5b2:(t627.toList.isEmpty)=true:=by rw[c5];rfl
  clear c5
  by_cases c6:t628.toList=([]:List UInt8)
  ·rw[if_pos c6] at H
   have c6b0:(t628.toList==([]:List UInt8))=true:=beq_iff_eq.mpr c6
   have c6b1:(t628.toList !=([]:List UInt8))=false:=bne_eq_false_iff_eq.mpr c6
   have c6b2:(t628.toList.isEmpty)=true:=by rw[c6];rfl
   clear c6
   simp only[Option.some.injEq,Prod.mk.injEq] at H
   obtain⟨rfl,rfl,rfl⟩:=H
   have hs40:=fun W b x0 x1 x2 y h0 h1 h2=>(given_set4 W b x0 x1 x2 y h0 h1 h2).1
   have hs41:=fun W b x0 x1 x2 y h0 h1 h2=>(given_set4 W b x0 x1 x2 y h0 h1 h2).2.1
   have hs42:=fun W b x0 x1 x2 y h0 h1 h2=>(given_set4 W b x0 x1 x2 y h0 h1 h2).2.2
   go_enter Tryz.func11,Tryz.ntmps11
   go_wp2_with (first|((with_reducible refine gate_dst (N:=4) rfl ?_);refine be_ 4 #[.bool false,.string (⟨#[]⟩:ByteArray),.string (⟨#[]⟩:ByteArray)] 30 ?_;intro gb626 hg w7 hbox hb;have BK626:=am_ (hbox);have GW626:=sz_ HB hg;have GE626:=sz_ HB hg;replace HB:=am_ (below_step (bl_ HB).out hb);clear hb hbox hg)|((with_reducible refine gate_callee (f:=26) rfl ?_);refine gl_ (some 7) Tryz.func26 #[.slice A0 l0.length c0] ?_;(with_reducible refine(florinlaw01_Digits.calls _ _ _ _ _ _ ?side1 ?side2 A3.out).mono ?_);(case side1=>repeat(first|exact(Kd.C_below HR0.out HB.out)|(with_reducible refine Kd.C_alloc ?_ _)|(with_reducible refine Kd.C_drewN ?_ _)|(with_reducible refine Kd.C_drew ?_)));(case side2=>exact HC0.out);rintro e w8 ⟨rfl,hb⟩;refine⟨_,rfl,?_⟩;replace BK626:=bb_ BK626 hb;replace HB:=am_ (below_step (bl_ HB).out hb);(try clear hb);(try clear hi))|((with_reducible refine gate_callee (f:=26) rfl ?_);refine gl_ (some 9) Tryz.func26 #[.slice A1 l1.length c1] ?_;(with_reducible refine(florinlaw01_Digits.calls _ _ _ _ _ _ ?side1 ?side2 A4.out).mono ?_);(case side1=>repeat(first|exact(Kd.C_below HR1.out HB.out)|(with_reducible refine Kd.C_alloc ?_ _)|(with_reducible refine Kd.C_drewN ?_ _)|(with_reducible refine Kd.C_drew ?_)));(case side2=>exact HC1.out);rintro e w9 ⟨rfl,hb⟩;refine⟨_,rfl,?_⟩;replace BK626:=bb_ BK626 hb;replace HB:=am_ (below_step (bl_ HB).out hb);(try clear hb);(try clear hi))|((with_reducible refine gate_dst (N:=5) rfl ?_);refine be_ 5 #[.bool false,.string (⟨#[]⟩:ByteArray),.string (⟨#[]⟩:ByteArray)] 30 ?_;intro gb629 hg w10 hbox hb;have BK629:=am_ (hbox);have GW629:=sz_ HB hg;have GE629:=sz_ HB hg;have NB626_629:=na_ BK626 hg;have NB629_626:=nb_ BK626 hg;replace BK626:=bb_ BK626 hb;replace HB:=am_ (below_step (bl_ HB).out hb);clear hb hbox hg;have hnb11:=NB629_626.out;have hnc11:=NB626_629.out;obtain⟨hcz12_0,hcz12_1,hcz12_2,hfz12_0,hfz12_1,hfz12_2⟩:=bo3_ BK629;obtain⟨hcz13_0,hcz13_1,hcz13_2,hfz13_0,hfz13_1,hfz13_2⟩:=bo3_ BK626))
   refine bodyPost_ret (results_cell_row rfl _ _ gb626 30 #[.bool false,.string (⟨#[48]⟩:ByteArray),.string t628] (0,0) _ rfl ((bp_ BK626).out) Tryz.underlying30 rfl (by kernel_rfl)) rfl ?_
   exact⟨ew_,(bl_ HB).out⟩
  rw[if_neg c6] at H
  have c6b0:(t628.toList==([]:List UInt8))=false:=beq_eq_false_iff_ne.mpr c6
  have c6b1:(t628.toList !=([]:List UInt8))=true:=bne_iff_ne.mpr c6
  have c6b2:(t628.toList.isEmpty)=false:=by rw[given_isEmpty,bne_iff_ne.mpr c6];rfl
  simp only[Option.some.injEq,Prod.mk.injEq] at H
  obtain⟨rfl,rfl,rfl⟩:=H
  have hs40:=fun W b x0 x1 x2 y h0 h1 h2=>(given_set4 W b x0 x1 x2 y h0 h1 h2).1
  have hs41:=fun W b x0 x1 x2 y h0 h1 h2=>(given_set4 W b x0 x1 x2 y h0 h1 h2).2.1
  have hs42:=fun W b x0 x1 x2 y h0 h1 h2=>(given_set4 W b x0 x1 x2 y h0 h1 h2).2.2
  go_enter Tryz.func11,Tryz.ntmps11
  go_wp2_with (first|((with_reducible refine gate_dst (N:=4) rfl ?_);refine be_ 4 #[.bool false,.string (⟨#[]⟩:ByteArray),.string (⟨#[]⟩:ByteArray)] 30 ?_;intro gb626 hg w14 hbox hb;have BK626:=am_ (hbox);have GW626:=sz_ HB hg;have GE626:=sz_ HB hg;replace HB:=am_ (below_step (bl_ HB).out hb);clear hb hbox hg)|((with_reducible refine gate_callee (f:=26) rfl ?_);refine gl_ (some 7) Tryz.func26 #[.slice A0 l0.length c0] ?_;(with_reducible refine(florinlaw01_Digits.calls _ _ _ _ _ _ ?side1 ?side2 A3.out).mono ?_);(case side1=>repeat(first|exact(Kd.C_below HR0.out HB.out)|(with_reducible refine Kd.C_alloc ?_ _)|(with_reducible refine Kd.C_drewN ?_ _)|(with_reducible refine Kd.C_drew ?_)));(case side2=>exact HC0.out);rintro e w15 ⟨rfl,hb⟩;refine⟨_,rfl,?_⟩;replace BK626:=bb_ BK626 hb;replace HB:=am_ (below_step (bl_ HB).out hb);(try clear hb);(try clear hi))|((with_reducible refine gate_callee (f:=26) rfl ?_);refine gl_ (some 9) Tryz.func26 #[.slice A1 l1.length c1] ?_;(with_reducible refine(florinlaw01_Digits.calls _ _ _ _ _ _ ?side1 ?side2 A4.out).mono ?_);(case side1=>repeat(first|exact(Kd.C_below HR1.out HB.out)|(with_reducible refine Kd.C_alloc ?_ _)|(with_reducible refine Kd.C_drewN ?_ _)|(with_reducible refine Kd.C_drew ?_)));(case side2=>exact HC1.out);rintro e w16 ⟨rfl,hb⟩;refine⟨_,rfl,?_⟩;replace BK626:=bb_ BK626 hb;replace HB:=am_ (below_step (bl_ HB).out hb);(try clear hb);(try clear hi))|((with_reducible refine gate_dst (N:=5) rfl ?_);refine be_ 5 #[.bool false,.string (⟨#[]⟩:ByteArray),.string (⟨#[]⟩:ByteArray)] 30 ?_;intro gb629 hg w17 hbox hb;have BK629:=am_ (hbox);have GW629:=sz_ HB hg;have GE629:=sz_ HB hg;have NB626_629:=na_ BK626 hg;have NB629_626:=nb_ BK626 hg;replace BK626:=bb_ BK626 hb;replace HB:=am_ (below_step (bl_ HB).out hb);clear hb hbox hg;have hnb18:=NB629_626.out;have hnc18:=NB626_629.out;obtain⟨hcz19_0,hcz19_1,hcz19_2,hfz19_0,hfz19_1,hfz19_2⟩:=bo3_ BK629;obtain⟨hcz20_0,hcz20_1,hcz20_2,hfz20_0,hfz20_1,hfz20_2⟩:=bo3_ BK626))
  refine bodyPost_ret (results_cell_row rfl _ _ gb626 30 #[.bool false,.string t627,.string t628] (0,0) _ rfl ((bp_ BK626).out) Tryz.underlying30 rfl (by kernel_rfl)) rfl ?_
  exact⟨ew_,(bl_ HB).out⟩
 rw[if_neg c5] at H
 have c5b0:(t627.toList==([]:List UInt8))=false:=beq_eq_false_iff_ne.mpr c5
 have c5b1:(t627.toList !=([]:List UInt8))=true:=bne_iff_ne.mpr c5
 have c5b2:(t627.toList.isEmpty)=false:=by rw[given_isEmpty,bne_iff_ne.mpr c5];rfl
 simp only[Option.some.injEq,Prod.mk.injEq] at H
 obtain⟨rfl,rfl,rfl⟩:=H
 have hs40:=fun W b x0 x1 x2 y h0 h1 h2=>(given_set4 W b x0 x1 x2 y h0 h1 h2).1
 have hs41:=fun W b x0 x1 x2 y h0 h1 h2=>(given_set4 W b x0 x1 x2 y h0 h1 h2).2.1
 have hs42:=fun W b x0 x1 x2 y h0 h1 h2=>(given_set4 W b x0 x1 x2 y h0 h1 h2).2.2
 go_enter Tryz.func11,Tryz.ntmps11
 go_wp2_with (first|((with_reducible refine gate_dst (N:=4) rfl ?_);refine be_ 4 #[.bool false,.string (⟨#[]⟩:ByteArray),.string (⟨#[]⟩:ByteArray)] 30 ?_;intro gb626 hg w21 hbox hb;have BK626:=am_ (hbox);have GW626:=sz_ HB hg;have GE626:=sz_ HB hg;replace HB:=am_ (below_step (bl_ HB).out hb);clear hb hbox hg)|((with_reducible refine gate_callee (f:=26) rfl ?_);refine gl_ (some 7) Tryz.func26 #[.slice A0 l0.length c0] ?_;(with_reducible refine(florinlaw01_Digits.calls _ _ _ _ _ _ ?side1 ?side2 A3.out).mono ?_);(case side1=>repeat(first|exact(Kd.C_below HR0.out HB.out)|(with_reducible refine Kd.C_alloc ?_ _)|(with_reducible refine Kd.C_drewN ?_ _)|(with_reducible refine Kd.C_drew ?_)));(case side2=>exact HC0.out);rintro e w22 ⟨rfl,hb⟩;refine⟨_,rfl,?_⟩;replace BK626:=bb_ BK626 hb;replace HB:=am_ (below_step (bl_ HB).out hb);(try clear hb);(try clear hi))|((with_reducible refine gate_callee (f:=26) rfl ?_);refine gl_ (some 9) Tryz.func26 #[.slice A1 l1.length c1] ?_;(with_reducible refine(florinlaw01_Digits.calls _ _ _ _ _ _ ?side1 ?side2 A4.out).mono ?_);(case side1=>repeat(first|exact(Kd.C_below HR1.out HB.out)|(with_reducible refine Kd.C_alloc ?_ _)|(with_reducible refine Kd.C_drewN ?_ _)|(with_reducible refine Kd.C_drew ?_)));(case side2=>exact HC1.out);rintro e w23 ⟨rfl,hb⟩;refine⟨_,rfl,?_⟩;replace BK626:=bb_ BK626 hb;replace HB:=am_ (below_step (bl_ HB).out hb);(try clear hb);(try clear hi))|((with_reducible refine gate_dst (N:=5) rfl ?_);refine be_ 5 #[.bool false,.string (⟨#[]⟩:ByteArray),.string (⟨#[]⟩:ByteArray)] 30 ?_;intro gb629 hg w24 hbox hb;have BK629:=am_ (hbox);have GW629:=sz_ HB hg;have GE629:=sz_ HB hg;have NB626_629:=na_ BK626 hg;have NB629_626:=nb_ BK626 hg;replace BK626:=bb_ BK626 hb;replace HB:=am_ (below_step (bl_ HB).out hb);clear hb hbox hg;have hnb25:=NB629_626.out;have hnc25:=NB626_629.out;obtain⟨hcz26_0,hcz26_1,hcz26_2,hfz26_0,hfz26_1,hfz26_2⟩:=bo3_ BK629;obtain⟨hcz27_0,hcz27_1,hcz27_2,hfz27_0,hfz27_1,hfz27_2⟩:=bo3_ BK626))
 refine bodyPost_ret (results_cell_row rfl _ _ gb626 30 #[.bool false,.string t627,.string t628] (0,0) _ rfl ((bp_ BK626).out) Tryz.underlying30 rfl (by kernel_rfl)) rfl ?_
 exact⟨ew_,(bl_ HB).out⟩

end Go.Proofs.YtadagjgkanlmdaaGreatDoor.P
