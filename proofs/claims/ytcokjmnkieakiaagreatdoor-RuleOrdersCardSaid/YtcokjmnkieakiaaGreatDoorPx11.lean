-- written by a program of this session (wip/p2)
import Derived.Test.YtcokjmnkieakiaaGreatDoorPx0
import Derived.Test.YtcokjmnkieakiaaGreatDoorPx1
namespace Go.Proofs.YtcokjmnkieakiaaGreatDoor.P
open Go.RowKit Go.Proofs.YtcokjmnkieakiaaGreatDoorW.PrintWords Go.Proofs.YtcokjmnkieakiaaGreatDoorW.PrintLast Go.Proofs.YtcokjmnkieakiaaGreatDoorW.PrintMore
attribute [local go_sem] max2_int min2_int max_two min_two max_three min_three max_four min_four   -- for this text's walks alone
set_option linter.unusedVariables false
set_option linter.unusedSimpArgs false

attribute [local go_sem high] eqA73
/-! ### florinlaw06_sameRel: function 18 -/
mutual
def florinlaw06_sameRel.j0:Nat→Bool→Int→Int→Bool→List (S73)→Int→Int→Bool→List (S73)→Option (Bool)
 | 0,_,_,_,_,_,_,_,_,_=>none
 | k+1,x33,x673000,x673001,x673002,x673003,x674000,x674001,x674002,x674003=>if x33=true then (some false) else (florinlaw06_sameRel.l0 k (x673003.length:Int) 0 x673000 x673001 x673002 x673003 x674000 x674001 x674002 x674003)
def florinlaw06_sameRel.l0:Nat→Int→Int→Int→Int→Bool→List (S73)→Int→Int→Bool→List (S73)→Option (Bool)
 | 0,_,_,_,_,_,_,_,_,_,_=>none
 | k+1,x36,x37,x673000,x673001,x673002,x673003,x674000,x674001,x674002,x674003=>if x37<x36 then (if 0≤x37 then (if x37<(x673003.length:Int) then (if x37<(x674003.length:Int) then (if (!(((rd_T73 x673003 x37).f0)==((rd_T73 x674003 x37).f0))||(!(((rd_T73 x673003 x37).f1)==((rd_T73 x674003 x37).f1))))=true then (some false) else (florinlaw06_sameRel.l0 k x36 (wrap64 (x37+1)) x673000 x673001 x673002 x673003 x674000 x674001 x674002 x674003)) else (none)) else (none)) else (none)) else (some true)
end
def florinlaw06_sameRel.f (k:Nat) (a0_0:Int) (a0_1:Int) (a0_2:Bool) (l0_3:List (S73)) (a1_0:Int) (a1_1:Int) (a1_2:Bool) (l1_3:List (S73)):Option (Bool):=if a0_0=a1_0 then (if a0_1=a1_1 then (if (a0_2 !=a1_2)=true then (florinlaw06_sameRel.j0 k true a0_0 a0_1 a0_2 l0_3 a1_0 a1_1 a1_2 l1_3) else (florinlaw06_sameRel.j0 k ((l0_3.length:Int) !=(l1_3.length:Int)) a0_0 a0_1 a0_2 l0_3 a1_0 a1_1 a1_2 l1_3)) else (florinlaw06_sameRel.j0 k true a0_0 a0_1 a0_2 l0_3 a1_0 a1_1 a1_2 l1_3)) else (florinlaw06_sameRel.j0 k true a0_0 a0_1 a0_2 l0_3 a1_0 a1_1 a1_2 l1_3)
set_option maxHeartbeats 64000000 in
set_option maxRecDepth 100000 in
theorem florinlaw06_sameRel.calls (k:Nat) (a0_0:Int) (a0_1:Int) (a0_2:Bool) (A0_3:Option Addr) (c0_3:Nat) (l0_3:List (S73)) (a1_0:Int) (a1_1:Int) (a1_2:Bool) (A1_3:Option Addr) (c1_3:Nat) (l1_3:List (S73)) (r:Bool) (w:World) (hr0_3:Kd.C k73 w A0_3 l0_3.length l0_3) (hc0_3:l0_3.length≤c0_3) (hr1_3:Kd.C k73 w A1_3 l1_3.length l1_3) (hc1_3:l1_3.length≤c1_3) (h:florinlaw06_sameRel.f k a0_0 a0_1 a0_2 l0_3 a1_0 a1_1 a1_2 l1_3=some r) :
  Calls Tryz.prog 18 #[.agg #[.int .u8 a0_0,.int .i64 a0_1,.bool a0_2,.slice A0_3 l0_3.length c0_3],.agg #[.int .u8 a1_0,.int .i64 a1_1,.bool a1_2,.slice A1_3 l1_3.length c1_3]] w fun e w'=>e= .returned (.bool r)∧Below w.heap.size w w':=by
 have hu43:=Tryz.underlying43
 have hu73:=Tryz.underlying73
 have HR0_3:=Aside0.mk hr0_3
 have HC0_3:=Aside0.mk hc0_3
 clear hr0_3 hc0_3
 have HR1_3:=Aside0.mk hr1_3
 have HC1_3:=Aside0.mk hc1_3
 clear hr1_3 hc1_3
 have HB:=Aside0.mk (Below.refl w.heap.size w)
 have H:(if a0_0=a1_0 then (if a0_1=a1_1 then (if (a0_2 !=a1_2)=true then (florinlaw06_sameRel.j0 k true a0_0 a0_1 a0_2 l0_3 a1_0 a1_1 a1_2 l1_3) else (florinlaw06_sameRel.j0 k ((l0_3.length:Int) !=(l1_3.length:Int)) a0_0 a0_1 a0_2 l0_3 a1_0 a1_1 a1_2 l1_3)) else (florinlaw06_sameRel.j0 k true a0_0 a0_1 a0_2 l0_3 a1_0 a1_1 a1_2 l1_3)) else (florinlaw06_sameRel.j0 k true a0_0 a0_1 a0_2 l0_3 a1_0 a1_1 a1_2 l1_3))=some r:=h
 clear h
 have HC3:=Aside0.mk H
 clear H
 go_enter Tryz.func18,Tryz.ntmps18
 go_upto_region 1 with (first|((with_reducible refine gate_dst (N:=2) rfl ?_);(try (refine gate_guard (by rfl) ?_;dsimp only));refine be_ 2 #[.int .u8 a0_0,.int .i64 a0_1,.bool a0_2,.slice A0_3 l0_3.length c0_3] 43 ?_;intro gb672 hg w4 hbox hb;have BK672:=Aside0.mk (hbox);have GW672:=sz_ HB hg;have GE672:=sz_ HB hg;replace HB:=Aside0.mk (below_step (bl_ HB).out hb);clear hb hbox hg)|((with_reducible refine gate_dst (N:=3) rfl ?_);(try (refine gate_guard (by rfl) ?_;dsimp only));refine be_ 3 #[.int .u8 a1_0,.int .i64 a1_1,.bool a1_2,.slice A1_3 l1_3.length c1_3] 43 ?_;intro gb673 hg w5 hbox hb;have BK673:=Aside0.mk (hbox);have GW673:=sz_ HB hg;have GE673:=sz_ HB hg;have NB672_673:=na_ BK672 hg;have NB673_672:=nb_ BK672 hg;replace BK672:=bb_ BK672 hb;replace HB:=Aside0.mk (below_step (bl_ HB).out hb);clear hb hbox hg))
 repeat(go_quiet (first|((with_reducible refine gate_dst (N:=2) rfl ?_);(try (refine gate_guard (by rfl) ?_;dsimp only));refine be_ 2 #[.int .u8 a0_0,.int .i64 a0_1,.bool a0_2,.slice A0_3 l0_3.length c0_3] 43 ?_;intro gb672 hg w4 hbox hb;have BK672:=Aside0.mk (hbox);have GW672:=sz_ HB hg;have GE672:=sz_ HB hg;replace HB:=Aside0.mk (below_step (bl_ HB).out hb);clear hb hbox hg)|((with_reducible refine gate_dst (N:=3) rfl ?_);(try (refine gate_guard (by rfl) ?_;dsimp only));refine be_ 3 #[.int .u8 a1_0,.int .i64 a1_1,.bool a1_2,.slice A1_3 l1_3.length c1_3] 43 ?_;intro gb673 hg w5 hbox hb;have BK673:=Aside0.mk (hbox);have GW673:=sz_ HB hg;have GE673:=sz_ HB hg;have NB672_673:=na_ BK672 hg;have NB673_672:=nb_ BK672 hg;replace BK672:=bb_ BK672 hb;replace HB:=Aside0.mk (below_step (bl_ HB).out hb);clear hb hbox hg));go_upto_region 1 with (first|((with_reducible refine gate_dst (N:=2) rfl ?_);(try (refine gate_guard (by rfl) ?_;dsimp only));refine be_ 2 #[.int .u8 a0_0,.int .i64 a0_1,.bool a0_2,.slice A0_3 l0_3.length c0_3] 43 ?_;intro gb672 hg w4 hbox hb;have BK672:=Aside0.mk (hbox);have GW672:=sz_ HB hg;have GE672:=sz_ HB hg;replace HB:=Aside0.mk (below_step (bl_ HB).out hb);clear hb hbox hg)|((with_reducible refine gate_dst (N:=3) rfl ?_);(try (refine gate_guard (by rfl) ?_;dsimp only));refine be_ 3 #[.int .u8 a1_0,.int .i64 a1_1,.bool a1_2,.slice A1_3 l1_3.length c1_3] 43 ?_;intro gb673 hg w5 hbox hb;have BK673:=Aside0.mk (hbox);have GW673:=sz_ HB hg;have GE673:=sz_ HB hg;have NB672_673:=na_ BK672 hg;have NB673_672:=nb_ BK672 hg;replace BK672:=bb_ BK672 hb;replace HB:=Aside0.mk (below_step (bl_ HB).out hb);clear hb hbox hg)))
 (try simp only[Act.put,List.setIfInBounds_toArray,List.set_cons_zero,List.set_cons_succ])
 go_cut [33] (fun v33 wc=>∃(kq:Nat) (x33_2:Bool),v33= .bool x33_2∧Aside0 (florinlaw06_sameRel.j0 kq x33_2 a0_0 a0_1 a0_2 l0_3 a1_0 a1_1 a1_2 l1_3=some r)∧Aside0 (kq≤k)∧Aside0 (wc.heap[gb672]? = some (.cells #[.int .u8 a0_0,.int .i64 a0_1,.bool a0_2,(.slice A0_3 l0_3.length c0_3)] 43 (0,0)))∧Aside0 (wc.heap[gb673]? = some (.cells #[.int .u8 a1_0,.int .i64 a1_1,.bool a1_2,(.slice A1_3 l1_3.length c1_3)] 43 (0,0)))∧Aside0 (Below w.heap.size w wc))
 case first =>
  have H:=HC3.out
  clear HC3
  by_cases c6:a0_0=a1_0
  ·rw[if_pos c6] at H
   have c6b0:(a0_0==a1_0)=true:=beq_iff_eq.mpr c6
   have c6b1:(a0_0 !=a1_0)=false:=bne_eq_false_iff_eq.mpr c6
   clear c6
   (first|rw[c6b0]|(simp only[i64_w,i32_w];rw[c6b0])|skip)
   by_cases c7:a0_1=a1_1
   ·rw[if_pos c7] at H
    have c7b0:(a0_1==a1_1)=true:=beq_iff_eq.mpr c7
    have c7b1:(a0_1 !=a1_1)=false:=bne_eq_false_iff_eq.mpr c7
    clear c7
    by_cases c8:(a0_2 !=a1_2)=true
    ·rw[if_pos c8] at H
     have c8b0:(a0_2 !=a1_2)=true:=c8
     (try (have c8b1:decide (a0_2=a1_2)=false:=by simpa using c8))
     (try (have c8b2:(a0_2==a1_2)=false:=by simpa using c8))
     (try (have c8b3:¬(a0_2=a1_2):=by simpa using c8))
     clear c8
     have H':=Aside0.mk H
     clear H
     have hnb9:=NB672_673.out
     have hnc9:=NB673_672.out
     obtain⟨hcz10_0,hcz10_1,hcz10_2,hcz10_3,hfz10_0,hfz10_1,hfz10_2,hfz10_3⟩:=bo4_ BK672
     obtain⟨hcz11_0,hcz11_1,hcz11_2,hcz11_3,hfz11_0,hfz11_1,hfz11_2,hfz11_3⟩:=bo4_ BK673
     go_wp2
     repeat(go_quiet (fail);try go_wp2)
     go_meet
     case rel=>exact⟨_,(true),eq_,H',⟨by first|omega|exact Nat.le_refl _⟩,(bk_ BK672),(bk_ BK673),(bl_ HB)⟩
    ·rw[if_neg c8] at H
     have c8b0:(a0_2 !=a1_2)=false:=by simpa using c8
     (try (have c8b1:decide (a0_2=a1_2)=true:=by simpa using c8))
     (try (have c8b2:(a0_2==a1_2)=true:=by simpa using c8))
     (try (have c8b3:(a0_2=a1_2)=True:=eq_true (by simpa using c8)))
     clear c8
     have H':=Aside0.mk H
     clear H
     have hnb12:=NB672_673.out
     have hnc12:=NB673_672.out
     obtain⟨hcz13_0,hcz13_1,hcz13_2,hcz13_3,hfz13_0,hfz13_1,hfz13_2,hfz13_3⟩:=bo4_ BK672
     obtain⟨hcz14_0,hcz14_1,hcz14_2,hcz14_3,hfz14_0,hfz14_1,hfz14_2,hfz14_3⟩:=bo4_ BK673
     go_wp2
     repeat(go_quiet (fail);try go_wp2)
     go_meet
     case rel=>exact⟨_,(((l0_3.length:Int) !=(l1_3.length:Int))),eq_,H',⟨by first|omega|exact Nat.le_refl _⟩,(bk_ BK672),(bk_ BK673),(bl_ HB)⟩
   ·rw[if_neg c7] at H
    have c7b0:(a0_1==a1_1)=false:=beq_eq_false_iff_ne.mpr c7
    have c7b1:(a0_1 !=a1_1)=true:=bne_iff_ne.mpr c7
    have H':=Aside0.mk H
    clear H
    have hnb15:=NB672_673.out
    have hnc15:=NB673_672.out
    obtain⟨hcz16_0,hcz16_1,hcz16_2,hcz16_3,hfz16_0,hfz16_1,hfz16_2,hfz16_3⟩:=bo4_ BK672
    obtain⟨hcz17_0,hcz17_1,hcz17_2,hcz17_3,hfz17_0,hfz17_1,hfz17_2,hfz17_3⟩:=bo4_ BK673
    go_wp2
    repeat(go_quiet (fail);try go_wp2)
    go_meet
    case rel=>exact⟨_,(true),eq_,H',⟨by first|omega|exact Nat.le_refl _⟩,(bk_ BK672),(bk_ BK673),(bl_ HB)⟩
  ·rw[if_neg c6] at H
   have c6b0:(a0_0==a1_0)=false:=beq_eq_false_iff_ne.mpr c6
   have c6b1:(a0_0 !=a1_0)=true:=bne_iff_ne.mpr c6
   (first|rw[c6b0]|(simp only[i64_w,i32_w];rw[c6b0])|skip)
   have H':=Aside0.mk H
   clear H
   have hnb18:=NB672_673.out
   have hnc18:=NB673_672.out
   obtain⟨hcz19_0,hcz19_1,hcz19_2,hcz19_3,hfz19_0,hfz19_1,hfz19_2,hfz19_3⟩:=bo4_ BK672
   obtain⟨hcz20_0,hcz20_1,hcz20_2,hcz20_3,hfz20_0,hfz20_1,hfz20_2,hfz20_3⟩:=bo4_ BK673
   go_wp2
   repeat(go_quiet (fail);try go_wp2)
   go_meet
   case rel=>exact⟨_,(true),eq_,H',⟨by first|omega|exact Nat.le_refl _⟩,(bk_ BK672),(bk_ BK673),(bl_ HB)⟩
 case rest =>
  clear HC3
  obtain⟨kq,x33_2,rfl,HA,HJ2,BK672,BK673,HB⟩:=hcut
  cases kq with
  | zero=>exact absurd HA.out (by simp[florinlaw06_sameRel.j0])
  | succ kj2 =>
   have H:=HA.out
   clear HA
   simp only[florinlaw06_sameRel.j0] at H
   by_cases c21:x33_2=true
   ·subst c21
    have H1:(some false)=some r:=by rw[if_pos rfl] at H;exact H
    clear H
    have H:=H1
    clear H1
    obtain rfl:=Option.some.inj H
    go_wp2
    repeat(go_quiet (fail);try go_wp2)
    go_ret
    exact⟨ew_,(bl_ HB).out⟩
   ·replace c21:=Bool.eq_false_iff.mpr c21
    subst c21
    have H1:(florinlaw06_sameRel.l0 kj2 (l0_3.length:Int) 0 a0_0 a0_1 a0_2 l0_3 a1_0 a1_1 a1_2 l1_3)=some r:=by rw[if_neg (show ¬(false=true) by decide)] at H;exact H
    clear H
    have H:=H1
    clear H1
    have H':=Aside0.mk H
    clear H
    have hnb22:=NB672_673.out
    have hnc22:=NB673_672.out
    obtain⟨hcz23_0,hcz23_1,hcz23_2,hcz23_3,hfz23_0,hfz23_1,hfz23_2,hfz23_3⟩:=bo4_ BK672
    go_wp2
    repeat(go_quiet (fail);try go_wp2)
    go_loopg [37] kj2 (fun kq v37 w'=>∃(x37_2:Int),v37= .int .i64 x37_2∧Aside0 (florinlaw06_sameRel.l0 kq (l0_3.length:Int) x37_2 a0_0 a0_1 a0_2 l0_3 a1_0 a1_1 a1_2 l1_3=some r)∧Aside0 (kq≤kj2)∧Aside0 (w'.heap[gb672]? = some (.cells #[.int .u8 a0_0,.int .i64 a0_1,.bool a0_2,(.slice A0_3 l0_3.length c0_3)] 43 (0,0)))∧Aside0 (w'.heap[gb673]? = some (.cells #[.int .u8 a1_0,.int .i64 a1_1,.bool a1_2,(.slice A1_3 l1_3.length c1_3)] 43 (0,0)))∧Aside0 (Below w.heap.size w w'))
    case atStart=>exact⟨(0),eq_,H',⟨Nat.le_refl _⟩,(bk_ BK672),(bk_ BK673),(bl_ HB)⟩
    case round =>
     clear H'
     obtain⟨x37_2,rfl,HA,HK2,BK672,BK673,HB⟩:=hrel
     cases gk with
     | zero=>exact absurd HA.out (by simp[florinlaw06_sameRel.l0])
     | succ k2 =>
      have H:=HA.out
      clear HA
      simp only[florinlaw06_sameRel.l0] at H
      by_cases c24:x37_2<(l0_3.length:Int)
      ·rw[if_pos c24] at H
       have c24b0:=decide_eq_true c24
       clear c24
       replace H:=ifn_ H
       obtain⟨c25,H⟩:=H
       have c25b0:decide (0≤x37_2)=true:=decide_eq_true c25
       clear c25
       replace H:=ifn_ H
       obtain⟨c26,H⟩:=H
       have c26b0:decide (x37_2<(l0_3.length:Int))=true:=decide_eq_true c26
       clear c26
       replace H:=ifn_ H
       obtain⟨c27,H⟩:=H
       have c27b0:decide (x37_2<(l1_3.length:Int))=true:=decide_eq_true c27
       clear c27
       by_cases c28:(!(((rd_T73 l0_3 x37_2).f0)==((rd_T73 l1_3 x37_2).f0))||(!(((rd_T73 l0_3 x37_2).f1)==((rd_T73 l1_3 x37_2).f1))))=true
       ·rw[if_pos c28] at H
        have c28b0:(!(((rd_T73 l0_3 x37_2).f0)==((rd_T73 l1_3 x37_2).f0))||(!(((rd_T73 l0_3 x37_2).f1)==((rd_T73 l1_3 x37_2).f1))))=true:=c28
        clear c28
        obtain rfl:=Option.some.inj H
        have hnb29:=NB672_673.out
        have hnc29:=NB673_672.out
        obtain⟨hcz30_0,hcz30_1,hcz30_2,hcz30_3,hfz30_0,hfz30_1,hfz30_2,hfz30_3⟩:=bo4_ BK672
        have p674:0≤(x37_2:Int):=od_
        have q674:x37_2<(l0_3.length:Int):=od_
        obtain⟨ad674,e674,hx674_0,hx674_1⟩:=at_T73 HR0_3.out x37_2 p674 q674
        cases e674
        replace hx674_0:=hbc_ HB hx674_0
        replace hx674_1:=hbc_ HB hx674_1
        replace p674:=eq_true p674
        replace q674:=eq_true q674
        obtain⟨hcz31_0,hcz31_1,hcz31_2,hcz31_3,hfz31_0,hfz31_1,hfz31_2,hfz31_3⟩:=bo4_ BK673
        have p675:0≤(x37_2:Int):=od_
        have q675:x37_2<(l1_3.length:Int):=od_
        obtain⟨ad675,e675,hx675_0,hx675_1⟩:=at_T73 HR1_3.out x37_2 p675 q675
        cases e675
        replace hx675_0:=hbc_ HB hx675_0
        replace hx675_1:=hbc_ HB hx675_1
        replace p675:=eq_true p675
        replace q675:=eq_true q675
        go_wp2
        repeat(go_quiet (fail);try go_wp2)
        go_ret
        exact⟨ew_,(bl_ HB).out⟩
       ·rw[if_neg c28] at H
        have c28b0:(!(((rd_T73 l0_3 x37_2).f0)==((rd_T73 l1_3 x37_2).f0))||(!(((rd_T73 l0_3 x37_2).f1)==((rd_T73 l1_3 x37_2).f1))))=false:=by simpa using c28
        clear c28
        have H':=Aside0.mk H
        clear H
        have hnb32:=NB672_673.out
        have hnc32:=NB673_672.out
        obtain⟨hcz33_0,hcz33_1,hcz33_2,hcz33_3,hfz33_0,hfz33_1,hfz33_2,hfz33_3⟩:=bo4_ BK672
        have p674:0≤(x37_2:Int):=od_
        have q674:x37_2<(l0_3.length:Int):=od_
        obtain⟨ad674,e674,hx674_0,hx674_1⟩:=at_T73 HR0_3.out x37_2 p674 q674
        cases e674
        replace hx674_0:=hbc_ HB hx674_0
        replace hx674_1:=hbc_ HB hx674_1
        replace p674:=eq_true p674
        replace q674:=eq_true q674
        obtain⟨hcz34_0,hcz34_1,hcz34_2,hcz34_3,hfz34_0,hfz34_1,hfz34_2,hfz34_3⟩:=bo4_ BK673
        have p675:0≤(x37_2:Int):=od_
        have q675:x37_2<(l1_3.length:Int):=od_
        obtain⟨ad675,e675,hx675_0,hx675_1⟩:=at_T73 HR1_3.out x37_2 p675 q675
        cases e675
        replace hx675_0:=hbc_ HB hx675_0
        replace hx675_1:=hbc_ HB hx675_1
        replace p675:=eq_true p675
        replace q675:=eq_true q675
        go_wp2
        repeat(go_quiet (fail);try go_wp2)
        go_roundg k2
        case measure=>have:=HJ2.out;have:=HK2.out;omega
        case rel=>exact⟨(wrap64 (x37_2+1)),eq_,H',⟨by have:=HJ2.out;have:=HK2.out;omega⟩,(bk_ BK672),(bk_ BK673),(bl_ HB)⟩
      ·rw[if_neg c24] at H
       have c24b0:=decide_eq_false c24
       clear c24
       obtain rfl:=Option.some.inj H
       go_wp2
       repeat(go_quiet (fail);try go_wp2)
       go_ret
       exact⟨ew_,(bl_ HB).out⟩

end Go.Proofs.YtcokjmnkieakiaaGreatDoor.P
