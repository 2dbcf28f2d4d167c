-- written by a program of this session (wip/p2)
import Derived.Test.YtbhhfpjiacfofaaDoorPx0
namespace Go.Proofs.YtbhhfpjiacfofaaDoor.P
open Go.RowKit Go.Proofs.YtbhhfpjiacfofaaDoorW.PrintWords Go.Proofs.YtbhhfpjiacfofaaDoorW.PrintLast Go.Proofs.YtbhhfpjiacfofaaDoorW.PrintMore
attribute [local go_sem] max2_int min2_int max_two min_two max_three min_three max_four min_four   -- for this text's walks alone
set_option linter.unusedVariables false
set_option linter.unusedSimpArgs false

/-! ### florinlaw08_Few: function 7 -/
def florinlaw08_Few.l0:Nat→List (S53)→Int→Int→Option (Bool)
 | 0,_,_,_=>none
 | k+1,x8,x9,x10=>if x10<x9 then (if 0≤x10 then (if x10<(x8.length:Int) then (if (((rd_T53 x8 x10).f1).length:Int)>6 then (some false) else (florinlaw08_Few.l0 k x8 x9 (wrap64 (x10+1)))) else (none)) else (none)) else (some true)
def florinlaw08_Few.f (k:Nat) (l0:List (S53)):Option (Bool):=if (l0.length:Int)>4 then (some false) else (florinlaw08_Few.l0 k l0 (l0.length:Int) 0)
set_option maxHeartbeats 64000000 in
set_option maxRecDepth 100000 in
theorem florinlaw08_Few.calls (k:Nat) (A0:Option Addr) (c0:Nat) (l0:List (S53)) (r:Bool) (w:World) (hr0:Kd.C k53 w A0 l0.length l0) (hc0:l0.length≤c0) (h:florinlaw08_Few.f k l0=some r) :
  Calls Tryd.prog 7 #[.slice A0 l0.length c0] w fun e w'=>e= .returned (.bool r)∧Below w.heap.size w w':=by
 have hu53:=Tryd.underlying53
 have HR0:=Aside0.mk hr0
 have HC0:=Aside0.mk hc0
 clear hr0 hc0
 have HB:=Aside0.mk (Below.refl w.heap.size w)
 have H:=h
 clear h
 unfold florinlaw08_Few.f at H
 by_cases c2:(l0.length:Int)>4
 ·rw[if_pos c2] at H
  have c2b0:decide (4<(l0.length:Int))=true:=decide_eq_true c2
  have c2b1:decide (4<l0.length)=true:=decide_eq_true (by omega)
  clear c2
  obtain rfl:=Option.some.inj H
  go_enter Tryd.func7,Tryd.ntmps7
  go_wp2
  go_ret
  exact⟨ew_,(bl_ HB).out⟩
 rw[if_neg c2] at H
 have c2b0:decide (4<(l0.length:Int))=false:=decide_eq_false c2
 have c2b1:decide (4<l0.length)=false:=decide_eq_false (by omega)
 clear c2
 have H':=Aside0.mk H
 clear H
 go_enter Tryd.func7,Tryd.ntmps7
 go_wp2
 go_loopg [10] k (fun kq v10 w'=>∃(x10_1:Int),v10= .int .i64 x10_1∧Aside0 (florinlaw08_Few.l0 kq l0 (l0.length:Int) x10_1=some r)∧Aside0 (kq≤k)∧Aside0 (Below w.heap.size w w'))
 case atStart=>exact⟨(0),eq_,H',⟨Nat.le_refl _⟩,(bl_ HB)⟩
 clear H'
 obtain⟨x10_1,rfl,HA,HK1,HB⟩:=hrel
 cases gk with
 | zero=>exact absurd HA.out (by simp[florinlaw08_Few.l0])
 | succ k1=>?_
 have H:=HA.out
 clear HA
 simp only[florinlaw08_Few.l0] at H
 by_cases c3:x10_1<(l0.length:Int)
 ·rw[if_pos c3] at H
  have c3b0:=decide_eq_true c3
  clear c3
  replace H:=ifn_ H
  obtain⟨c4,H⟩:=H
  have c4b0:decide (0≤x10_1)=true:=decide_eq_true c4
  clear c4
  replace H:=ifn_ H
  obtain⟨c5,H⟩:=H
  have c5b0:decide (x10_1<(l0.length:Int))=true:=decide_eq_true c5
  clear c5
  by_cases c6:(((rd_T53 l0 x10_1).f1).length:Int)>6
  ·rw[if_pos c6] at H
   have c6b0:decide (6<(((rd_T53 l0 x10_1).f1).length:Int))=true:=decide_eq_true c6
   have c6b1:decide (6<((rd_T53 l0 x10_1).f1).length)=true:=decide_eq_true (by omega)
   clear c6
   obtain rfl:=Option.some.inj H
   have p345:0≤(x10_1:Int):=od_
   have q345:x10_1<(l0.length:Int):=od_
   obtain⟨ad345,A345_1,c345_1,e345,hx345_0,hx345_1,hx345_2,hx345_3,hl345_1,hi345_1⟩:=at_T53 HR0.out x10_1 p345 q345
   cases e345
   replace hx345_0:=hbc_ HB hx345_0
   replace hx345_1:=hbc_ HB hx345_1
   replace hx345_2:=hbc_ HB hx345_2
   replace hx345_3:=hbc_ HB hx345_3
   have HR345_1:=Aside0.mk hi345_1
   have HC345_1:=Aside0.mk hl345_1
   clear hi345_1 hl345_1
   replace p345:=eq_true p345
   replace q345:=eq_true q345
   go_wp2_with (first|((with_reducible refine gate_dst (N:=4) rfl ?_);refine be_ 4 #[.bool false,.slice none 0 0,.int .i64 0,.int .i64 0] 53 ?_;intro gb346 hg w7 hbox hb;have BK346:=Aside0.mk (hbox);have GW346:=sz_ HB hg;have GE346:=sz_ HB hg;replace HB:=Aside0.mk (below_step (bl_ HB).out hb);clear hb hbox hg;obtain⟨hcz8_0,hcz8_1,hcz8_2,hcz8_3,hfz8_0,hfz8_1,hfz8_2,hfz8_3⟩:=bo4_ BK346))
   go_ret
   exact⟨ew_,(bl_ HB).out⟩
  rw[if_neg c6] at H
  have c6b0:decide (6<(((rd_T53 l0 x10_1).f1).length:Int))=false:=decide_eq_false c6
  have c6b1:decide (6<((rd_T53 l0 x10_1).f1).length)=false:=decide_eq_false (by omega)
  clear c6
  have H':=Aside0.mk H
  clear H
  have p345:0≤(x10_1:Int):=od_
  have q345:x10_1<(l0.length:Int):=od_
  obtain⟨ad345,A345_1,c345_1,e345,hx345_0,hx345_1,hx345_2,hx345_3,hl345_1,hi345_1⟩:=at_T53 HR0.out x10_1 p345 q345
  cases e345
  replace hx345_0:=hbc_ HB hx345_0
  replace hx345_1:=hbc_ HB hx345_1
  replace hx345_2:=hbc_ HB hx345_2
  replace hx345_3:=hbc_ HB hx345_3
  have HR345_1:=Aside0.mk hi345_1
  have HC345_1:=Aside0.mk hl345_1
  clear hi345_1 hl345_1
  replace p345:=eq_true p345
  replace q345:=eq_true q345
  go_wp2_with (first|((with_reducible refine gate_dst (N:=4) rfl ?_);refine be_ 4 #[.bool false,.slice none 0 0,.int .i64 0,.int .i64 0] 53 ?_;intro gb346 hg w9 hbox hb;have BK346:=Aside0.mk (hbox);have GW346:=sz_ HB hg;have GE346:=sz_ HB hg;replace HB:=Aside0.mk (below_step (bl_ HB).out hb);clear hb hbox hg;obtain⟨hcz10_0,hcz10_1,hcz10_2,hcz10_3,hfz10_0,hfz10_1,hfz10_2,hfz10_3⟩:=bo4_ BK346))
  go_roundg k1
  case measure=>have:=HK1.out;omega
  case rel=>exact⟨(wrap64 (x10_1+1)),eq_,H',⟨by have:=HK1.out;omega⟩,(bl_ HB)⟩
 rw[if_neg c3] at H
 have c3b0:=decide_eq_false c3
 clear c3
 obtain rfl:=Option.some.inj H
 go_wp2
 go_ret
 exact⟨ew_,(bl_ HB).out⟩

end Go.Proofs.YtbhhfpjiacfofaaDoor.P
