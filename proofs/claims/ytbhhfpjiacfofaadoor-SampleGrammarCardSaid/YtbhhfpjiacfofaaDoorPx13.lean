-- written by a program of this session (wip/p2)
import Derived.Test.YtbhhfpjiacfofaaDoorPx0
import Derived.Test.YtbhhfpjiacfofaaDoorPx6
import Derived.Test.YtbhhfpjiacfofaaDoorPx7
import Derived.Test.YtbhhfpjiacfofaaDoorPx8
import Derived.Test.YtbhhfpjiacfofaaDoorPx9
import Derived.Test.YtbhhfpjiacfofaaDoorPx11
import Derived.Test.YtbhhfpjiacfofaaDoorPx12
namespace Go.Proofs.YtbhhfpjiacfofaaDoor.P
open Go.RowKit Go.Proofs.YtbhhfpjiacfofaaDoorW.PrintWords Go.Proofs.YtbhhfpjiacfofaaDoorW.PrintLast Go.Proofs.YtbhhfpjiacfofaaDoorW.PrintMore
attribute [local go_sem] max2_int min2_int max_two min_two max_three min_three max_four min_four   -- for this text's walks alone
set_option linter.unusedVariables false
set_option linter.unusedSimpArgs false

/-! ### florinlaw08_SampleGrammar: function 3 -/
mutual
def florinlaw08_SampleGrammar.j0:Nat→List (List ByteArray)→List (S35)→Bool→Option (Bool)
 | 0,_,_,_=>none
 | k+1,x5,x6,x44=>if x44=true then (none) else (florinlaw08_SampleGrammar.l0 k x5 0 x6 (x6.length:Int) 0)
def florinlaw08_SampleGrammar.l0:Nat→List (List ByteArray)→Int→List (S35)→Int→Int→Option (Bool)
 | 0,_,_,_,_,_=>none
 | k+1,x5,x9,x45,x46,x47=>if x47<x46 then (if 0≤x47 then (if x47<(x45.length:Int) then (florinlaw08_SampleGrammar.l1 k x5 x9 x45 x46 x47 ((rd_T35 x45 x47).f1) (((rd_T35 x45 x47).f1).length:Int) 0) else (none)) else (none)) else (some (x9==(x5.length:Int)))
def florinlaw08_SampleGrammar.l1:Nat→List (List ByteArray)→Int→List (S35)→Int→Int→List (S37)→Int→Int→Option (Bool)
 | 0,_,_,_,_,_,_,_,_=>none
 | k+1,x5,x9,x45,x46,x47,x52,x53,x54=>if x54<x53 then (if 0≤x54 then (if x54<(x52.length:Int) then ((florinlaw08_texts.f k ((rd_T37 x52 x54).f0) ((rd_T37 x52 x54).f1)).bind fun t455=>(if 0≤x9 then (if x9<(x5.length:Int) then (if (t455.length:Int)=((rd_L8 x5 x9).length:Int) then (florinlaw08_SampleGrammar.l2 k x5 x9 t455 x45 x46 x47 x52 x53 x54 (t455.length:Int) 0) else (none)) else (none)) else (none))) else (none)) else (none)) else (florinlaw08_SampleGrammar.l0 k x5 x9 x45 x46 (wrap64 (x47+1)))
def florinlaw08_SampleGrammar.l2:Nat→List (List ByteArray)→Int→List ByteArray→List (S35)→Int→Int→List (S37)→Int→Int→Int→Int→Option (Bool)
 | 0,_,_,_,_,_,_,_,_,_,_,_=>none
 | k+1,x5,x9,x14,x45,x46,x47,x52,x53,x54,x69,x70=>if x70<x69 then (if 0≤x70 then (if x70<(x14.length:Int) then (if 0≤x9 then (if x9<(x5.length:Int) then (if x70<((rd_L8 x5 x9).length:Int) then (if (rdOf ByteArray.empty x14 x70).toList=(rdOf ByteArray.empty (rd_L8 x5 x9) x70).toList then (florinlaw08_SampleGrammar.l2 k x5 x9 x14 x45 x46 x47 x52 x53 x54 x69 (wrap64 (x70+1))) else (none)) else (none)) else (none)) else (none)) else (none)) else (none)) else (florinlaw08_SampleGrammar.l1 k x5 (wrap64 (x9+1)) x45 x46 x47 x52 x53 (wrap64 (x54+1)))
end
def florinlaw08_SampleGrammar.f (k:Nat) (l0:List (S53)):Option (Bool):=(florinlaw08_head.f k).bind fun t436=>(if t436=true then ((florinlaw08_Few.f k l0).bind fun t437=>(if t437=true then ((florinlaw08_Write.f k l0).bind fun bt438=>((sample_Parse.f k bt438.2.1).bind fun bt445=>(if bt445.2.1=0 then (if bt445.2.2=0 then ((florinlaw08_Same.f k bt445.1 bt438.1).bind fun t450=>(florinlaw08_SampleGrammar.j0 k bt438.2.2 bt445.1 (!t450))) else (none)) else (none)))) else (some true))) else (none))
set_option maxHeartbeats 64000000 in
set_option maxRecDepth 100000 in
theorem florinlaw08_SampleGrammar.calls (k:Nat) (A0:Option Addr) (c0:Nat) (l0:List (S53)) (r:Bool) (w:World) (hr0:Kd.C k53 w A0 l0.length l0) (hc0:l0.length≤c0) (h:florinlaw08_SampleGrammar.f k l0=some r) :
  Calls Tryd.prog 3 #[.slice A0 l0.length c0] w fun e w'=>e= .returned (.bool r)∧Below w.heap.size w w':=by
 have hu35:=Tryd.underlying35
 have hu37:=Tryd.underlying37
 have HR0:=Aside0.mk hr0
 have HC0:=Aside0.mk hc0
 clear hr0 hc0
 have HB:=Aside0.mk (Below.refl w.heap.size w)
 have H:=h
 clear h
 unfold florinlaw08_SampleGrammar.f at H
 replace H:=Option.bind_eq_some_iff.mp H
 obtain⟨t436,A20,H⟩:=H
 have A2:=Aside0.mk A20
 clear A20
 by_cases c3:t436=true
 ·subst c3
  rw[if_pos rfl] at H
  replace H:=Option.bind_eq_some_iff.mp H
  obtain⟨t437,A40,H⟩:=H
  have A4:=Aside0.mk A40
  clear A40
  by_cases c5:t437=true
  ·subst c5
   rw[if_pos rfl] at H
   replace H:=Option.bind_eq_some_iff.mp H
   obtain⟨⟨t438,t439,t440⟩,A60,H⟩:=H
   dsimp only at H
   have A6:=Aside0.mk A60
   clear A60
   replace H:=Option.bind_eq_some_iff.mp H
   obtain⟨⟨t445,t448,t449⟩,A70,H⟩:=H
   dsimp only at H
   have A7:=Aside0.mk A70
   clear A70
   have HC8:=Aside0.mk H
   clear H
   go_enter Tryd.func3,Tryd.ntmps3
   go_upto_region 7 with (first|(go_at_call 6;(with_reducible refine(florinlaw08_head.calls _ _ _ A2.out).mono ?_);rintro e w9 ⟨rfl,hb⟩;replace HB:=Aside0.mk (below_step (bl_ HB).out hb);(try clear hb);(try clear hi))|(go_at_call 7;(with_reducible refine(florinlaw08_Few.calls _ _ _ _ _ _ ?side1 ?side2 A4.out).mono ?_);(case side1=>repeat(first|exact(Kd.C_below HR0.out HB.out)|(with_reducible refine Kd.C_alloc ?_ _)|(with_reducible refine Kd.C_drewN ?_ _)|(with_reducible refine Kd.C_drew ?_)));(case side2=>exact HC0.out);rintro e w10 ⟨rfl,hb⟩;replace HB:=Aside0.mk (below_step (bl_ HB).out hb);(try clear hb);(try clear hi))|(go_at_call 8;(with_reducible refine(florinlaw08_Write.calls _ _ _ _ _ _ _ _ ?side1 ?side2 A6.out).mono ?_);(case side1=>repeat(first|exact(Kd.C_below HR0.out HB.out)|(with_reducible refine Kd.C_alloc ?_ _)|(with_reducible refine Kd.C_drewN ?_ _)|(with_reducible refine Kd.C_drew ?_)));(case side2=>exact HC0.out);rintro e w11 ⟨v441,v443,rfl,ho0,ho1,hb⟩;have HO442:=Aside0.mk (Kd.N_lower (Kd.N_mono (ok':=fun k_=>some k_≠(v443:Value).ownBlock) (Kd.S_N (Kd.S_bound (Kd.S_apart' ho0 (Kd.S_typed ho1) (by decide)))) (fun k_ hk_=>hk_.1.2)) (below_size (bl_ HB).out));have HO444:=Aside0.mk (Kd.N_lower (Kd.N_mono (ok':=fun k_=>some k_≠(v441:Value).ownBlock) (Kd.S_N (Kd.S_bound (Kd.S_apart' ho1 (Kd.S_typed ho0) (by decide)))) (fun k_ hk_=>hk_.1.2)) (below_size (bl_ HB).out));replace HB:=Aside0.mk (below_step (bl_ HB).out hb);(try clear hb);(try clear ho0);(try clear ho1))|(go_at_call 9;(with_reducible refine(sample_Parse.calls _ _ _ _ _ _ A7.out).mono ?_);rintro e w12 ⟨v446,rfl,ho0,hb⟩;have HO447:=Aside0.mk (Kd.N_lower (Kd.N_mono (ok':=fun k_=>some k_≠(v441:Value).ownBlock∧some k_≠(v443:Value).ownBlock) ho0 (fun k_ hk_=>⟨(Kd.fresh' (Kd.N_lt (krN_ HO442)) k_ hk_),(Kd.fresh' (Kd.N_lt (krN_ HO444)) k_ hk_)⟩)) (below_size (bl_ HB).out));replace HO442:=Aside0.mk (Kd.N_elder' (krN_ HO442) (Kd.N_base ho0) hb);replace HO444:=Aside0.mk (Kd.N_elder' (krN_ HO444) (Kd.N_base ho0) hb);replace HB:=Aside0.mk (below_step (bl_ HB).out hb);(try clear hb);(try clear ho0)))
   repeat(go_quiet (first|(go_at_call 6;(with_reducible refine(florinlaw08_head.calls _ _ _ A2.out).mono ?_);rintro e w9 ⟨rfl,hb⟩;replace HB:=Aside0.mk (below_step (bl_ HB).out hb);(try clear hb);(try clear hi))|(go_at_call 7;(with_reducible refine(florinlaw08_Few.calls _ _ _ _ _ _ ?side1 ?side2 A4.out).mono ?_);(case side1=>repeat(first|exact(Kd.C_below HR0.out HB.out)|(with_reducible refine Kd.C_alloc ?_ _)|(with_reducible refine Kd.C_drewN ?_ _)|(with_reducible refine Kd.C_drew ?_)));(case side2=>exact HC0.out);rintro e w10 ⟨rfl,hb⟩;replace HB:=Aside0.mk (below_step (bl_ HB).out hb);(try clear hb);(try clear hi))|(go_at_call 8;(with_reducible refine(florinlaw08_Write.calls _ _ _ _ _ _ _ _ ?side1 ?side2 A6.out).mono ?_);(case side1=>repeat(first|exact(Kd.C_below HR0.out HB.out)|(with_reducible refine Kd.C_alloc ?_ _)|(with_reducible refine Kd.C_drewN ?_ _)|(with_reducible refine Kd.C_drew ?_)));(case side2=>exact HC0.out);rintro e w11 ⟨v441,v443,rfl,ho0,ho1,hb⟩;have HO442:=Aside0.mk (Kd.N_lower (Kd.N_mono (ok':=fun k_=>some k_≠(v443:Value).ownBlock) (Kd.S_N (Kd.S_bound (Kd.S_apart' ho0 (Kd.S_typed ho1) (by decide)))) (fun k_ hk_=>hk_.1.2)) (below_size (bl_ HB).out));have HO444:=Aside0.mk (Kd.N_lower (Kd.N_mono (ok':=fun k_=>some k_≠(v441:Value).ownBlock) (Kd.S_N (Kd.S_bound (Kd.S_apart' ho1 (Kd.S_typed ho0) (by decide)))) (fun k_ hk_=>hk_.1.2)) (below_size (bl_ HB).out));replace HB:=Aside0.mk (below_step (bl_ HB).out hb);(try clear hb);(try clear ho0);(try clear ho1))|(go_at_call 9;(with_reducible refine(sample_Parse.calls _ _ _ _ _ _ A7.out).mono ?_);rintro e w12 ⟨v446,rfl,ho0,hb⟩;have HO447:=Aside0.mk (Kd.N_lower (Kd.N_mono (ok':=fun k_=>some k_≠(v441:Value).ownBlock∧some k_≠(v443:Value).ownBlock) ho0 (fun k_ hk_=>⟨(Kd.fresh' (Kd.N_lt (krN_ HO442)) k_ hk_),(Kd.fresh' (Kd.N_lt (krN_ HO444)) k_ hk_)⟩)) (below_size (bl_ HB).out));replace HO442:=Aside0.mk (Kd.N_elder' (krN_ HO442) (Kd.N_base ho0) hb);replace HO444:=Aside0.mk (Kd.N_elder' (krN_ HO444) (Kd.N_base ho0) hb);replace HB:=Aside0.mk (below_step (bl_ HB).out hb);(try clear hb);(try clear ho0)));go_upto_region 7 with (first|(go_at_call 6;(with_reducible refine(florinlaw08_head.calls _ _ _ A2.out).mono ?_);rintro e w9 ⟨rfl,hb⟩;replace HB:=Aside0.mk (below_step (bl_ HB).out hb);(try clear hb);(try clear hi))|(go_at_call 7;(with_reducible refine(florinlaw08_Few.calls _ _ _ _ _ _ ?side1 ?side2 A4.out).mono ?_);(case side1=>repeat(first|exact(Kd.C_below HR0.out HB.out)|(with_reducible refine Kd.C_alloc ?_ _)|(with_reducible refine Kd.C_drewN ?_ _)|(with_reducible refine Kd.C_drew ?_)));(case side2=>exact HC0.out);rintro e w10 ⟨rfl,hb⟩;replace HB:=Aside0.mk (below_step (bl_ HB).out hb);(try clear hb);(try clear hi))|(go_at_call 8;(with_reducible refine(florinlaw08_Write.calls _ _ _ _ _ _ _ _ ?side1 ?side2 A6.out).mono ?_);(case side1=>repeat(first|exact(Kd.C_below HR0.out HB.out)|(with_reducible refine Kd.C_alloc ?_ _)|(with_reducible refine Kd.C_drewN ?_ _)|(with_reducible refine Kd.C_drew ?_)));(case side2=>exact HC0.out);rintro e w11 ⟨v441,v443,rfl,ho0,ho1,hb⟩;have HO442:=Aside0.mk (Kd.N_lower (Kd.N_mono (ok':=fun k_=>some k_≠(v443:Value).ownBlock) (Kd.S_N (Kd.S_bound (Kd.S_apart' ho0 (Kd.S_typed ho1) (by decide)))) (fun k_ hk_=>hk_.1.2)) (below_size (bl_ HB).out));have HO444:=Aside0.mk (Kd.N_lower (Kd.N_mono (ok':=fun k_=>some k_≠(v441:Value).ownBlock) (Kd.S_N (Kd.S_bound (Kd.S_apart' ho1 (Kd.S_typed ho0) (by decide)))) (fun k_ hk_=>hk_.1.2)) (below_size (bl_ HB).out));replace HB:=Aside0.mk (below_step (bl_ HB).out hb);(try clear hb);(try clear ho0);(try clear ho1))|(go_at_call 9;(with_reducible refine(sample_Parse.calls _ _ _ _ _ _ A7.out).mono ?_);rintro e w12 ⟨v446,rfl,ho0,hb⟩;have HO447:=Aside0.mk (Kd.N_lower (Kd.N_mono (ok':=fun k_=>some k_≠(v441:Value).ownBlock∧some k_≠(v443:Value).ownBlock) ho0 (fun k_ hk_=>⟨(Kd.fresh' (Kd.N_lt (krN_ HO442)) k_ hk_),(Kd.fresh' (Kd.N_lt (krN_ HO444)) k_ hk_)⟩)) (below_size (bl_ HB).out));replace HO442:=Aside0.mk (Kd.N_elder' (krN_ HO442) (Kd.N_base ho0) hb);replace HO444:=Aside0.mk (Kd.N_elder' (krN_ HO444) (Kd.N_base ho0) hb);replace HB:=Aside0.mk (below_step (bl_ HB).out hb);(try clear hb);(try clear ho0))))
   (try simp only[Act.put,List.setIfInBounds_toArray,List.set_cons_zero,List.set_cons_succ])
   go_cut [44] (fun v44 wc=>∃(kq:Nat) (x44_7:Bool),v44= .bool x44_7∧Aside0 (florinlaw08_SampleGrammar.j0 kq t440 t445 x44_7=some r)∧Aside0 (kq≤k)∧Aside0 (Kd.N (Kd.slice 9 Kd.string) 38 wc w.heap.size (fun k_=>some k_≠(v446:Value).ownBlock) v443 t440)∧Aside0 (Kd.N k35 35 wc w.heap.size (fun k_=>some k_≠(v443:Value).ownBlock) v446 t445)∧Aside0 (Below w.heap.size w wc))
   case first =>
    have H:=HC8.out
    clear HC8
    replace H:=ifn_ H
    obtain⟨c13,H⟩:=H
    have c13b0:(t448==0)=true:=beq_iff_eq.mpr c13
    have c13b1:(t448 !=0)=false:=bne_eq_false_iff_eq.mpr c13
    clear c13
    (first|rw[c13b0]|(simp only[i64_w,i32_w];rw[c13b0])|skip)
    replace H:=ifn_ H
    obtain⟨c14,H⟩:=H
    have c14b0:(t449==0)=true:=beq_iff_eq.mpr c14
    have c14b1:(t449 !=0)=false:=bne_eq_false_iff_eq.mpr c14
    clear c14
    replace H:=Option.bind_eq_some_iff.mp H
    obtain⟨t450,A150,H⟩:=H
    have A15:=Aside0.mk A150
    clear A150
    have H':=Aside0.mk H
    clear H
    obtain⟨Ao16,co16,eo16⟩:=Kd.N_slice HO447.out
    subst eo16
    obtain⟨Ao17,co17,eo17⟩:=Kd.N_slice HO442.out
    subst eo17
    go_wp2_with (first|(go_at_call 10;(with_reducible refine(florinlaw08_Same.calls _ _ _ _ _ _ _ _ _ ?side1 ?side2 ?side3 ?side4 A15.out).mono ?_);(case side1=>repeat(first|exact(Kd.N_reads' HO447.out).2.2|(with_reducible refine Kd.C_alloc ?_ _)|(with_reducible refine Kd.C_drewN ?_ _)|(with_reducible refine Kd.C_drew ?_)));(case side2=>exact(Kd.N_reads' HO447.out).2.1);(case side3=>repeat(first|exact(Kd.N_reads' HO442.out).2.2|(with_reducible refine Kd.C_alloc ?_ _)|(with_reducible refine Kd.C_drewN ?_ _)|(with_reducible refine Kd.C_drew ?_)));(case side4=>exact(Kd.N_reads' HO442.out).2.1);rintro e w' ⟨rfl,⟨nd,rfl⟩⟩;(try first|exact⟨rfl,_,World.drewN_drewN _ _ _⟩|exact⟨rfl,_,Eq.trans (World.drewN_drewN _ _ _) (congrArg (World.drewN _) (Nat.add_assoc _ _ _))⟩)))
    repeat(go_quiet (first|(go_at_call 10;(with_reducible refine(florinlaw08_Same.calls _ _ _ _ _ _ _ _ _ ?side1 ?side2 ?side3 ?side4 A15.out).mono ?_);(case side1=>repeat(first|exact(Kd.N_reads' HO447.out).2.2|(with_reducible refine Kd.C_alloc ?_ _)|(with_reducible refine Kd.C_drewN ?_ _)|(with_reducible refine Kd.C_drew ?_)));(case side2=>exact(Kd.N_reads' HO447.out).2.1);(case side3=>repeat(first|exact(Kd.N_reads' HO442.out).2.2|(with_reducible refine Kd.C_alloc ?_ _)|(with_reducible refine Kd.C_drewN ?_ _)|(with_reducible refine Kd.C_drew ?_)));(case side4=>exact(Kd.N_reads' HO442.out).2.1);rintro e w' ⟨rfl,⟨nd,rfl⟩⟩;(try first|exact⟨rfl,_,World.drewN_drewN _ _ _⟩|exact⟨rfl,_,Eq.trans (World.drewN_drewN _ _ _) (congrArg (World.drewN _) (Nat.add_assoc _ _ _))⟩)));try go_wp2_with (first|(go_at_call 10;(with_reducible refine(florinlaw08_Same.calls _ _ _ _ _ _ _ _ _ ?side1 ?side2 ?side3 ?side4 A15.out).mono ?_);(case side1=>repeat(first|exact(Kd.N_reads' HO447.out).2.2|(with_reducible refine Kd.C_alloc ?_ _)|(with_reducible refine Kd.C_drewN ?_ _)|(with_reducible refine Kd.C_drew ?_)));(case side2=>exact(Kd.N_reads' HO447.out).2.1);(case side3=>repeat(first|exact(Kd.N_reads' HO442.out).2.2|(with_reducible refine Kd.C_alloc ?_ _)|(with_reducible refine Kd.C_drewN ?_ _)|(with_reducible refine Kd.C_drew ?_)));(case side4=>exact(Kd.N_reads' HO442.out).2.1);rintro e w' ⟨rfl,⟨nd,rfl⟩⟩;(try first|exact⟨rfl,_,World.drewN_drewN _ _ _⟩|exact⟨rfl,_,Eq.trans (World.drewN_drewN _ _ _) (congrArg (World.drewN _) (Nat.add_assoc _ _ _))⟩))))
    go_meet
    case rel=>exact⟨_,(!t450),eq_,H',⟨by first|omega|exact Nat.le_refl _⟩,⟨kdN_ (Kd.N_mono HO444.out (fun _ hk=>hk.2))⟩,⟨kdN_ (Kd.N_mono HO447.out (fun _ hk=>hk.2))⟩,(bl_ HB)⟩
   clear HC8
   obtain⟨kq,x44_7,rfl,HA,HJ7,HO_5,HO_6,HB⟩:=hcut
   cases kq with
   | zero=>exact absurd HA.out (by simp[florinlaw08_SampleGrammar.j0])
   | succ kj7=>?_
   have H:=HA.out
   clear HA
   simp only[florinlaw08_SampleGrammar.j0] at H
   by_cases c18:x44_7=true
   ·subst c18
    rw[if_pos rfl] at H
    exact absurd H (by simp)
   replace c18:=Bool.eq_false_iff.mpr c18
   subst c18
   rw[if_neg (show ¬(false=true) by decide)] at H
   have H':=Aside0.mk H
   clear H
   obtain⟨Ao19,co19,eo19⟩:=Kd.N_slice HO_6.out
   subst eo19
   go_wp2
   repeat(go_quiet (fail);try go_wp2)
   go_loopg [9,47] kj7 (fun kq v9 v47 w'=>∃(x9_2:Int) (x47_2:Int),v9= .int .i64 x9_2∧v47= .int .i64 x47_2∧Aside0 (florinlaw08_SampleGrammar.l0 kq t440 x9_2 t445 (t445.length:Int) x47_2=some r)∧Aside0 (kq≤kj7)∧Aside0 (Kd.N (Kd.slice 9 Kd.string) 38 w' w.heap.size (fun k_=>some k_≠((.slice Ao19 t445.length co19):Value).ownBlock) v443 t440)∧Aside0 (Kd.N k35 35 w' w.heap.size (fun k_=>some k_≠(v443:Value).ownBlock) (.slice Ao19 t445.length co19) t445)∧Aside0 (Below w.heap.size w w'))
   case atStart=>exact⟨(0),(0),eq_,eq_,H',⟨Nat.le_refl _⟩,⟨kdN_ HO_5.out⟩,⟨kdN_ HO_6.out⟩,(bl_ HB)⟩
   clear H'
   obtain⟨x9_2,x47_2,rfl,rfl,HA,HK2,HO_5,HO_45,HB⟩:=hrel
   cases gk with
   | zero=>exact absurd HA.out (by simp[florinlaw08_SampleGrammar.l0])
   | succ k2=>?_
   have H:=HA.out
   clear HA
   simp only[florinlaw08_SampleGrammar.l0] at H
   by_cases c20:x47_2<(t445.length:Int)
   ·rw[if_pos c20] at H
    have c20b0:=decide_eq_true c20
    clear c20
    replace H:=ifn_ H
    obtain⟨c21,H⟩:=H
    have c21b0:decide (0≤x47_2)=true:=decide_eq_true c21
    clear c21
    replace H:=ifn_ H
    obtain⟨c22,H⟩:=H
    have c22b0:decide (x47_2<(t445.length:Int))=true:=decide_eq_true c22
    clear c22
    have H':=Aside0.mk H
    clear H
    have p451:0≤(x47_2:Int):=od_
    have q451:x47_2<(t445.length:Int):=od_
    obtain⟨ad451,A451_1,c451_1,e451,hx451_0,hx451_1,hx451_2,hl451_1,hi451_1⟩:=at_T35 (Kd.N_reads' HO_45.out).2.2 x47_2 p451 q451
    cases e451
    obtain⟨ce451,hce451,hMe451,hcc451⟩:=Kd.N_get HO_45.out z35 x47_2 p451 (by first|exact q451|exact od_|(have e_:=(Kd.N_reads' HO_45.out).1;omega))
    obtain⟨ua451_1,uc451_1,rfl,ul451_1,ge451_1⟩:=k35_openF hMe451
    have hv451_1:=hcc451 1 _ rfl
    rw[add_field _ _ 1 (by omega)] at hv451_1
    replace hv451_1:=Option.some.inj (hv451_1.symm.trans hx451_1)
    injection hv451_1 with hva_ hvn_ hvc_
    rw[hva_] at ge451_1
    rw[hvc_] at ul451_1
    have HL451_1:=Aside0.mk (show Kd.V k37 37 _ w.heap.size _ _ ((rd_T35 t445 x47_2).f1) from Kd.V_mk ul451_1 ge451_1)
    clear hva_ hvn_ hvc_ ge451_1 ul451_1
    clear hcc451 hce451
    have HR451_1:=Aside0.mk hi451_1
    have HC451_1:=Aside0.mk hl451_1
    clear hi451_1 hl451_1
    replace p451:=eq_true p451
    replace q451:=eq_true q451
    go_wp2_with (first|((with_reducible refine gate_dst (N:=11) rfl ?_);refine be_ 11 #[.bool false,.slice none 0 0,.bool false] 35 ?_;intro gb452 hg w23 hbox hb;have BK452:=Aside0.mk (hbox);have GW452:=sz_ HB hg;have GE452:=sz_ HB hg;replace HO_5:=Aside0.mk (Kd.N_below (Kd.N_elderB (krN_ HO_5) gb452 (Nat.le_of_eq hg.symm)) hb);replace HO_45:=Aside0.mk (Kd.N_below (Kd.N_elderB (krN_ HO_45) gb452 (Nat.le_of_eq hg.symm)) hb);replace HL451_1:=Aside0.mk (Kd.V_below (Kd.V_elderB (krV_ HL451_1) gb452 (Nat.le_of_eq hg.symm)) hb);replace HR451_1:=Aside0.mk (Kd.C_below (by repeat(first|(with_reducible exact HR451_1.out)|(with_reducible refine Kd.C_alloc ?_ _)|(with_reducible refine Kd.C_drewN ?_ _)|(with_reducible refine Kd.C_drew ?_)|exact HR451_1.out)) hb);replace HB:=Aside0.mk (below_step (bl_ HB).out hb);clear hb hbox hg;obtain⟨hcz24_0,hcz24_1,hcz24_2,hfz24_0,hfz24_1,hfz24_2⟩:=bo3_ BK452))
    repeat(go_quiet (first|((with_reducible refine gate_dst (N:=11) rfl ?_);refine be_ 11 #[.bool false,.slice none 0 0,.bool false] 35 ?_;intro gb452 hg w23 hbox hb;have BK452:=Aside0.mk (hbox);have GW452:=sz_ HB hg;have GE452:=sz_ HB hg;replace HO_5:=Aside0.mk (Kd.N_below (Kd.N_elderB (krN_ HO_5) gb452 (Nat.le_of_eq hg.symm)) hb);replace HO_45:=Aside0.mk (Kd.N_below (Kd.N_elderB (krN_ HO_45) gb452 (Nat.le_of_eq hg.symm)) hb);replace HL451_1:=Aside0.mk (Kd.V_below (Kd.V_elderB (krV_ HL451_1) gb452 (Nat.le_of_eq hg.symm)) hb);replace HR451_1:=Aside0.mk (Kd.C_below (by repeat(first|(with_reducible exact HR451_1.out)|(with_reducible refine Kd.C_alloc ?_ _)|(with_reducible refine Kd.C_drewN ?_ _)|(with_reducible refine Kd.C_drew ?_)|exact HR451_1.out)) hb);replace HB:=Aside0.mk (below_step (bl_ HB).out hb);clear hb hbox hg;obtain⟨hcz24_0,hcz24_1,hcz24_2,hfz24_0,hfz24_1,hfz24_2⟩:=bo3_ BK452));try go_wp2_with (first|((with_reducible refine gate_dst (N:=11) rfl ?_);refine be_ 11 #[.bool false,.slice none 0 0,.bool false] 35 ?_;intro gb452 hg w23 hbox hb;have BK452:=Aside0.mk (hbox);have GW452:=sz_ HB hg;have GE452:=sz_ HB hg;replace HO_5:=Aside0.mk (Kd.N_below (Kd.N_elderB (krN_ HO_5) gb452 (Nat.le_of_eq hg.symm)) hb);replace HO_45:=Aside0.mk (Kd.N_below (Kd.N_elderB (krN_ HO_45) gb452 (Nat.le_of_eq hg.symm)) hb);replace HL451_1:=Aside0.mk (Kd.V_below (Kd.V_elderB (krV_ HL451_1) gb452 (Nat.le_of_eq hg.symm)) hb);replace HR451_1:=Aside0.mk (Kd.C_below (by repeat(first|(with_reducible exact HR451_1.out)|(with_reducible refine Kd.C_alloc ?_ _)|(with_reducible refine Kd.C_drewN ?_ _)|(with_reducible refine Kd.C_drew ?_)|exact HR451_1.out)) hb);replace HB:=Aside0.mk (below_step (bl_ HB).out hb);clear hb hbox hg;obtain⟨hcz24_0,hcz24_1,hcz24_2,hfz24_0,hfz24_1,hfz24_2⟩:=bo3_ BK452)))
    go_loopg [9,54] k2 (fun kq v9 v54 w'=>∃(x9_3:Int) (x54_3:Int),v9= .int .i64 x9_3∧v54= .int .i64 x54_3∧Aside0 (florinlaw08_SampleGrammar.l1 kq t440 x9_3 t445 (t445.length:Int) x47_2 ((rd_T35 t445 x47_2).f1) (((rd_T35 t445 x47_2).f1).length:Int) x54_3=some r)∧Aside0 (kq≤k2)∧Aside0 (Kd.N (Kd.slice 9 Kd.string) 38 w' w.heap.size (fun k_=>some k_≠((.slice (some ad451) t445.length co19):Value).ownBlock∧k_≠gb452) v443 t440)∧Aside0 (Kd.N k35 35 w' w.heap.size (fun k_=>some k_≠(v443:Value).ownBlock∧k_≠gb452) (.slice (some ad451) t445.length co19) t445)∧Aside0 (Kd.V k37 37 w' w.heap.size (fun k_=>some k_≠(v443:Value).ownBlock∧some k_≠((.slice (some ad451) t445.length co19):Value).ownBlock∧k_≠gb452) (.slice A451_1 ((rd_T35 t445 x47_2).f1).length c451_1) ((rd_T35 t445 x47_2).f1))∧Aside0 (Kd.V k37 37 w' w.heap.size (fun k_=>some k_≠(v443:Value).ownBlock∧some k_≠((.slice (some ad451) t445.length co19):Value).ownBlock∧k_≠gb452) (.slice A451_1 ((rd_T35 t445 x47_2).f1).length c451_1) ((rd_T35 t445 x47_2).f1))∧Aside0 (w'.heap[gb452]? = some (.cells #[.bool ((rd_T35 t445 x47_2).f0),(.slice A451_1 ((rd_T35 t445 x47_2).f1).length c451_1),.bool ((rd_T35 t445 x47_2).f2)] 35 (0,0)))∧Aside0 (Below w.heap.size w w'))
    case atStart=>exact⟨(x9_2),(0),eq_,eq_,H',⟨Nat.le_refl _⟩,⟨kdN_ (Kd.N_mono (Kd.N_far (Kd.N_far (Kd.N_far (Kd.N_mono HO_5.out (fun k_ hk=>(⟨hk,hk.2⟩:_∧k_≠gb452))) (fun _ hk=>hk.2) _) (fun _ hk=>hk.2) _) (fun _ hk=>hk.2) _) (fun _ hk=>⟨hk.1.1,hk.1.2⟩))⟩,⟨kdN_ (Kd.N_mono (Kd.N_far (Kd.N_far (Kd.N_far (Kd.N_mono HO_45.out (fun k_ hk=>(⟨hk,hk.2⟩:_∧k_≠gb452))) (fun _ hk=>hk.2) _) (fun _ hk=>hk.2) _) (fun _ hk=>hk.2) _) (fun _ hk=>⟨hk.1.1,hk.1.2⟩))⟩,⟨kdV_ (Kd.V_mono (Kd.V_far (Kd.V_far (Kd.V_far (Kd.V_mono HL451_1.out (fun k_ hk=>(⟨hk,hk.2⟩:_∧k_≠gb452))) (fun _ hk=>hk.2) _) (fun _ hk=>hk.2) _) (fun _ hk=>hk.2) _) (fun _ hk=>⟨hk.1.1.1,⟨hk.1.1.2,hk.1.2⟩⟩))⟩,⟨kdV_ (Kd.V_mono (Kd.V_far (Kd.V_far (Kd.V_far (Kd.V_mono HL451_1.out (fun k_ hk=>(⟨hk,hk.2⟩:_∧k_≠gb452))) (fun _ hk=>hk.2) _) (fun _ hk=>hk.2) _) (fun _ hk=>hk.2) _) (fun _ hk=>⟨hk.1.1.1,⟨hk.1.1.2,hk.1.2⟩⟩))⟩,⟨(bp_ BK452).out⟩,(bl_ HB)⟩
    clear H'
    obtain⟨x9_3,x54_3,rfl,rfl,HA,HK3,HO_5,HO_45,HO_52,HO_453001,BK452,HB⟩:=hrel
    cases gk with
    | zero=>exact absurd HA.out (by simp[florinlaw08_SampleGrammar.l1])
    | succ k3=>?_
    have H:=HA.out
    clear HA
    simp only[florinlaw08_SampleGrammar.l1] at H
    by_cases c25:x54_3<(((rd_T35 t445 x47_2).f1).length:Int)
    ·rw[if_pos c25] at H
     have c25b0:=decide_eq_true c25
     clear c25
     replace H:=ifn_ H
     obtain⟨c26,H⟩:=H
     have c26b0:decide (0≤x54_3)=true:=decide_eq_true c26
     clear c26
     replace H:=ifn_ H
     obtain⟨c27,H⟩:=H
     have c27b0:decide (x54_3<(((rd_T35 t445 x47_2).f1).length:Int))=true:=decide_eq_true c27
     clear c27
     replace H:=Option.bind_eq_some_iff.mp H
     obtain⟨t455,A280,H⟩:=H
     have A28:=Aside0.mk A280
     clear A280
     replace H:=ifn_ H
     obtain⟨c29,H⟩:=H
     have c29b0:decide (0≤x9_3)=true:=decide_eq_true c29
     clear c29
     replace H:=ifn_ H
     obtain⟨c30,H⟩:=H
     have c30b0:decide (x9_3<(t440.length:Int))=true:=decide_eq_true c30
     clear c30
     replace H:=ifn_ H
     obtain⟨c31,H⟩:=H
     have c31b0:((t455.length:Int)==((rd_L8 t440 x9_3).length:Int))=true:=beq_iff_eq.mpr c31
     have c31b1:((t455.length:Int) !=((rd_L8 t440 x9_3).length:Int))=false:=bne_eq_false_iff_eq.mpr c31
     have c31b2:(t455.length==(rd_L8 t440 x9_3).length)=true:=by first|simpa using c31|(simp at c31 ⊢;omega)
     clear c31
     have H':=Aside0.mk H
     clear H
     have p453:0≤(x54_3:Int):=od_
     have q453:x54_3<(((rd_T35 t445 x47_2).f1).length:Int):=od_
     obtain⟨ad453,e453,hx453_0,hx453_1⟩:=at_T37 (Kd.V_reads' HO_52.out).2.2 x54_3 p453 q453
     cases e453
     replace p453:=eq_true p453
     replace q453:=eq_true q453
     go_wp2_with (first|((with_reducible refine gate_dst (N:=13) rfl ?_);refine be_ 13 #[.string (⟨#[]⟩:ByteArray),.string (⟨#[]⟩:ByteArray)] 37 ?_;intro gb454 hg w32 hbox hb;have BK454:=Aside0.mk (hbox);have GW454:=sz_ HB hg;have GE454:=sz_ HB hg;have NB452_454:=na_ BK452 hg;have NB454_452:=nb_ BK452 hg;replace HO_5:=Aside0.mk (Kd.N_below (Kd.N_elderB (krN_ HO_5) gb454 (Nat.le_of_eq hg.symm)) hb);replace HO_45:=Aside0.mk (Kd.N_below (Kd.N_elderB (krN_ HO_45) gb454 (Nat.le_of_eq hg.symm)) hb);replace HO_52:=Aside0.mk (Kd.V_below (Kd.V_elderB (krV_ HO_52) gb454 (Nat.le_of_eq hg.symm)) hb);replace HO_453001:=Aside0.mk (Kd.V_below (Kd.V_elderB (krV_ HO_453001) gb454 (Nat.le_of_eq hg.symm)) hb);replace BK452:=bb_ BK452 hb;replace HB:=Aside0.mk (below_step (bl_ HB).out hb);clear hb hbox hg;have hnb33:=NB454_452.out;have hnc33:=NB452_454.out;obtain⟨hcz34_0,hcz34_1,hfz34_0,hfz34_1⟩:=bo2_ BK454)|(go_at_call 11;(with_reducible refine(florinlaw08_texts.calls k3 ((rd_T37 ((rd_T35 t445 x47_2).f1) x54_3).f0) ((rd_T37 ((rd_T35 t445 x47_2).f1) x54_3).f1) t455 _ A28.out).mono ?_);rintro e w35 ⟨v456,rfl,ho0,hb⟩;have n0_:=Aside0.mk (Kd.N_elder' (kfN_ gb454 HO_5) (Kd.R_base ho0) hb);have n1_:=Aside0.mk (Kd.N_elder' (kfN_ gb454 HO_45) (Kd.R_base ho0) hb);have n2_:=Aside0.mk (Kd.V_elder' (kfV_ gb454 HO_52) (Kd.R_base ho0) hb);have n3_:=Aside0.mk (Kd.V_elder' (kfV_ gb454 HO_453001) (Kd.R_base ho0) hb);have n4_:=Aside0.mk (Kd.R_lower ho0 (below_size (bl_ HB).out));have n5_:=bz_ BK452 hb;have n6_:=Aside0.mk (blk_below (g:=gb454) (o:= .cells #[.string ((rd_T37 ((rd_T35 t445 x47_2).f1) x54_3).f0),.string ((rd_T37 ((rd_T35 t445 x47_2).f1) x54_3).f1)] 37 (0,0)) ((bp_ BK454).out) hb);have n7_:=Aside0.mk (below_step (bl_ HB).out hb);clear HO_5;clear HO_45;clear HO_52;clear HO_453001;clear BK452;clear BK454;clear HB;revert n0_ n1_ n2_ n3_ n4_ n5_ n6_ n7_;intro HO_5 HO_45 HO_52 HO_453001 HO457 BK452 BK454 HB;(try clear hb);(try clear ho0);obtain⟨Ao36,co36,eo36⟩:=Kd.R_slice HO457.out;subst eo36;obtain⟨Ao37,co37,eo37⟩:=Kd.N_slice HO_5.out;subst eo37;have p458:0≤(x9_3:Int):=od_;have q458:x9_3<(t440.length:Int):=od_;obtain⟨ad458,A458_0,c458_0,e458,hx458_0,hl458_0,hi458_0⟩:=at_L8 (Kd.N_reads' HO_5.out).2.2 x9_3 p458 q458;cases e458;obtain⟨ce458,hce458,hMe458,hcc458⟩:=Kd.N_get HO_5.out [] x9_3 p458 (by first|exact q458|exact od_|(have e_:=(Kd.N_reads' HO_5.out).1;omega));obtain⟨ua458_0,uc458_0,rfl,ul458_0,ge458_0⟩:=Kd.FK_slice_open hMe458;have hv458_0:=hcc458 0 _ rfl;rw[Nat.add_zero,show((Kd.slice 9 Kd.string)).sz=1 from rfl,Nat.mul_one] at hv458_0;replace hv458_0:=Option.some.inj (hv458_0.symm.trans hx458_0);injection hv458_0 with hva_ hvn_ hvc_;rw[hva_] at ge458_0;rw[hvc_] at ul458_0;have HL458_0:=Aside0.mk (show Kd.V Kd.string 9 _ w.heap.size _ _ (rd_L8 t440 x9_3) from Kd.V_mk ul458_0 ge458_0);clear hva_ hvn_ hvc_ ge458_0 ul458_0;clear hcc458 hce458;have HR458_0:=Aside0.mk hi458_0;have HC458_0:=Aside0.mk hl458_0;clear hi458_0 hl458_0;replace p458:=eq_true p458;replace q458:=eq_true q458))
     repeat(go_quiet (first|((with_reducible refine gate_dst (N:=13) rfl ?_);refine be_ 13 #[.string (⟨#[]⟩:ByteArray),.string (⟨#[]⟩:ByteArray)] 37 ?_;intro gb454 hg w32 hbox hb;have BK454:=Aside0.mk (hbox);have GW454:=sz_ HB hg;have GE454:=sz_ HB hg;have NB452_454:=na_ BK452 hg;have NB454_452:=nb_ BK452 hg;replace HO_5:=Aside0.mk (Kd.N_below (Kd.N_elderB (krN_ HO_5) gb454 (Nat.le_of_eq hg.symm)) hb);replace HO_45:=Aside0.mk (Kd.N_below (Kd.N_elderB (krN_ HO_45) gb454 (Nat.le_of_eq hg.symm)) hb);replace HO_52:=Aside0.mk (Kd.V_below (Kd.V_elderB (krV_ HO_52) gb454 (Nat.le_of_eq hg.symm)) hb);replace HO_453001:=Aside0.mk (Kd.V_below (Kd.V_elderB (krV_ HO_453001) gb454 (Nat.le_of_eq hg.symm)) hb);replace BK452:=bb_ BK452 hb;replace HB:=Aside0.mk (below_step (bl_ HB).out hb);clear hb hbox hg;have hnb33:=NB454_452.out;have hnc33:=NB452_454.out;obtain⟨hcz34_0,hcz34_1,hfz34_0,hfz34_1⟩:=bo2_ BK454)|(go_at_call 11;(with_reducible refine(florinlaw08_texts.calls k3 ((rd_T37 ((rd_T35 t445 x47_2).f1) x54_3).f0) ((rd_T37 ((rd_T35 t445 x47_2).f1) x54_3).f1) t455 _ A28.out).mono ?_);rintro e w35 ⟨v456,rfl,ho0,hb⟩;have n0_:=Aside0.mk (Kd.N_elder' (kfN_ gb454 HO_5) (Kd.R_base ho0) hb);have n1_:=Aside0.mk (Kd.N_elder' (kfN_ gb454 HO_45) (Kd.R_base ho0) hb);have n2_:=Aside0.mk (Kd.V_elder' (kfV_ gb454 HO_52) (Kd.R_base ho0) hb);have n3_:=Aside0.mk (Kd.V_elder' (kfV_ gb454 HO_453001) (Kd.R_base ho0) hb);have n4_:=Aside0.mk (Kd.R_lower ho0 (below_size (bl_ HB).out));have n5_:=bz_ BK452 hb;have n6_:=Aside0.mk (blk_below (g:=gb454) (o:= .cells #[.string ((rd_T37 ((rd_T35 t445 x47_2).f1) x54_3).f0),.string ((rd_T37 ((rd_T35 t445 x47_2).f1) x54_3).f1)] 37 (0,0)) ((bp_ BK454).out) hb);have n7_:=Aside0.mk (below_step (bl_ HB).out hb);clear HO_5;clear HO_45;clear HO_52;clear HO_453001;clear BK452;clear BK454;clear HB;revert n0_ n1_ n2_ n3_ n4_ n5_ n6_ n7_;intro HO_5 HO_45 HO_52 HO_453001 HO457 BK452 BK454 HB;(try clear hb);(try clear ho0);obtain⟨Ao36,co36,eo36⟩:=Kd.R_slice HO457.out;subst eo36;obtain⟨Ao37,co37,eo37⟩:=Kd.N_slice HO_5.out;subst eo37;have p458:0≤(x9_3:Int):=od_;have q458:x9_3<(t440.length:Int):=od_;obtain⟨ad458,A458_0,c458_0,e458,hx458_0,hl458_0,hi458_0⟩:=at_L8 (Kd.N_reads' HO_5.out).2.2 x9_3 p458 q458;cases e458;obtain⟨ce458,hce458,hMe458,hcc458⟩:=Kd.N_get HO_5.out [] x9_3 p458 (by first|exact q458|exact od_|(have e_:=(Kd.N_reads' HO_5.out).1;omega));obtain⟨ua458_0,uc458_0,rfl,ul458_0,ge458_0⟩:=Kd.FK_slice_open hMe458;have hv458_0:=hcc458 0 _ rfl;rw[Nat.add_zero,show((Kd.slice 9 Kd.string)).sz=1 from rfl,Nat.mul_one] at hv458_0;replace hv458_0:=Option.some.inj (hv458_0.symm.trans hx458_0);injection hv458_0 with hva_ hvn_ hvc_;rw[hva_] at ge458_0;rw[hvc_] at ul458_0;have HL458_0:=Aside0.mk (show Kd.V Kd.string 9 _ w.heap.size _ _ (rd_L8 t440 x9_3) from Kd.V_mk ul458_0 ge458_0);clear hva_ hvn_ hvc_ ge458_0 ul458_0;clear hcc458 hce458;have HR458_0:=Aside0.mk hi458_0;have HC458_0:=Aside0.mk hl458_0;clear hi458_0 hl458_0;replace p458:=eq_true p458;replace q458:=eq_true q458));try go_wp2_with (first|((with_reducible refine gate_dst (N:=13) rfl ?_);refine be_ 13 #[.string (⟨#[]⟩:ByteArray),.string (⟨#[]⟩:ByteArray)] 37 ?_;intro gb454 hg w32 hbox hb;have BK454:=Aside0.mk (hbox);have GW454:=sz_ HB hg;have GE454:=sz_ HB hg;have NB452_454:=na_ BK452 hg;have NB454_452:=nb_ BK452 hg;replace HO_5:=Aside0.mk (Kd.N_below (Kd.N_elderB (krN_ HO_5) gb454 (Nat.le_of_eq hg.symm)) hb);replace HO_45:=Aside0.mk (Kd.N_below (Kd.N_elderB (krN_ HO_45) gb454 (Nat.le_of_eq hg.symm)) hb);replace HO_52:=Aside0.mk (Kd.V_below (Kd.V_elderB (krV_ HO_52) gb454 (Nat.le_of_eq hg.symm)) hb);replace HO_453001:=Aside0.mk (Kd.V_below (Kd.V_elderB (krV_ HO_453001) gb454 (Nat.le_of_eq hg.symm)) hb);replace BK452:=bb_ BK452 hb;replace HB:=Aside0.mk (below_step (bl_ HB).out hb);clear hb hbox hg;have hnb33:=NB454_452.out;have hnc33:=NB452_454.out;obtain⟨hcz34_0,hcz34_1,hfz34_0,hfz34_1⟩:=bo2_ BK454)|(go_at_call 11;(with_reducible refine(florinlaw08_texts.calls k3 ((rd_T37 ((rd_T35 t445 x47_2).f1) x54_3).f0) ((rd_T37 ((rd_T35 t445 x47_2).f1) x54_3).f1) t455 _ A28.out).mono ?_);rintro e w35 ⟨v456,rfl,ho0,hb⟩;have n0_:=Aside0.mk (Kd.N_elder' (kfN_ gb454 HO_5) (Kd.R_base ho0) hb);have n1_:=Aside0.mk (Kd.N_elder' (kfN_ gb454 HO_45) (Kd.R_base ho0) hb);have n2_:=Aside0.mk (Kd.V_elder' (kfV_ gb454 HO_52) (Kd.R_base ho0) hb);have n3_:=Aside0.mk (Kd.V_elder' (kfV_ gb454 HO_453001) (Kd.R_base ho0) hb);have n4_:=Aside0.mk (Kd.R_lower ho0 (below_size (bl_ HB).out));have n5_:=bz_ BK452 hb;have n6_:=Aside0.mk (blk_below (g:=gb454) (o:= .cells #[.string ((rd_T37 ((rd_T35 t445 x47_2).f1) x54_3).f0),.string ((rd_T37 ((rd_T35 t445 x47_2).f1) x54_3).f1)] 37 (0,0)) ((bp_ BK454).out) hb);have n7_:=Aside0.mk (below_step (bl_ HB).out hb);clear HO_5;clear HO_45;clear HO_52;clear HO_453001;clear BK452;clear BK454;clear HB;revert n0_ n1_ n2_ n3_ n4_ n5_ n6_ n7_;intro HO_5 HO_45 HO_52 HO_453001 HO457 BK452 BK454 HB;(try clear hb);(try clear ho0);obtain⟨Ao36,co36,eo36⟩:=Kd.R_slice HO457.out;subst eo36;obtain⟨Ao37,co37,eo37⟩:=Kd.N_slice HO_5.out;subst eo37;have p458:0≤(x9_3:Int):=od_;have q458:x9_3<(t440.length:Int):=od_;obtain⟨ad458,A458_0,c458_0,e458,hx458_0,hl458_0,hi458_0⟩:=at_L8 (Kd.N_reads' HO_5.out).2.2 x9_3 p458 q458;cases e458;obtain⟨ce458,hce458,hMe458,hcc458⟩:=Kd.N_get HO_5.out [] x9_3 p458 (by first|exact q458|exact od_|(have e_:=(Kd.N_reads' HO_5.out).1;omega));obtain⟨ua458_0,uc458_0,rfl,ul458_0,ge458_0⟩:=Kd.FK_slice_open hMe458;have hv458_0:=hcc458 0 _ rfl;rw[Nat.add_zero,show((Kd.slice 9 Kd.string)).sz=1 from rfl,Nat.mul_one] at hv458_0;replace hv458_0:=Option.some.inj (hv458_0.symm.trans hx458_0);injection hv458_0 with hva_ hvn_ hvc_;rw[hva_] at ge458_0;rw[hvc_] at ul458_0;have HL458_0:=Aside0.mk (show Kd.V Kd.string 9 _ w.heap.size _ _ (rd_L8 t440 x9_3) from Kd.V_mk ul458_0 ge458_0);clear hva_ hvn_ hvc_ ge458_0 ul458_0;clear hcc458 hce458;have HR458_0:=Aside0.mk hi458_0;have HC458_0:=Aside0.mk hl458_0;clear hi458_0 hl458_0;replace p458:=eq_true p458;replace q458:=eq_true q458)))
     go_loopg [70] k3 (fun kq v70 w'=>∃(x70_4:Int),v70= .int .i64 x70_4∧Aside0 (florinlaw08_SampleGrammar.l2 kq t440 x9_3 t455 t445 (t445.length:Int) x47_2 ((rd_T35 t445 x47_2).f1) (((rd_T35 t445 x47_2).f1).length:Int) x54_3 (t455.length:Int) x70_4=some r)∧Aside0 (kq≤k3)∧Aside0 (Kd.N (Kd.slice 9 Kd.string) 38 w' w.heap.size (fun k_=>some k_≠((.slice Ao36 t455.length co36):Value).ownBlock∧some k_≠((.slice (some ad451) t445.length co19):Value).ownBlock∧k_≠gb452∧k_≠gb454) (.slice (some ad458) t440.length co37) t440)∧Aside0 (Kd.R Kd.string 9 w' w.heap.size (fun _=>True) (.slice Ao36 t455.length co36) t455)∧Aside0 (Kd.N k35 35 w' w.heap.size (fun k_=>some k_≠((.slice (some ad458) t440.length co37):Value).ownBlock∧some k_≠((.slice Ao36 t455.length co36):Value).ownBlock∧k_≠gb452∧k_≠gb454) (.slice (some ad451) t445.length co19) t445)∧Aside0 (Kd.V k37 37 w' w.heap.size (fun k_=>some k_≠((.slice (some ad458) t440.length co37):Value).ownBlock∧some k_≠((.slice Ao36 t455.length co36):Value).ownBlock∧some k_≠((.slice (some ad451) t445.length co19):Value).ownBlock∧k_≠gb452∧k_≠gb454) (.slice (some ad453) ((rd_T35 t445 x47_2).f1).length c451_1) ((rd_T35 t445 x47_2).f1))∧Aside0 (Kd.V k37 37 w' w.heap.size (fun k_=>some k_≠((.slice (some ad458) t440.length co37):Value).ownBlock∧some k_≠((.slice Ao36 t455.length co36):Value).ownBlock∧some k_≠((.slice (some ad451) t445.length co19):Value).ownBlock∧k_≠gb452∧k_≠gb454) (.slice (some ad453) ((rd_T35 t445 x47_2).f1).length c451_1) ((rd_T35 t445 x47_2).f1))∧Aside0 (w'.heap[gb452]? = some (.cells #[.bool ((rd_T35 t445 x47_2).f0),(.slice (some ad453) ((rd_T35 t445 x47_2).f1).length c451_1),.bool ((rd_T35 t445 x47_2).f2)] 35 (0,0)))∧Aside0 (w'.heap[gb454]? = some (.cells #[.string ((rd_T37 ((rd_T35 t445 x47_2).f1) x54_3).f0),.string ((rd_T37 ((rd_T35 t445 x47_2).f1) x54_3).f1)] 37 (0,0)))∧Aside0 (Kd.C Kd.string w' A458_0 (rd_L8 t440 x9_3).length (rd_L8 t440 x9_3))∧Aside0 (Below w.heap.size w w'))
     case atStart=>exact⟨(0),eq_,H',⟨Nat.le_refl _⟩,⟨kdN_ (Kd.N_mono HO_5.out (fun _ hk=>⟨hk.2,⟨hk.1.1.1,⟨hk.1.1.2,hk.1.2⟩⟩⟩))⟩,⟨kdR_ HO457.out⟩,⟨kdN_ (Kd.N_mono HO_45.out (fun _ hk=>⟨hk.1.1.1,⟨hk.2,⟨hk.1.1.2,hk.1.2⟩⟩⟩))⟩,⟨kdV_ (Kd.V_mono HO_52.out (fun _ hk=>⟨hk.1.1.1,⟨hk.2,⟨hk.1.1.2.1,⟨hk.1.1.2.2,hk.1.2⟩⟩⟩⟩))⟩,⟨kdV_ (Kd.V_mono HO_453001.out (fun _ hk=>⟨hk.1.1.1,⟨hk.2,⟨hk.1.1.2.1,⟨hk.1.1.2.2,hk.1.2⟩⟩⟩⟩))⟩,(bk_ BK452),(bk_ BK454),⟨by repeat(first|(with_reducible exact HR458_0.out)|(with_reducible refine Kd.C_alloc ?_ _)|(with_reducible refine Kd.C_drewN ?_ _)|(with_reducible refine Kd.C_drew ?_)|exact HR458_0.out)⟩,(bl_ HB)⟩
     clear H'
     obtain⟨x70_4,rfl,HA,HK4,HO_5,HO_14,HO_45,HO_52,HO_453001,BK452,BK454,HR458_0,HB⟩:=hrel
     cases gk with
     | zero=>exact absurd HA.out (by simp[florinlaw08_SampleGrammar.l2])
     | succ k4=>?_
     have H:=HA.out
     clear HA
     simp only[florinlaw08_SampleGrammar.l2] at H
     by_cases c38:x70_4<(t455.length:Int)
     ·rw[if_pos c38] at H
      have c38b0:=decide_eq_true c38
      clear c38
      replace H:=ifn_ H
      obtain⟨c39,H⟩:=H
      have c39b0:decide (0≤x70_4)=true:=decide_eq_true c39
      clear c39
      replace H:=ifn_ H
      obtain⟨c40,H⟩:=H
      have c40b0:decide (x70_4<(t455.length:Int))=true:=decide_eq_true c40
      clear c40
      replace H:=ifn_ H
      obtain⟨c41,H⟩:=H
      have c41b0:decide (0≤x9_3)=true:=decide_eq_true c41
      clear c41
      replace H:=ifn_ H
      obtain⟨c42,H⟩:=H
      have c42b0:decide (x9_3<(t440.length:Int))=true:=decide_eq_true c42
      clear c42
      replace H:=ifn_ H
      obtain⟨c43,H⟩:=H
      have c43b0:decide (x70_4<((rd_L8 t440 x9_3).length:Int))=true:=decide_eq_true c43
      clear c43
      replace H:=ifn_ H
      obtain⟨c44,H⟩:=H
      have c44b0:((rdOf ByteArray.empty t455 x70_4).toList==(rdOf ByteArray.empty (rd_L8 t440 x9_3) x70_4).toList)=true:=beq_iff_eq.mpr c44
      have c44b1:((rdOf ByteArray.empty t455 x70_4).toList !=(rdOf ByteArray.empty (rd_L8 t440 x9_3) x70_4).toList)=false:=bne_eq_false_iff_eq.mpr c44
      clear c44
      have H':=Aside0.mk H
      clear H
      have p459:0≤(x70_4:Int):=od_
      have q459:x70_4<(t455.length:Int):=od_
      obtain⟨ad459,e459,hx459_0⟩:=Kd.at_string (Kd.R_reads' HO_14.out).2.2 x70_4 p459 q459
      cases e459
      replace p459:=eq_true p459
      replace q459:=eq_true q459
      have p460:0≤(x9_3:Int):=od_
      have q460:x9_3<(t440.length:Int):=od_
      obtain⟨ad460,A460_0,c460_0,e460,hx460_0,hl460_0,hi460_0⟩:=at_L8 (Kd.N_reads' HO_5.out).2.2 x9_3 p460 q460
      obtain rfl:ad458=ad460:=(by injection e460)
      obtain⟨ce460,hce460,hMe460,hcc460⟩:=Kd.N_get HO_5.out [] x9_3 p460 (by first|exact q460|exact od_|(have e_:=(Kd.N_reads' HO_5.out).1;omega))
      obtain⟨ua460_0,uc460_0,rfl,ul460_0,ge460_0⟩:=Kd.FK_slice_open hMe460
      have hv460_0:=hcc460 0 _ rfl
      rw[Nat.add_zero,show((Kd.slice 9 Kd.string)).sz=1 from rfl,Nat.mul_one] at hv460_0
      replace hv460_0:=Option.some.inj (hv460_0.symm.trans hx460_0)
      injection hv460_0 with hva_ hvn_ hvc_
      rw[hva_] at ge460_0
      rw[hvc_] at ul460_0
      have HL460_0:=Aside0.mk (show Kd.V Kd.string 9 _ w.heap.size _ _ (rd_L8 t440 x9_3) from Kd.V_mk ul460_0 ge460_0)
      clear hva_ hvn_ hvc_ ge460_0 ul460_0
      clear hcc460 hce460
      have HR460_0:=Aside0.mk hi460_0
      have HC460_0:=Aside0.mk hl460_0
      clear hi460_0 hl460_0
      replace p460:=eq_true p460
      replace q460:=eq_true q460
      have p461:0≤(x70_4:Int):=od_
      have q461:x70_4<((rd_L8 t440 x9_3).length:Int):=od_
      obtain⟨ad461,e461,hx461_0⟩:=Kd.at_string (by repeat(first|(with_reducible exact HR460_0.out)|(with_reducible refine Kd.C_alloc ?_ _)|(with_reducible refine Kd.C_drewN ?_ _)|(with_reducible refine Kd.C_drew ?_)|exact HR460_0.out)) x70_4 p461 q461
      cases e461
      replace p461:=eq_true p461
      replace q461:=eq_true q461
      go_wp2
      repeat(go_quiet (fail);try go_wp2)
      go_roundg k4
      case measure=>have:=HJ7.out;have:=HK2.out;have:=HK3.out;have:=HK4.out;omega
      case rel=>exact⟨(wrap64 (x70_4+1)),eq_,H',⟨by have:=HJ7.out;have:=HK2.out;have:=HK3.out;have:=HK4.out;omega⟩,⟨kdN_ HO_5.out⟩,⟨kdR_ HO_14.out⟩,⟨kdN_ HO_45.out⟩,⟨kdV_ HO_52.out⟩,⟨kdV_ HO_453001.out⟩,(bk_ BK452),(bk_ BK454),⟨by repeat(first|(with_reducible exact HR458_0.out)|(with_reducible refine Kd.C_alloc ?_ _)|(with_reducible refine Kd.C_drewN ?_ _)|(with_reducible refine Kd.C_drew ?_)|exact HR458_0.out)⟩,(bl_ HB)⟩
     rw[if_neg c38] at H
     have c38b0:=decide_eq_false c38
     clear c38
     have H':=Aside0.mk H
     clear H
     go_wp2
     repeat(go_quiet (fail);try go_wp2)
     go_roundg k4
     case measure=>have:=HJ7.out;have:=HK2.out;have:=HK3.out;have:=HK4.out;omega
     case rel=>exact⟨(wrap64 (x9_3+1)),(wrap64 (x54_3+1)),eq_,eq_,H',⟨by have:=HJ7.out;have:=HK2.out;have:=HK3.out;have:=HK4.out;omega⟩,⟨kdN_ (Kd.N_mono HO_5.out (fun _ hk=>⟨hk.2.1,hk.2.2.1⟩))⟩,⟨kdN_ (Kd.N_mono HO_45.out (fun _ hk=>⟨hk.1,hk.2.2.1⟩))⟩,⟨kdV_ (Kd.V_mono HO_52.out (fun _ hk=>⟨hk.1,⟨hk.2.2.1,hk.2.2.2.1⟩⟩))⟩,⟨kdV_ (Kd.V_mono HO_453001.out (fun _ hk=>⟨hk.1,⟨hk.2.2.1,hk.2.2.2.1⟩⟩))⟩,(bk_ BK452),(bl_ HB)⟩
    rw[if_neg c25] at H
    have c25b0:=decide_eq_false c25
    clear c25
    have H':=Aside0.mk H
    clear H
    go_wp2
    repeat(go_quiet (fail);try go_wp2)
    go_roundg k3
    case measure=>have:=HJ7.out;have:=HK2.out;have:=HK3.out;omega
    case rel=>exact⟨(x9_3),(wrap64 (x47_2+1)),eq_,eq_,H',⟨by have:=HJ7.out;have:=HK2.out;have:=HK3.out;omega⟩,⟨kdN_ (Kd.N_mono HO_5.out (fun _ hk=>hk.1))⟩,⟨kdN_ (Kd.N_mono HO_45.out (fun _ hk=>hk.1))⟩,(bl_ HB)⟩
   rw[if_neg c20] at H
   have c20b0:=decide_eq_false c20
   clear c20
   obtain rfl:=Option.some.inj H
   obtain⟨Ao45,co45,eo45⟩:=Kd.N_slice HO_5.out
   subst eo45
   go_wp2
   repeat(go_quiet (fail);try go_wp2)
   go_ret
   exact⟨ew_,(bl_ HB).out⟩
  replace c5:=Bool.eq_false_iff.mpr c5
  subst c5
  rw[if_neg (show ¬(false=true) by decide)] at H
  obtain rfl:=Option.some.inj H
  go_enter Tryd.func3,Tryd.ntmps3
  go_wp2_with (first|(go_at_call 6;(with_reducible refine(florinlaw08_head.calls _ _ _ A2.out).mono ?_);rintro e w46 ⟨rfl,hb⟩;replace HB:=Aside0.mk (below_step (bl_ HB).out hb);(try clear hb);(try clear hi))|(go_at_call 7;(with_reducible refine(florinlaw08_Few.calls _ _ _ _ _ _ ?side1 ?side2 A4.out).mono ?_);(case side1=>repeat(first|exact(Kd.C_below HR0.out HB.out)|(with_reducible refine Kd.C_alloc ?_ _)|(with_reducible refine Kd.C_drewN ?_ _)|(with_reducible refine Kd.C_drew ?_)));(case side2=>exact HC0.out);rintro e w47 ⟨rfl,hb⟩;replace HB:=Aside0.mk (below_step (bl_ HB).out hb);(try clear hb);(try clear hi)))
  repeat(go_quiet (first|(go_at_call 6;(with_reducible refine(florinlaw08_head.calls _ _ _ A2.out).mono ?_);rintro e w46 ⟨rfl,hb⟩;replace HB:=Aside0.mk (below_step (bl_ HB).out hb);(try clear hb);(try clear hi))|(go_at_call 7;(with_reducible refine(florinlaw08_Few.calls _ _ _ _ _ _ ?side1 ?side2 A4.out).mono ?_);(case side1=>repeat(first|exact(Kd.C_below HR0.out HB.out)|(with_reducible refine Kd.C_alloc ?_ _)|(with_reducible refine Kd.C_drewN ?_ _)|(with_reducible refine Kd.C_drew ?_)));(case side2=>exact HC0.out);rintro e w47 ⟨rfl,hb⟩;replace HB:=Aside0.mk (below_step (bl_ HB).out hb);(try clear hb);(try clear hi)));try go_wp2_with (first|(go_at_call 6;(with_reducible refine(florinlaw08_head.calls _ _ _ A2.out).mono ?_);rintro e w46 ⟨rfl,hb⟩;replace HB:=Aside0.mk (below_step (bl_ HB).out hb);(try clear hb);(try clear hi))|(go_at_call 7;(with_reducible refine(florinlaw08_Few.calls _ _ _ _ _ _ ?side1 ?side2 A4.out).mono ?_);(case side1=>repeat(first|exact(Kd.C_below HR0.out HB.out)|(with_reducible refine Kd.C_alloc ?_ _)|(with_reducible refine Kd.C_drewN ?_ _)|(with_reducible refine Kd.C_drew ?_)));(case side2=>exact HC0.out);rintro e w47 ⟨rfl,hb⟩;replace HB:=Aside0.mk (below_step (bl_ HB).out hb);(try clear hb);(try clear hi))))
  go_ret
  exact⟨ew_,(bl_ HB).out⟩
 replace c3:=Bool.eq_false_iff.mpr c3
 subst c3
 rw[if_neg (show ¬(false=true) by decide)] at H
 exact absurd H (by simp)

end Go.Proofs.YtbhhfpjiacfofaaDoor.P
