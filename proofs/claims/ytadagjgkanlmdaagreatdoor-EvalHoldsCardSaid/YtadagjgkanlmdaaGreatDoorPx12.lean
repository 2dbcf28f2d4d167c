import Derived.Test.YtadagjgkanlmdaaGreatDoorPx0
import Derived.Test.YtadagjgkanlmdaaGreatDoorPx10
import Derived.Test.YtadagjgkanlmdaaGreatDoorPx11
namespace Go.Proofs.YtadagjgkanlmdaaGreatDoor.P
open Go.RowKit Go.Proofs.YtadagjgkanlmdaaGreatDoorW.PrintWords Go.Proofs.YtadagjgkanlmdaaGreatDoorW.PrintLast Go.Proofs.YtadagjgkanlmdaaGreatDoorW.PrintMore
attribute [local go_sem] max2_int min2_int max_two min_two max_three min_three max_four min_four
set_option maxHeartbeats 64000000
set_option maxRecDepth 100000
set_option linter.unusedVariables false
set_option linter.unusedSimpArgs false

mutual
def florinlaw06_All.l0:Nat→Int→List (S41)→ByteArray→List (S50)→Int→Int→Bool→Bool→Bool→Bool→Bool→Bool→Option ((List (S41)) × ByteArray)
 | 0,_,_,_,_,_,_,_,_,_,_,_,_=>none
 | k+1,x1,x6,x7,x15,x16,x17,x718000,x718001,x718002,x718003,x718004,x718005=>if x17<x16 then (if 0≤x17 then (if x17<(x15.length:Int) then ((florinlaw06_Made_cat.f ((rd_T50 x15 x17).f0) ((rd_T50 x15 x17).f1) ((rd_T50 x15 x17).f2) ((rd_T50 x15 x17).f3)).bind fun t721=>(if 0≤t721 then (if t721<6 then (if rdOf false [x718000,x718001,x718002,x718003,x718004,x718005] t721=true then (florinlaw06_All.l0 k x1 x6 x7 x15 x16 (wrap64 (x17+1)) x718000 x718001 x718002 x718003 x718004 x718005) else ((florinlaw06_Made_cat.f ((rd_T50 x15 x17).f0) ((rd_T50 x15 x17).f1) ((rd_T50 x15 x17).f2) ((rd_T50 x15 x17).f3)).bind fun t722=>(if 0≤t722 then (if t722<6 then ((florinlaw06_Made_Write.f k ((rd_T50 x15 x17).f0) ((rd_T50 x15 x17).f1) ((rd_T50 x15 x17).f2) ((rd_T50 x15 x17).f3)).bind fun bt723=>(if (x6.length:Int)>0 then (if x7.size+1≤9223372036854775807 then (florinlaw06_All.j1 k x1 x6 (x7++(⟨#[59]⟩:ByteArray)) bt723.2.2.2 x15 x16 x17 (if t722=0 then true else x718000) (if t722=1 then true else x718001) (if t722=2 then true else x718002) (if t722=3 then true else x718003) (if t722=4 then true else x718004) (if t722=5 then true else x718005) bt723.1 bt723.2.1 bt723.2.2.1) else (none)) else (if x6.length<2932031007402 then (if x7.size+bt723.2.2.2.size≤9223372036854775807 then (florinlaw06_All.l0 k x1 (x6++[(⟨bt723.1,bt723.2.1,bt723.2.2.1⟩:S41)]) (x7++bt723.2.2.2) x15 x16 (wrap64 (x17+1)) (if t722=0 then true else x718000) (if t722=1 then true else x718001) (if t722=2 then true else x718002) (if t722=3 then true else x718003) (if t722=4 then true else x718004) (if t722=5 then true else x718005)) else (none)) else (none)))) else (none)) else (none)))) else (none)) else (none))) else (none)) else (none)) else (if (x6.length:Int)>0 then (if (Go.bits .and .i64 x1 1)=1 then (if x7.size+1≤9223372036854775807 then ((florinlaw06_gap.f (x1/2)).bind fun t718=>(if (x7++(⟨#[59]⟩:ByteArray)).size+t718.size≤9223372036854775807 then (some (x6,(x7++(⟨#[59]⟩:ByteArray))++t718)) else (none))) else (none)) else (some (x6,x7))) else (some (x6,x7)))
def florinlaw06_All.j1:Nat→Int→List (S41)→ByteArray→ByteArray→List (S50)→Int→Int→Bool→Bool→Bool→Bool→Bool→Bool→Int→List (List (S53))→ByteArray→Option ((List (S41)) × ByteArray)
 | 0,_,_,_,_,_,_,_,_,_,_,_,_,_,_,_,_=>none
 | k+1,x1,x6,x7,x12,x15,x16,x17,x718000,x718001,x718002,x718003,x718004,x718005,x730000,x730001,x730002=>if x6.length<2932031007402 then (if x7.size+x12.size≤9223372036854775807 then (florinlaw06_All.l0 k x1 (x6++[(⟨x730000,x730001,x730002⟩:S41)]) (x7++x12) x15 x16 (wrap64 (x17+1)) x718000 x718001 x718002 x718003 x718004 x718005) else (none)) else (none)
end
def florinlaw06_All.f (k:Nat) (l0:List (S50)) (a1:Int):Option ((List (S41)) × ByteArray):=florinlaw06_All.l0 k a1 (([]:List (S41))) (⟨#[]⟩:ByteArray) l0 (l0.length:Int) 0 false false false false false false
theorem florinlaw06_All.calls (k:Nat) (P0_:Nat→Prop) (A0:Option Addr) (c0:Nat) (l0:List (S50)) (a1:Int) (r1:List (S41)) (r2:ByteArray) (w:World) (hs0:Kd.V k50 50 w w.heap.size (fun k_=>P0_ k_) (.slice A0 l0.length c0) l0) (h:florinlaw06_All.f k l0 a1=some (r1,r2)) :
  Calls Tryz.prog 12 #[.slice A0 l0.length c0,.int .i64 a1] w fun e w'=>∃v0_:Value,e= .returned (.tuple #[v0_,.string r2])∧Kd.N k41 41 w' w.heap.size (fun k_=>(P0_ k_∨w.heap.size≤k_)) v0_ r1∧Below w.heap.size w w':=by
 have hu74:=Tryz.underlying74
 have hu50:=Tryz.underlying50
 have hu41:=Tryz.underlying41
 have HO0:=am_ (show Kd.V k50 50 w w.heap.size (fun k_=>(P0_ k_∨w.heap.size≤k_)) (.slice A0 l0.length c0) l0 from Kd.V_mono hs0 (fun k_ hk=> .inl hk))
 have HB:=am_ (Below.refl w.heap.size w)
 have H:=h
 clear h
 unfold florinlaw06_All.f at H
 obtain⟨y714,hy714⟩:∃y_:List (S41),y_=(([]:List (S41))):=⟨_,rfl⟩
 replace H:(florinlaw06_All.l0 k a1 y714 (⟨#[]⟩:ByteArray) l0 (l0.length:Int) 0 false false false false false false)=some (r1,r2):=by first|(rw[hy714];with_reducible exact H)|(have H2_:=(Option.bind_some _ _).symm.trans H;rw[hy714];with_reducible exact H2_)|(have H2_:=(Option.bind_some _ _).symm.trans H;with_reducible exact H2_)|with_reducible exact H|(rw[hy714];exact H)|exact H
 have Ny714:=am_ hy714
 clear hy714
 have H':=am_ H
 clear H
 go_enter Tryz.func12,Tryz.ntmps12
 go_wp2_with (first|((with_reducible refine gate_dst (N:=13) rfl ?_);refine Kd.N_lit k41 _ 41 ?hg (N':=13) ?hd (xs:=([]:List (S41))) (inner:=[]) (ok:=(fun k_=>(P0_ k_∨w.heap.size≤k_))) (okp:=(fun k_=>(P0_ k_∨w.heap.size≤k_))) ?hr ?hp (fun _ hk=>hk) ((show ∀k_,w.heap.size≤k_→(fun k_=>(P0_ k_∨w.heap.size≤k_)) k_ from fun k_ hk=>(.inr (Nat.le_trans (below_size (bl_ HB).out) hk))) _ (Nat.le_refl _)) (Below.refl _ _) (Nat.le_refl _) (by simp) ?_;(case hd=>rfl);(case hg=>rfl);(case hr=>first|(go_simp;done)|(go_simp;rfl));(case hp=>exact(Reps.none _ _));intro v715 w3 ho4 hb hg_ hnew_;clear hg_ hnew_;(first|rw[← Ny714.out] at ho4|(simp only[Int.reduceToNat] at ho4;rw[← Ny714.out] at ho4));have HO716:=am_ (Kd.N_lower ho4 (below_size (bl_ HB).out));replace HO0:=am_ (Kd.V_elder' (krV_ HO0) (Kd.N_base ho4) hb);replace HB:=am_ (below_step (bl_ HB).out hb);clear hb ho4)|((with_reducible refine gate_dst (N:=8) rfl ?_);refine be_ 8 #[.bool false,.bool false,.bool false,.bool false,.bool false,.bool false] 74 ?_;intro gb717 hg w5 hbox hb;have BK717:=am_ (hbox);have GW717:=sz_ HB hg;have GE717:=sz_ HB hg;replace HO0:=am_ (Kd.V_below (Kd.V_elderB (krV_ HO0) gb717 (Nat.le_of_eq hg.symm)) hb);replace HO716:=am_ (Kd.N_below (Kd.N_elderB (krN_ HO716) gb717 (Nat.le_of_eq hg.symm)) hb);replace HB:=am_ (below_step (bl_ HB).out hb);clear hb hbox hg;obtain⟨hcz6_0,hcz6_1,hcz6_2,hcz6_3,hcz6_4,hcz6_5,hfz6_0,hfz6_1,hfz6_2,hfz6_3,hfz6_4,hfz6_5⟩:=bo6_ BK717))
 go_loopg [6,7,17] k (fun kq v6 v7 v17 w'=>∃(x6_1:List (S41)) (x7_1:ByteArray) (x17_1:Int) (x718000_1:Bool) (x718001_1:Bool) (x718002_1:Bool) (x718003_1:Bool) (x718004_1:Bool) (x718005_1:Bool),v7= .string x7_1∧v17= .int .i64 x17_1∧Aside0 (florinlaw06_All.l0 kq a1 x6_1 x7_1 l0 (l0.length:Int) x17_1 x718000_1 x718001_1 x718002_1 x718003_1 x718004_1 x718005_1=some (r1,r2))∧Aside0 (kq≤k)∧Aside0 (Kd.N k41 41 w' w.heap.size (fun k_=>(P0_ k_∨w.heap.size≤k_)∧k_≠gb717) v6 x6_1)∧Aside0 (Kd.V k50 50 w' w.heap.size (fun k_=>(P0_ k_∨w.heap.size≤k_)∧some k_≠(v6:Value).ownBlock∧k_≠gb717) (.slice A0 l0.length c0) l0)∧Aside0 (w'.heap[gb717]? = some (.cells #[.bool x718000_1,.bool x718001_1,.bool x718002_1,.bool x718003_1,.bool x718004_1,.bool x718005_1] 74 (0,0)))∧Aside0 (Below w.heap.size w w'))
 case atStart=>exact⟨(y714),((⟨#[]⟩:ByteArray)),(0),(false),(false),(false),(false),(false),(false),eq_,eq_,H',⟨Nat.le_refl _⟩,⟨kdN_ (Kd.N_mono (Kd.N_far (Kd.N_far (Kd.N_far (Kd.N_far (Kd.N_far (Kd.N_far (Kd.N_mono HO716.out (fun k_ hk=>(⟨hk,hk.2⟩:_∧k_≠gb717))) (fun _ hk=>hk.2) _) (fun _ hk=>hk.2) _) (fun _ hk=>hk.2) _) (fun _ hk=>hk.2) _) (fun _ hk=>hk.2) _) (fun _ hk=>hk.2) _) (fun _ hk=>⟨hk.1.1,hk.1.2⟩))⟩,⟨kdV_ (Kd.V_mono (Kd.V_far (Kd.V_far (Kd.V_far (Kd.V_far (Kd.V_far (Kd.V_far (Kd.V_mono HO0.out (fun k_ hk=>(⟨hk,hk.2⟩:_∧k_≠gb717))) (fun _ hk=>hk.2) _) (fun _ hk=>hk.2) _) (fun _ hk=>hk.2) _) (fun _ hk=>hk.2) _) (fun _ hk=>hk.2) _) (fun _ hk=>hk.2) _) (fun _ hk=>⟨hk.1.1.1,⟨hk.1.1.2,hk.1.2⟩⟩))⟩,⟨(bp_ BK717).out⟩,(bl_ HB)⟩
 clear H'
 obtain⟨x6_1,x7_1,x17_1,x718000_1,x718001_1,x718002_1,x718003_1,x718004_1,x718005_1,rfl,rfl,HA,HK1,HO_6,HO_15,BK717,HB⟩:=hrel
 cases gk with
 | zero=>exact absurd HA.out (by simp[florinlaw06_All.l0])
 | succ k1=>?_
 have H:=HA.out
 clear HA
 simp only[florinlaw06_All.l0] at H
 by_cases c7:x17_1<(l0.length:Int)
 ·rw[if_pos c7] at H
  have c7b0:=decide_eq_true c7
  clear c7
  replace H:=ifn_ H
  obtain⟨c8,H⟩:=H
  have c8b0:decide (0≤x17_1)=true:=decide_eq_true c8
  clear c8
  replace H:=ifn_ H
  obtain⟨c9,H⟩:=H
  have c9b0:decide (x17_1<(l0.length:Int))=true:=decide_eq_true c9
  clear c9
  replace H:=Option.bind_eq_some_iff.mp H
  obtain⟨t721,A100,H⟩:=H
  have A10:=am_ A100
  clear A100
  replace H:=ifn_ H
  obtain⟨c11,H⟩:=H
  have c11b0:decide (0≤t721)=true:=decide_eq_true c11
  clear c11
  replace H:=ifn_ H
  obtain⟨c12,H⟩:=H
  have c12b0:decide (t721<6)=true:=decide_eq_true c12
  clear c12
  obtain⟨bq13,hbq13⟩:∃b_:Bool,b_=(rdOf false [x718000_1,x718001_1,x718002_1,x718003_1,x718004_1,x718005_1] t721):=⟨_,rfl⟩
  replace H:(if bq13=true then (florinlaw06_All.l0 k1 a1 x6_1 x7_1 l0 (l0.length:Int) (wrap64 (x17_1+1)) x718000_1 x718001_1 x718002_1 x718003_1 x718004_1 x718005_1) else ((florinlaw06_Made_cat.f ((rd_T50 l0 x17_1).f0) ((rd_T50 l0 x17_1).f1) ((rd_T50 l0 x17_1).f2) ((rd_T50 l0 x17_1).f3)).bind fun t722=>(if 0≤t722 then (if t722<6 then ((florinlaw06_Made_Write.f k1 ((rd_T50 l0 x17_1).f0) ((rd_T50 l0 x17_1).f1) ((rd_T50 l0 x17_1).f2) ((rd_T50 l0 x17_1).f3)).bind fun bt723=>(if (x6_1.length:Int)>0 then (if x7_1.size+1≤9223372036854775807 then (florinlaw06_All.j1 k1 a1 x6_1 (x7_1++(⟨#[59]⟩:ByteArray)) bt723.2.2.2 l0 (l0.length:Int) x17_1 (if t722=0 then true else x718000_1) (if t722=1 then true else x718001_1) (if t722=2 then true else x718002_1) (if t722=3 then true else x718003_1) (if t722=4 then true else x718004_1) (if t722=5 then true else x718005_1) bt723.1 bt723.2.1 bt723.2.2.1) else (none)) else (if x6_1.length<2932031007402 then (if x7_1.size+bt723.2.2.2.size≤9223372036854775807 then (florinlaw06_All.l0 k1 a1 (x6_1++[(⟨bt723.1,bt723.2.1,bt723.2.2.1⟩:S41)]) (x7_1++bt723.2.2.2) l0 (l0.length:Int) (wrap64 (x17_1+1)) (if t722=0 then true else x718000_1) (if t722=1 then true else x718001_1) (if t722=2 then true else x718002_1) (if t722=3 then true else x718003_1) (if t722=4 then true else x718004_1) (if t722=5 then true else x718005_1)) else (none)) else (none)))) else (none)) else (none))))=some (r1,r2):=by rw[← hbq13] at H;exact H
  have Nbq13:=am_ hbq13
  clear hbq13
  by_cases c14:bq13=true
  ·subst c14
   rw[if_pos rfl] at H
   have H':=am_ H
   clear H
   have p719:0≤(x17_1:Int):=od_
   have q719:x17_1<(l0.length:Int):=od_
   obtain⟨ad719,A719_3,c719_3,e719,hx719_0,hx719_1,hx719_2,hx719_3,hl719_3,hi719_3⟩:=at_T50 (Kd.V_reads' HO_15.out).2.2 x17_1 p719 q719
   cases e719
   obtain⟨ce719,hce719,hMe719,hcc719⟩:=Kd.V_get HO_15.out z50 x17_1 p719 (by first|exact q719|exact od_|(have e_:=(Kd.V_reads' HO_15.out).1;omega))
   obtain⟨ua719_3,uc719_3,rfl,ul719_3,ge719_3⟩:=k50_openF hMe719
   have hv719_3:=hcc719 3 _ rfl
   rw[add_field _ _ 3 (by omega)] at hv719_3
   replace hv719_3:=Option.some.inj (hv719_3.symm.trans hx719_3)
   injection hv719_3 with hva_ hvn_ hvc_
   rw[hva_] at ge719_3
   rw[hvc_] at ul719_3
   have HL719_3:=am_ (show Kd.V (Kd.slice 46 k46) 47 _ w.heap.size _ _ ((rd_T50 l0 x17_1).f3) from Kd.V_mk ul719_3 ge719_3)
   clear hva_ hvn_ hvc_ ge719_3 ul719_3
   clear hcc719 hce719
   have HR719_3:=am_ hi719_3
   have HC719_3:=am_ hl719_3
   clear hi719_3 hl719_3
   replace p719:=eq_true p719
   replace q719:=eq_true q719
   go_wp2_with (first|((with_reducible refine gate_dst (N:=10) rfl ?_);refine be_ 10 #[.int .i64 0,.int .i64 0,.int .i64 0,.slice none 0 0] 50 ?_;intro gb720 hg w15 hbox hb;have BK720:=am_ (hbox);have GW720:=sz_ HB hg;have GE720:=sz_ HB hg;have NB717_720:=na_ BK717 hg;have NB720_717:=nb_ BK717 hg;replace HO_6:=am_ (Kd.N_below (Kd.N_elderB (krN_ HO_6) gb720 (Nat.le_of_eq hg.symm)) hb);replace HO_15:=am_ (Kd.V_below (Kd.V_elderB (krV_ HO_15) gb720 (Nat.le_of_eq hg.symm)) hb);replace HL719_3:=am_ (Kd.V_below (Kd.V_elderB (krV_ HL719_3) gb720 (Nat.le_of_eq hg.symm)) hb);replace BK717:=bb_ BK717 hb;replace HR719_3:=am_ (Kd.C_below (by repeat(first|(with_reducible exact HR719_3.out)|(with_reducible refine Kd.C_alloc ?_ _)|(with_reducible refine Kd.C_drewN ?_ _)|(with_reducible refine Kd.C_drew ?_)|exact HR719_3.out)) hb);replace HB:=am_ (below_step (bl_ HB).out hb);clear hb hbox hg;have hnb16:=NB720_717.out;have hnc16:=NB717_720.out;obtain⟨hcz17_0,hcz17_1,hcz17_2,hcz17_3,hfz17_0,hfz17_1,hfz17_2,hfz17_3⟩:=bo4_ BK720)|((with_reducible refine gate_callee (f:=27) rfl ?_);refine gl_ (some 22) Tryz.func27 #[.agg #[.int .i64 ((rd_T50 l0 x17_1).f0),.int .i64 ((rd_T50 l0 x17_1).f1),.int .i64 ((rd_T50 l0 x17_1).f2),.slice A719_3 ((rd_T50 l0 x17_1).f3).length c719_3]] ?_;(with_reducible refine(florinlaw06_Made_cat.calls _ _ _ _ _ _ _ _ ?side1 ?side2 A10.out).mono ?_);(case side1=>repeat(first|exact((Kd.V_reads' (kfV_ gb720 HL719_3)).2.2)|(with_reducible refine Kd.C_alloc ?_ _)|(with_reducible refine Kd.C_drewN ?_ _)|(with_reducible refine Kd.C_drew ?_)));(case side2=>exact HC719_3.out);rintro e w18 ⟨rfl,hb⟩;refine⟨_,rfl,?_⟩;have n0_:=am_ (Kd.N_below (kfN_ gb720 HO_6) hb);have n1_:=am_ (Kd.V_below (kfV_ gb720 HO_15) hb);have n2_:=am_ (Kd.V_below (kfV_ gb720 HL719_3) hb);have n3_:=bz_ BK717 hb;have n4_:=am_ (Kd.C_below ((Kd.V_reads' (kfV_ gb720 HL719_3)).2.2) hb);have n5_:=am_ (blk_below (g:=gb720) (o:= .cells #[.int .i64 ((rd_T50 l0 x17_1).f0),.int .i64 ((rd_T50 l0 x17_1).f1),.int .i64 ((rd_T50 l0 x17_1).f2),.slice A719_3 ((rd_T50 l0 x17_1).f3).length c719_3] 50 (0,0)) ((bp_ BK720).out) hb);have n6_:=am_ (below_step (bl_ HB).out hb);clear HO_6;clear HO_15;clear HL719_3;clear BK717;clear HR719_3;clear BK720;clear HB;revert n0_ n1_ n2_ n3_ n4_ n5_ n6_;intro HO_6 HO_15 HL719_3 BK717 HR719_3 BK720 HB;(try clear hb);obtain⟨hcz19_0,hcz19_1,hcz19_2,hcz19_3,hcz19_4,hcz19_5,hfz19_0,hfz19_1,hfz19_2,hfz19_3,hfz19_4,hfz19_5⟩:=bo6_ BK717;have hpx20:0≤t721:=od_;have hqx20:t721<6:=od_;have hax20:=ax6_ t721 (od_) (od_);have hcx20:w18.cell? ⟨gb717,t721.toNat,none⟩=some (.bool (rdOf false [x718000_1,x718001_1,x718002_1,x718003_1,x718004_1,x718005_1] t721)):=(blk_cell BK717.out (t721.toNat)).trans (by rcases hax20 with h_|h_|h_|h_|h_|h_ <;> (rw[h_];rfl));clear hax20;(try rw[← Nbq13.out] at hcx20)))
   go_roundg k1
   case measure=>have:=HK1.out;omega
   case rel=>exact⟨(x6_1),(x7_1),(wrap64 (x17_1+1)),(x718000_1),(x718001_1),(x718002_1),(x718003_1),(x718004_1),(x718005_1),eq_,eq_,H',⟨by have:=HK1.out;omega⟩,⟨kdN_ (Kd.N_mono HO_6.out (fun _ hk=>⟨hk.1.1,hk.1.2⟩))⟩,⟨kdV_ (Kd.V_mono HO_15.out (fun _ hk=>⟨hk.1.1,⟨hk.1.2.1,hk.1.2.2⟩⟩))⟩,(bk_ BK717),(bl_ HB)⟩
  replace c14:=Bool.eq_false_iff.mpr c14
  subst c14
  rw[if_neg (show ¬(false=true) by decide)] at H
  replace H:=Option.bind_eq_some_iff.mp H
  obtain⟨t722,A210,H⟩:=H
  have A21:=am_ A210
  clear A210
  replace H:=ifn_ H
  obtain⟨c22,H⟩:=H
  have c22b0:decide (0≤t722)=true:=decide_eq_true c22
  clear c22
  replace H:=ifn_ H
  obtain⟨c23,H⟩:=H
  have c23b0:decide (t722<6)=true:=decide_eq_true c23
  clear c23
  replace H:=Option.bind_eq_some_iff.mp H
  obtain⟨⟨t723,t724,t727,t728⟩,A240,H⟩:=H
  dsimp only at H
  have A24:=am_ A240
  clear A240
  by_cases c25:(x6_1.length:Int)>0
  ·rw[if_pos c25] at H
   have c25b0:decide (0<(x6_1.length:Int))=true:=decide_eq_true c25
   have c25b1:decide (0<x6_1.length)=true:=decide_eq_true (by omega)
   clear c25
   have HC26:=am_ H
   clear H
   have p719:0≤(x17_1:Int):=od_
   have q719:x17_1<(l0.length:Int):=od_
   obtain⟨ad719,A719_3,c719_3,e719,hx719_0,hx719_1,hx719_2,hx719_3,hl719_3,hi719_3⟩:=at_T50 (Kd.V_reads' HO_15.out).2.2 x17_1 p719 q719
   cases e719
   obtain⟨ce719,hce719,hMe719,hcc719⟩:=Kd.V_get HO_15.out z50 x17_1 p719 (by first|exact q719|exact od_|(have e_:=(Kd.V_reads' HO_15.out).1;omega))
   obtain⟨ua719_3,uc719_3,rfl,ul719_3,ge719_3⟩:=k50_openF hMe719
   have hv719_3:=hcc719 3 _ rfl
   rw[add_field _ _ 3 (by omega)] at hv719_3
   replace hv719_3:=Option.some.inj (hv719_3.symm.trans hx719_3)
   injection hv719_3 with hva_ hvn_ hvc_
   rw[hva_] at ge719_3
   rw[hvc_] at ul719_3
   have HL719_3:=am_ (show Kd.V (Kd.slice 46 k46) 47 _ w.heap.size _ _ ((rd_T50 l0 x17_1).f3) from Kd.V_mk ul719_3 ge719_3)
   clear hva_ hvn_ hvc_ ge719_3 ul719_3
   clear hcc719 hce719
   have HR719_3:=am_ hi719_3
   have HC719_3:=am_ hl719_3
   clear hi719_3 hl719_3
   replace p719:=eq_true p719
   replace q719:=eq_true q719
   go_upto_region 11 with (first|((with_reducible refine gate_dst (N:=10) rfl ?_);refine be_ 10 #[.int .i64 0,.int .i64 0,.int .i64 0,.slice none 0 0] 50 ?_;intro gb720 hg w27 hbox hb;have BK720:=am_ (hbox);have GW720:=sz_ HB hg;have GE720:=sz_ HB hg;have NB717_720:=na_ BK717 hg;have NB720_717:=nb_ BK717 hg;replace HO_6:=am_ (Kd.N_below (Kd.N_elderB (krN_ HO_6) gb720 (Nat.le_of_eq hg.symm)) hb);replace HO_15:=am_ (Kd.V_below (Kd.V_elderB (krV_ HO_15) gb720 (Nat.le_of_eq hg.symm)) hb);replace HL719_3:=am_ (Kd.V_below (Kd.V_elderB (krV_ HL719_3) gb720 (Nat.le_of_eq hg.symm)) hb);replace BK717:=bb_ BK717 hb;replace HR719_3:=am_ (Kd.C_below (by repeat(first|(with_reducible exact HR719_3.out)|(with_reducible refine Kd.C_alloc ?_ _)|(with_reducible refine Kd.C_drewN ?_ _)|(with_reducible refine Kd.C_drew ?_)|exact HR719_3.out)) hb);replace HB:=am_ (below_step (bl_ HB).out hb);clear hb hbox hg;have hnb28:=NB720_717.out;have hnc28:=NB717_720.out;obtain⟨hcz29_0,hcz29_1,hcz29_2,hcz29_3,hfz29_0,hfz29_1,hfz29_2,hfz29_3⟩:=bo4_ BK720)|((with_reducible refine gate_callee (f:=27) rfl ?_);refine gl_ (some 22) Tryz.func27 #[.agg #[.int .i64 ((rd_T50 l0 x17_1).f0),.int .i64 ((rd_T50 l0 x17_1).f1),.int .i64 ((rd_T50 l0 x17_1).f2),.slice A719_3 ((rd_T50 l0 x17_1).f3).length c719_3]] ?_;(with_reducible refine(florinlaw06_Made_cat.calls _ _ _ _ _ _ _ _ ?side1 ?side2 A10.out).mono ?_);(case side1=>repeat(first|exact((Kd.V_reads' (kfV_ gb720 HL719_3)).2.2)|(with_reducible refine Kd.C_alloc ?_ _)|(with_reducible refine Kd.C_drewN ?_ _)|(with_reducible refine Kd.C_drew ?_)));(case side2=>exact HC719_3.out);rintro e w30 ⟨rfl,hb⟩;refine⟨_,rfl,?_⟩;have n0_:=am_ (Kd.N_below (kfN_ gb720 HO_6) hb);have n1_:=am_ (Kd.V_below (kfV_ gb720 HO_15) hb);have n2_:=am_ (Kd.V_below (kfV_ gb720 HL719_3) hb);have n3_:=bz_ BK717 hb;have n4_:=am_ (Kd.C_below ((Kd.V_reads' (kfV_ gb720 HL719_3)).2.2) hb);have n5_:=am_ (blk_below (g:=gb720) (o:= .cells #[.int .i64 ((rd_T50 l0 x17_1).f0),.int .i64 ((rd_T50 l0 x17_1).f1),.int .i64 ((rd_T50 l0 x17_1).f2),.slice A719_3 ((rd_T50 l0 x17_1).f3).length c719_3] 50 (0,0)) ((bp_ BK720).out) hb);have n6_:=am_ (below_step (bl_ HB).out hb);clear HO_6;clear HO_15;clear HL719_3;clear BK717;clear HR719_3;clear BK720;clear HB;revert n0_ n1_ n2_ n3_ n4_ n5_ n6_;intro HO_6 HO_15 HL719_3 BK717 HR719_3 BK720 HB;(try clear hb);obtain⟨hcz31_0,hcz31_1,hcz31_2,hcz31_3,hcz31_4,hcz31_5,hfz31_0,hfz31_1,hfz31_2,hfz31_3,hfz31_4,hfz31_5⟩:=bo6_ BK717;have hpx32:0≤t721:=od_;have hqx32:t721<6:=od_;have hax32:=ax6_ t721 (od_) (od_);have hcx32:w30.cell? ⟨gb717,t721.toNat,none⟩=some (.bool (rdOf false [x718000_1,x718001_1,x718002_1,x718003_1,x718004_1,x718005_1] t721)):=(blk_cell BK717.out (t721.toNat)).trans (by rcases hax32 with h_|h_|h_|h_|h_|h_ <;> (rw[h_];rfl));clear hax32;(try rw[← Nbq13.out] at hcx32);obtain⟨hcz33_0,hcz33_1,hcz33_2,hcz33_3,hfz33_0,hfz33_1,hfz33_2,hfz33_3⟩:=bo4_ BK720)|((with_reducible refine gate_callee (f:=27) rfl ?_);refine gl_ (some 26) Tryz.func27 #[.agg #[.int .i64 ((rd_T50 l0 x17_1).f0),.int .i64 ((rd_T50 l0 x17_1).f1),.int .i64 ((rd_T50 l0 x17_1).f2),.slice A719_3 ((rd_T50 l0 x17_1).f3).length c719_3]] ?_;(with_reducible refine(florinlaw06_Made_cat.calls _ _ _ _ _ _ _ _ ?side1 ?side2 A21.out).mono ?_);(case side1=>repeat(first|exact(by repeat(first|(with_reducible exact HR719_3.out)|(with_reducible refine Kd.C_alloc ?_ _)|(with_reducible refine Kd.C_drewN ?_ _)|(with_reducible refine Kd.C_drew ?_)|exact HR719_3.out))|(with_reducible refine Kd.C_alloc ?_ _)|(with_reducible refine Kd.C_drewN ?_ _)|(with_reducible refine Kd.C_drew ?_)));(case side2=>exact HC719_3.out);rintro e w34 ⟨rfl,hb⟩;refine⟨_,rfl,?_⟩;replace HO_6:=am_ (Kd.N_below (krN_ HO_6) hb);replace HO_15:=am_ (Kd.V_below (krV_ HO_15) hb);replace HL719_3:=am_ (Kd.V_below (krV_ HL719_3) hb);replace BK717:=bb_ BK717 hb;replace HR719_3:=am_ (Kd.C_below (by repeat(first|(with_reducible exact HR719_3.out)|(with_reducible refine Kd.C_alloc ?_ _)|(with_reducible refine Kd.C_drewN ?_ _)|(with_reducible refine Kd.C_drew ?_)|exact HR719_3.out)) hb);replace BK720:=bb_ BK720 hb;replace HB:=am_ (below_step (bl_ HB).out hb);(try clear hb);obtain⟨hcz35_0,hcz35_1,hcz35_2,hcz35_3,hcz35_4,hcz35_5,hfz35_0,hfz35_1,hfz35_2,hfz35_3,hfz35_4,hfz35_5⟩:=bo6_ BK717;have hfx36:=blk_frozen BK717.out (t722.toNat);have hqx36_0:0≤t722:=od_;have hqx36_1:t722<6:=od_;have hax36:=ax6_ t722 (od_) (od_);have hcx36:w34.cell? ⟨gb717,t722.toNat,none⟩=some (.bool (rdOf false [x718000_1,x718001_1,x718002_1,x718003_1,x718004_1,x718005_1] t722)):=(blk_cell BK717.out (t722.toNat)).trans (by rcases hax36 with h_|h_|h_|h_|h_|h_ <;> (rw[h_];rfl));clear hax36)|((with_reducible refine gate_store (t:=4) (p:=27) rfl ?_);refine store_event (t:=4) (p:=27) (v:=?vo_w37) (w1:=(w34.setCell ⟨gb717,t722.toNat,none⟩ (.bool true))) ?hg ?ho ?hn ?hr ?_;(case ho=>rfl);(case hg=>rfl);(case hn=>rfl);(case hr=>first|(go_simp;done)|(go_simp;rfl));intro w37 hw;have n0_:Aside0 (Kd.N k41 41 w37 w.heap.size (fun k_=>(P0_ k_∨w.heap.size≤k_)∧k_≠gb717∧k_≠gb720) u6 x6_1):=⟨(by rw[hw];exact(kdN_ (Kd.N_mono (Kd.N_far (Kd.N_mono HO_6.out (fun k_ hk=>(⟨hk,hk.1.2⟩:_∧k_≠gb717))) (fun _ hk=>hk.2) _) (fun _ hk=>⟨hk.1.1.1,⟨hk.1.1.2,hk.1.2⟩⟩))))⟩;have n1_:Aside0 (Kd.V k50 50 w37 w.heap.size (fun k_=>(P0_ k_∨w.heap.size≤k_)∧some k_≠(u6:Value).ownBlock∧k_≠gb717∧k_≠gb720) (.slice (some ad719) l0.length c0) l0):=⟨(by rw[hw];exact(kdV_ (Kd.V_mono (Kd.V_far (Kd.V_mono HO_15.out (fun k_ hk=>(⟨hk,hk.1.2.2⟩:_∧k_≠gb717))) (fun _ hk=>hk.2) _) (fun _ hk=>⟨hk.1.1.1,⟨hk.1.1.2.1,⟨hk.1.1.2.2,hk.1.2⟩⟩⟩))))⟩;have n2_:Aside0 (Kd.V (Kd.slice 46 k46) 47 w37 w.heap.size (fun k_=>(P0_ k_∨w.heap.size≤k_)∧some k_≠(u6:Value).ownBlock∧k_≠gb717∧k_≠gb720) (.slice A719_3 ((rd_T50 l0 x17_1).f3).length c719_3) ((rd_T50 l0 x17_1).f3)):=⟨(by rw[hw];exact(kdV_ (Kd.V_mono (Kd.V_far (Kd.V_mono HL719_3.out (fun k_ hk=>(⟨hk,hk.1.2.2⟩:_∧k_≠gb717))) (fun _ hk=>hk.2) _) (fun _ hk=>⟨hk.1.1.1,⟨hk.1.1.2.1,⟨hk.1.1.2.2,hk.1.2⟩⟩⟩))))⟩;have n3_:Aside0 (w37.heap[gb717]? = some (.cells #[.bool (if t722=0 then true else x718000_1),.bool (if t722=1 then true else x718001_1),.bool (if t722=2 then true else x718002_1),.bool (if t722=3 then true else x718003_1),.bool (if t722=4 then true else x718004_1),.bool (if t722=5 then true else x718005_1)] 74 (0,0))):=⟨(by rw[hw];exact(by (with_reducible repeat(first|refine blk_drewN ?_ _|refine blk_drew ?_|refine blk_alloc ?_ _));refine blk_put (cs:= #[.bool x718000_1,.bool x718001_1,.bool x718002_1,.bool x718003_1,.bool x718004_1,.bool x718005_1]) ?_ (t722.toNat) _ (by rcases ax6_ t722 (by assumption) (by assumption) with h_|h_|h_|h_|h_|h_ <;> (rw[h_];rfl));(with_reducible repeat(first|refine blk_drewN ?_ _|refine blk_drew ?_|refine blk_alloc ?_ _));exact BK717.out))⟩;have n4_:Aside0 (w37.heap[gb720]? = some (.cells #[.int .i64 ((rd_T50 l0 x17_1).f0),.int .i64 ((rd_T50 l0 x17_1).f1),.int .i64 ((rd_T50 l0 x17_1).f2),.slice A719_3 ((rd_T50 l0 x17_1).f3).length c719_3] 50 (0,0))):=⟨(by rw[hw];exact((bf_ BK720).out))⟩;have n5_:Aside0 (Below w.heap.size w w37):=⟨(by rw[hw];exact(bl_ HB).out)⟩;have n6_:Aside0 (Kd.C (Kd.slice 46 k46) w37 A719_3 ((rd_T50 l0 x17_1).f3).length ((rd_T50 l0 x17_1).f3)):=⟨(by rw[hw];exact((Kd.V_reads' (kdV_ ((Kd.V_mono (Kd.V_far (Kd.V_mono HL719_3.out (fun k_ hk=>(⟨hk,hk.1.2.2⟩:_∧k_≠gb717))) (fun _ hk=>hk.2) _) (fun _ h_=>h_.1))))).2.2))⟩;clear hw;clear HO_6;clear HO_15;clear HL719_3;clear BK717;clear BK720;clear HB;clear HR719_3;revert n0_ n1_ n2_ n3_ n4_ n5_ n6_;intro HO_6 HO_15 HL719_3 BK717 BK720 HB HR719_3;obtain⟨hcz38_0,hcz38_1,hcz38_2,hcz38_3,hfz38_0,hfz38_1,hfz38_2,hfz38_3⟩:=bo4_ BK720)|((with_reducible refine gate_callee (f:=28) rfl ?_);refine gl_ (some 30) Tryz.func28 #[.agg #[.int .i64 ((rd_T50 l0 x17_1).f0),.int .i64 ((rd_T50 l0 x17_1).f1),.int .i64 ((rd_T50 l0 x17_1).f2),.slice A719_3 ((rd_T50 l0 x17_1).f3).length c719_3]] ?_;(with_reducible refine(florinlaw06_Made_Write.calls k1 ((rd_T50 l0 x17_1).f0) ((rd_T50 l0 x17_1).f1) ((rd_T50 l0 x17_1).f2) (fun k_=>((P0_ k_∨w.heap.size≤k_)∧(some k_≠(u6:Value).ownBlock∧(k_≠gb717∧k_≠gb720)))) _ _ ((rd_T50 l0 x17_1).f3) t723 t724 t727 t728 _ ?side1 A24.out).mono ?_);(case side1=>exact HL719_3.out);rintro e w39 ⟨v725,rfl,ho0,hb⟩;refine⟨_,rfl,?_⟩;have n0_:=am_ (Kd.N_elder' (krN_ HO_6) (Kd.N_base ho0) hb);have n1_:=am_ (Kd.V_elder' (krV_ HO_15) (Kd.N_base ho0) hb);have n2_:=am_ (Kd.V_elder' (krV_ HL719_3) (Kd.N_base ho0) hb);have n3_:=am_ (Kd.N_lower (Kd.N_mono (ok':=fun k_=>(P0_ k_∨w.heap.size≤k_)∧some k_≠(u6:Value).ownBlock∧k_≠gb717∧k_≠gb720) ho0 (fun k_ hk_=>⟨Or.elim hk_ (fun hs_=>hs_.1) (fun hn_=>(.inr (Nat.le_trans (below_size (bl_ HB).out) hn_))),Or.elim hk_ (fun hs_=>hs_.2.1) (fun hn_=>(Kd.fresh' (Kd.N_lt (krN_ HO_6)) k_ hn_)),Or.elim hk_ (fun hs_=>hs_.2.2.1) (fun hn_=>(Kd.freshB (bk_ BK717).out k_ hn_)),Or.elim hk_ (fun hs_=>hs_.2.2.2) (fun hn_=>(Kd.freshB (bk_ BK720).out k_ hn_))⟩)) (below_size (bl_ HB).out));have n4_:=bb_ BK717 hb;have n5_:=am_ (Kd.C_below (by repeat(first|(with_reducible exact HR719_3.out)|(with_reducible refine Kd.C_alloc ?_ _)|(with_reducible refine Kd.C_drewN ?_ _)|(with_reducible refine Kd.C_drew ?_)|exact HR719_3.out)) hb);have n6_:=bb_ BK720 hb;have n7_:=am_ (below_step (bl_ HB).out hb);clear HO_6;clear HO_15;clear HL719_3;clear BK717;clear HR719_3;clear BK720;clear HB;revert n0_ n1_ n2_ n3_ n4_ n5_ n6_ n7_;intro HO_6 HO_15 HL719_3 HO726 BK717 HR719_3 BK720 HB;(try clear hb);(try clear ho0))|((with_reducible refine gate_dst (N:=11) rfl ?_);refine be_ 11 #[.int .i64 0,.slice none 0 0,.string (⟨#[]⟩:ByteArray)] 41 ?_;intro gb729 hg w40 hbox hb;have BK729:=am_ (hbox);have GW729:=sz_ HB hg;have GE729:=sz_ HB hg;have NB717_729:=na_ BK717 hg;have NB729_717:=nb_ BK717 hg;have NB720_729:=na_ BK720 hg;have NB729_720:=nb_ BK720 hg;replace HO_6:=am_ (Kd.N_below (Kd.N_elderB (krN_ HO_6) gb729 (Nat.le_of_eq hg.symm)) hb);replace HO_15:=am_ (Kd.V_below (Kd.V_elderB (krV_ HO_15) gb729 (Nat.le_of_eq hg.symm)) hb);replace HL719_3:=am_ (Kd.V_below (Kd.V_elderB (krV_ HL719_3) gb729 (Nat.le_of_eq hg.symm)) hb);replace HO726:=am_ (Kd.N_below (Kd.N_elderB (krN_ HO726) gb729 (Nat.le_of_eq hg.symm)) hb);replace BK717:=bb_ BK717 hb;replace HR719_3:=am_ (Kd.C_below (by repeat(first|(with_reducible exact HR719_3.out)|(with_reducible refine Kd.C_alloc ?_ _)|(with_reducible refine Kd.C_drewN ?_ _)|(with_reducible refine Kd.C_drew ?_)|exact HR719_3.out)) hb);replace BK720:=bb_ BK720 hb;replace HB:=am_ (below_step (bl_ HB).out hb);clear hb hbox hg;have hnb41:=NB729_717.out;have hnc41:=NB717_729.out;have hnb42:=NB729_720.out;have hnc42:=NB720_729.out;obtain⟨hcz43_0,hcz43_1,hcz43_2,hfz43_0,hfz43_1,hfz43_2⟩:=bo3_ BK729;obtain⟨Ao44,co44,eo44⟩:=Kd.N_slice HO726.out;subst eo44;obtain⟨Ao45,co45,eo45⟩:=Kd.N_slice HO_6.out;subst eo45))
   (try simp only[Act.put,List.setIfInBounds_toArray,List.set_cons_zero,List.set_cons_succ])
   go_cut [7] (fun v7 wc=>∃(kq:Nat) (x7_25:ByteArray),v7= .string x7_25∧Aside0 (florinlaw06_All.j1 kq a1 x6_1 x7_25 t728 l0 (l0.length:Int) x17_1 (if t722=0 then true else x718000_1) (if t722=1 then true else x718001_1) (if t722=2 then true else x718002_1) (if t722=3 then true else x718003_1) (if t722=4 then true else x718004_1) (if t722=5 then true else x718005_1) t723 t724 t727=some (r1,r2))∧Aside0 (kq≤k1)∧Aside0 (Kd.N k41 41 wc w.heap.size (fun k_=>(P0_ k_∨w.heap.size≤k_)∧some k_≠((.slice Ao44 t724.length co44):Value).ownBlock∧k_≠gb717∧k_≠gb720∧k_≠gb729) (.slice Ao45 x6_1.length co45) x6_1)∧Aside0 (Kd.V k50 50 wc w.heap.size (fun k_=>(P0_ k_∨w.heap.size≤k_)∧some k_≠((.slice Ao45 x6_1.length co45):Value).ownBlock∧some k_≠((.slice Ao44 t724.length co44):Value).ownBlock∧k_≠gb717∧k_≠gb720∧k_≠gb729) (.slice (some ad719) l0.length c0) l0)∧Aside0 (Kd.V (Kd.slice 46 k46) 47 wc w.heap.size (fun k_=>(P0_ k_∨w.heap.size≤k_)∧some k_≠((.slice Ao45 x6_1.length co45):Value).ownBlock∧some k_≠((.slice Ao44 t724.length co44):Value).ownBlock∧k_≠gb717∧k_≠gb720∧k_≠gb729) (.slice A719_3 ((rd_T50 l0 x17_1).f3).length c719_3) ((rd_T50 l0 x17_1).f3))∧Aside0 (Kd.N (Kd.slice 53 k53) 54 wc w.heap.size (fun k_=>(P0_ k_∨w.heap.size≤k_)∧some k_≠((.slice Ao45 x6_1.length co45):Value).ownBlock∧k_≠gb717∧k_≠gb720∧k_≠gb729) (.slice Ao44 t724.length co44) t724)∧Aside0 (wc.heap[gb717]? = some (.cells #[.bool (if t722=0 then true else x718000_1),.bool (if t722=1 then true else x718001_1),.bool (if t722=2 then true else x718002_1),.bool (if t722=3 then true else x718003_1),.bool (if t722=4 then true else x718004_1),.bool (if t722=5 then true else x718005_1)] 74 (0,0)))∧Aside0 (wc.heap[gb720]? = some (.cells #[.int .i64 ((rd_T50 l0 x17_1).f0),.int .i64 ((rd_T50 l0 x17_1).f1),.int .i64 ((rd_T50 l0 x17_1).f2),(.slice A719_3 ((rd_T50 l0 x17_1).f3).length c719_3)] 50 (0,0)))∧Aside0 (wc.heap[gb729]? = some (.cells #[.int .i64 t723,(.slice Ao44 t724.length co44),.string t727] 41 (0,0)))∧Aside0 (Kd.C (Kd.slice 46 k46) wc A719_3 ((rd_T50 l0 x17_1).f3).length ((rd_T50 l0 x17_1).f3))∧Aside0 (Below w.heap.size w wc))
   case first =>
    have H:=HC26.out
    clear HC26
    replace H:=ifn_ H
    obtain⟨c46,H⟩:=H
    have c46b0:=eq_true c46
    have c46b1:decide (x7_1.size+1≤9223372036854775807)=true:=decide_eq_true c46
    try have c46b2:=eq_false (Nat.not_lt.2 c46)
    have H':=am_ H
    clear H
    go_wp2
    go_meet
    case rel=>exact⟨_,(x7_1++(⟨#[59]⟩:ByteArray)),eq_,H',⟨by have:=HK1.out;first|omega|exact Nat.le_refl _⟩,⟨kdN_ (Kd.N_mono (Kd.N_far (Kd.N_far (Kd.N_far (Kd.N_mono HO_6.out (fun k_ hk=>(⟨hk,hk.2⟩:_∧k_≠gb729))) (fun _ hk=>hk.2) _) (fun _ hk=>hk.2) _) (fun _ hk=>hk.2) _) (fun _ hk=>⟨hk.1.1.1.1,⟨hk.1.1.2,⟨hk.1.1.1.2.1,⟨hk.1.1.1.2.2,hk.1.2⟩⟩⟩⟩))⟩,⟨kdV_ (Kd.V_mono (Kd.V_far (Kd.V_far (Kd.V_far (Kd.V_mono HO_15.out (fun k_ hk=>(⟨hk,hk.2⟩:_∧k_≠gb729))) (fun _ hk=>hk.2) _) (fun _ hk=>hk.2) _) (fun _ hk=>hk.2) _) (fun _ hk=>⟨hk.1.1.1.1,⟨hk.1.1.1.2.1,⟨hk.1.1.2,⟨hk.1.1.1.2.2.1,⟨hk.1.1.1.2.2.2,hk.1.2⟩⟩⟩⟩⟩))⟩,⟨kdV_ (Kd.V_mono (Kd.V_far (Kd.V_far (Kd.V_far (Kd.V_mono HL719_3.out (fun k_ hk=>(⟨hk,hk.2⟩:_∧k_≠gb729))) (fun _ hk=>hk.2) _) (fun _ hk=>hk.2) _) (fun _ hk=>hk.2) _) (fun _ hk=>⟨hk.1.1.1.1,⟨hk.1.1.1.2.1,⟨hk.1.1.2,⟨hk.1.1.1.2.2.1,⟨hk.1.1.1.2.2.2,hk.1.2⟩⟩⟩⟩⟩))⟩,⟨kdN_ (Kd.N_mono (Kd.N_far (Kd.N_far (Kd.N_far (Kd.N_mono HO726.out (fun k_ hk=>(⟨hk,hk.2⟩:_∧k_≠gb729))) (fun _ hk=>hk.2) _) (fun _ hk=>hk.2) _) (fun _ hk=>hk.2) _) (fun _ hk=>⟨hk.1.1.1,⟨hk.1.1.2.1,⟨hk.1.1.2.2.1,⟨hk.1.1.2.2.2,hk.1.2⟩⟩⟩⟩))⟩,⟨(bf_ BK717).out⟩,⟨(bf_ BK720).out⟩,⟨(bp_ BK729).out⟩,⟨(Kd.V_reads' (kfV_ gb729 HL719_3)).2.2⟩,(bl_ HB)⟩
   clear HC26
   obtain⟨kq,x7_25,rfl,HA,HJ25,HO_6,HO_15,HO_721003,HO_730001,BK717,BK720,BK729,HR719_3,HB⟩:=hcut
   cases kq with
   | zero=>exact absurd HA.out (by simp[florinlaw06_All.j1])
   | succ kj25=>?_
   have H:=HA.out
   clear HA
   simp only[florinlaw06_All.j1] at H
   replace H:=ifn_ H
   obtain⟨c47,H⟩:=H
   have LMc47:=am_ c47
   clear c47
   obtain⟨y730,hy730⟩:∃y_:List (S41),y_=(x6_1++[(⟨t723,t724,t727⟩:S41)]):=⟨_,rfl⟩
   replace H:(if x7_25.size+t728.size≤9223372036854775807 then (florinlaw06_All.l0 kj25 a1 y730 (x7_25++t728) l0 (l0.length:Int) (wrap64 (x17_1+1)) (if t722=0 then true else x718000_1) (if t722=1 then true else x718001_1) (if t722=2 then true else x718002_1) (if t722=3 then true else x718003_1) (if t722=4 then true else x718004_1) (if t722=5 then true else x718005_1)) else (none))=some (r1,r2):=by first|(rw[hy730];with_reducible exact H)|(have H2_:=(Option.bind_some _ _).symm.trans H;rw[hy730];with_reducible exact H2_)|(have H2_:=(Option.bind_some _ _).symm.trans H;with_reducible exact H2_)|with_reducible exact H|(rw[hy730];exact H)|exact H
   have Ny730:=am_ hy730
   clear hy730
   replace H:=ifn_ H
   obtain⟨c48,H⟩:=H
   have c48b0:=eq_true c48
   have c48b1:decide (x7_25.size+t728.size≤9223372036854775807)=true:=decide_eq_true c48
   try have c48b2:=eq_false (Nat.not_lt.2 c48)
   have H':=am_ H
   clear H
   have hnb49:=NB729_717.out
   have hnc49:=NB717_729.out
   have hnb50:=NB729_720.out
   have hnc50:=NB720_729.out
   obtain⟨hcz51_0,hcz51_1,hcz51_2,hfz51_0,hfz51_1,hfz51_2⟩:=bo3_ BK729
   go_wp2_with (first|((with_reducible refine gate_builtin (b:= .append) (xs:= #[.tmp 38,.tmp 40]) rfl ?_);at_builtin;refine Kd.N_append k41 (w0:=w) w.heap.size rfl (.tmp 38) (.tmp 40) 33 41 (.agg #[(.int .i64 0),(.slice none 0 0),(.string ⟨#[]⟩)]) 48 rfl Tryz.underlying33 info41 rfl (by decide) (by omega) (.slice Ao45 x6_1.length co45) x6_1 (⟨t723,t724,t727⟩:S41) [.int .i64 t723,.slice Ao44 t724.length co44,.string t727] (fun k_=>(P0_ k_∨w.heap.size≤k_)∧k_≠gb717∧k_≠gb720∧k_≠gb729) (fun k_=>((fun k_=>(P0_ k_∨w.heap.size≤k_)∧k_≠gb717∧k_≠gb720∧k_≠gb729)) k_∧some k_≠(.slice Ao45 x6_1.length co45:Value).ownBlock) rfl rfl ?aP (fun _ hk=>hk) ?aF ?aO ?aB ?aS ?aL ?_;(case aP=>exact(k41_mkF _ _ (⟨t723,t724,t727⟩:S41) (Kd.N_reads' (Kd.N_mono (ok':=(fun k_=>((fun k_=>(P0_ k_∨w.heap.size≤k_)∧k_≠gb717∧k_≠gb720∧k_≠gb729)) k_∧some k_≠(.slice Ao45 x6_1.length co45:Value).ownBlock)) (HO_730001.out) (fun k_ hk=>⟨⟨hk.1,⟨hk.2.2.1,⟨hk.2.2.2.1,hk.2.2.2.2⟩⟩⟩,hk.2.1⟩))).2.1 (Kd.N_F (Kd.N_mono (ok':=(fun k_=>((fun k_=>(P0_ k_∨w.heap.size≤k_)∧k_≠gb717∧k_≠gb720∧k_≠gb729)) k_∧some k_≠(.slice Ao45 x6_1.length co45:Value).ownBlock)) (HO_730001.out) (fun k_ hk=>⟨⟨hk.1,⟨hk.2.2.1,⟨hk.2.2.2.1,hk.2.2.2.2⟩⟩⟩,hk.2.1⟩)))));(case aB=>exact(bl_ HB).out);(case aF=>exact(fun k_ hk=>⟨(.inr (Nat.le_trans (below_size (bl_ HB).out) hk)),Kd.freshB (bk_ BK717).out k_ hk,Kd.freshB (bk_ BK720).out k_ hk,Kd.freshB (bk_ BK729).out k_ hk⟩));(case aO=>exact(kdN_ (Kd.N_mono HO_6.out (fun _ hk=>⟨hk.1,⟨hk.2.2.1,⟨hk.2.2.2.1,hk.2.2.2.2⟩⟩⟩))));(case aS=>exact(below_size (bl_ HB).out));(case aL=>have:=LMc47.out;omega);intro v731 w52 ho hb hg hat;rw[← Ny730.out] at ho;have n0_:=am_ (Kd.V_afterv (ok:=(fun k_=>(P0_ k_∨w.heap.size≤k_)∧some k_≠(.slice Ao44 t724.length co44:Value).ownBlock∧k_≠gb717∧k_≠gb720∧k_≠gb729)) (kdV_ (Kd.V_mono HO_15.out (fun _ hk=>⟨⟨hk.1,⟨hk.2.2.1,⟨hk.2.2.2.1,⟨hk.2.2.2.2.1,hk.2.2.2.2.2⟩⟩⟩⟩,hk.2.1⟩))) hg hat);have n1_:=am_ (Kd.V_afterv (ok:=(fun k_=>(P0_ k_∨w.heap.size≤k_)∧some k_≠(.slice Ao44 t724.length co44:Value).ownBlock∧k_≠gb717∧k_≠gb720∧k_≠gb729)) (kdV_ (Kd.V_mono HO_721003.out (fun _ hk=>⟨⟨hk.1,⟨hk.2.2.1,⟨hk.2.2.2.1,⟨hk.2.2.2.2.1,hk.2.2.2.2.2⟩⟩⟩⟩,hk.2.1⟩))) hg hat);have n2_:=am_ (blk_grown (bk_ BK717).out hg (Kd.N_ne HO_6.out BK717.out (by decide)));have n3_:=am_ (blk_grown (bk_ BK720).out hg (Kd.N_ne HO_6.out BK720.out (by decide)));have n4_:=am_ (blk_grown (bk_ BK729).out hg (Kd.N_away HO_6.out (fun _ hk=>hk.2.2.2.2)));have n5_:=am_ (hb);have n6_:=am_ (ho);clear HO_15;clear HO_721003;clear BK717;clear BK720;clear BK729;clear HB;clear HO_6;clear HO_730001;revert n0_ n1_ n2_ n3_ n4_ n5_ n6_;intro HO_15 HO_721003 BK717 BK720 BK729 HB HO732;clear ho hb hg hat))
   go_roundg kj25
   case measure=>have:=HK1.out;have:=HJ25.out;omega
   case rel=>exact⟨(y730),(x7_25++t728),(wrap64 (x17_1+1)),((if t722=0 then true else x718000_1)),((if t722=1 then true else x718001_1)),((if t722=2 then true else x718002_1)),((if t722=3 then true else x718003_1)),((if t722=4 then true else x718004_1)),((if t722=5 then true else x718005_1)),eq_,eq_,H',⟨by have:=HK1.out;have:=HJ25.out;omega⟩,⟨kdN_ (Kd.N_mono HO732.out (fun _ hk=>⟨hk.1,hk.2.1⟩))⟩,⟨kdV_ (Kd.V_mono HO_15.out (fun _ hk=>⟨hk.1.1,⟨hk.2,hk.1.2.2.1⟩⟩))⟩,(bk_ BK717),(bl_ HB)⟩
  rw[if_neg c25] at H
  have c25b0:decide (0<(x6_1.length:Int))=false:=decide_eq_false c25
  have c25b1:decide (0<x6_1.length)=false:=decide_eq_false (by omega)
  clear c25
  replace H:=ifn_ H
  obtain⟨c53,H⟩:=H
  have LMc53:=am_ c53
  clear c53
  obtain⟨y733,hy733⟩:∃y_:List (S41),y_=(x6_1++[(⟨t723,t724,t727⟩:S41)]):=⟨_,rfl⟩
  replace H:(if x7_1.size+t728.size≤9223372036854775807 then (florinlaw06_All.l0 k1 a1 y733 (x7_1++t728) l0 (l0.length:Int) (wrap64 (x17_1+1)) (if t722=0 then true else x718000_1) (if t722=1 then true else x718001_1) (if t722=2 then true else x718002_1) (if t722=3 then true else x718003_1) (if t722=4 then true else x718004_1) (if t722=5 then true else x718005_1)) else (none))=some (r1,r2):=by first|(rw[hy733];with_reducible exact H)|(have H2_:=(Option.bind_some _ _).symm.trans H;rw[hy733];with_reducible exact H2_)|(have H2_:=(Option.bind_some _ _).symm.trans H;with_reducible exact H2_)|with_reducible exact H|(rw[hy733];exact H)|exact H
  have Ny733:=am_ hy733
  clear hy733
  replace H:=ifn_ H
  obtain⟨c54,H⟩:=H
  have c54b0:=eq_true c54
  have c54b1:decide (x7_1.size+t728.size≤9223372036854775807)=true:=decide_eq_true c54
  try have c54b2:=eq_false (Nat.not_lt.2 c54)
  have H':=am_ H
  clear H
  have p719:0≤(x17_1:Int):=od_
  have q719:x17_1<(l0.length:Int):=od_
  obtain⟨ad719,A719_3,c719_3,e719,hx719_0,hx719_1,hx719_2,hx719_3,hl719_3,hi719_3⟩:=at_T50 (Kd.V_reads' HO_15.out).2.2 x17_1 p719 q719
  cases e719
  obtain⟨ce719,hce719,hMe719,hcc719⟩:=Kd.V_get HO_15.out z50 x17_1 p719 (by first|exact q719|exact od_|(have e_:=(Kd.V_reads' HO_15.out).1;omega))
  obtain⟨ua719_3,uc719_3,rfl,ul719_3,ge719_3⟩:=k50_openF hMe719
  have hv719_3:=hcc719 3 _ rfl
  rw[add_field _ _ 3 (by omega)] at hv719_3
  replace hv719_3:=Option.some.inj (hv719_3.symm.trans hx719_3)
  injection hv719_3 with hva_ hvn_ hvc_
  rw[hva_] at ge719_3
  rw[hvc_] at ul719_3
  have HL719_3:=am_ (show Kd.V (Kd.slice 46 k46) 47 _ w.heap.size _ _ ((rd_T50 l0 x17_1).f3) from Kd.V_mk ul719_3 ge719_3)
  clear hva_ hvn_ hvc_ ge719_3 ul719_3
  clear hcc719 hce719
  have HR719_3:=am_ hi719_3
  have HC719_3:=am_ hl719_3
  clear hi719_3 hl719_3
  replace p719:=eq_true p719
  replace q719:=eq_true q719
  go_wp2_with (first|((with_reducible refine gate_dst (N:=10) rfl ?_);refine be_ 10 #[.int .i64 0,.int .i64 0,.int .i64 0,.slice none 0 0] 50 ?_;intro gb720 hg w55 hbox hb;have BK720:=am_ (hbox);have GW720:=sz_ HB hg;have GE720:=sz_ HB hg;have NB717_720:=na_ BK717 hg;have NB720_717:=nb_ BK717 hg;replace HO_6:=am_ (Kd.N_below (Kd.N_elderB (krN_ HO_6) gb720 (Nat.le_of_eq hg.symm)) hb);replace HO_15:=am_ (Kd.V_below (Kd.V_elderB (krV_ HO_15) gb720 (Nat.le_of_eq hg.symm)) hb);replace HL719_3:=am_ (Kd.V_below (Kd.V_elderB (krV_ HL719_3) gb720 (Nat.le_of_eq hg.symm)) hb);replace BK717:=bb_ BK717 hb;replace HR719_3:=am_ (Kd.C_below (by repeat(first|(with_reducible exact HR719_3.out)|(with_reducible refine Kd.C_alloc ?_ _)|(with_reducible refine Kd.C_drewN ?_ _)|(with_reducible refine Kd.C_drew ?_)|exact HR719_3.out)) hb);replace HB:=am_ (below_step (bl_ HB).out hb);clear hb hbox hg;have hnb56:=NB720_717.out;have hnc56:=NB717_720.out;obtain⟨hcz57_0,hcz57_1,hcz57_2,hcz57_3,hfz57_0,hfz57_1,hfz57_2,hfz57_3⟩:=bo4_ BK720)|((with_reducible refine gate_callee (f:=27) rfl ?_);refine gl_ (some 22) Tryz.func27 #[.agg #[.int .i64 ((rd_T50 l0 x17_1).f0),.int .i64 ((rd_T50 l0 x17_1).f1),.int .i64 ((rd_T50 l0 x17_1).f2),.slice A719_3 ((rd_T50 l0 x17_1).f3).length c719_3]] ?_;(with_reducible refine(florinlaw06_Made_cat.calls _ _ _ _ _ _ _ _ ?side1 ?side2 A10.out).mono ?_);(case side1=>repeat(first|exact((Kd.V_reads' (kfV_ gb720 HL719_3)).2.2)|(with_reducible refine Kd.C_alloc ?_ _)|(with_reducible refine Kd.C_drewN ?_ _)|(with_reducible refine Kd.C_drew ?_)));(case side2=>exact HC719_3.out);rintro e w58 ⟨rfl,hb⟩;refine⟨_,rfl,?_⟩;have n0_:=am_ (Kd.N_below (kfN_ gb720 HO_6) hb);have n1_:=am_ (Kd.V_below (kfV_ gb720 HO_15) hb);have n2_:=am_ (Kd.V_below (kfV_ gb720 HL719_3) hb);have n3_:=bz_ BK717 hb;have n4_:=am_ (Kd.C_below ((Kd.V_reads' (kfV_ gb720 HL719_3)).2.2) hb);have n5_:=am_ (blk_below (g:=gb720) (o:= .cells #[.int .i64 ((rd_T50 l0 x17_1).f0),.int .i64 ((rd_T50 l0 x17_1).f1),.int .i64 ((rd_T50 l0 x17_1).f2),.slice A719_3 ((rd_T50 l0 x17_1).f3).length c719_3] 50 (0,0)) ((bp_ BK720).out) hb);have n6_:=am_ (below_step (bl_ HB).out hb);clear HO_6;clear HO_15;clear HL719_3;clear BK717;clear HR719_3;clear BK720;clear HB;revert n0_ n1_ n2_ n3_ n4_ n5_ n6_;intro HO_6 HO_15 HL719_3 BK717 HR719_3 BK720 HB;(try clear hb);obtain⟨hcz59_0,hcz59_1,hcz59_2,hcz59_3,hcz59_4,hcz59_5,hfz59_0,hfz59_1,hfz59_2,hfz59_3,hfz59_4,hfz59_5⟩:=bo6_ BK717;have hpx60:0≤t721:=od_;have hqx60:t721<6:=od_;have hax60:=ax6_ t721 (od_) (od_);have hcx60:w58.cell? ⟨gb717,t721.toNat,none⟩=some (.bool (rdOf false [x718000_1,x718001_1,x718002_1,x718003_1,x718004_1,x718005_1] t721)):=(blk_cell BK717.out (t721.toNat)).trans (by rcases hax60 with h_|h_|h_|h_|h_|h_ <;> (rw[h_];rfl));clear hax60;(try rw[← Nbq13.out] at hcx60);obtain⟨hcz61_0,hcz61_1,hcz61_2,hcz61_3,hfz61_0,hfz61_1,hfz61_2,hfz61_3⟩:=bo4_ BK720)|((with_reducible refine gate_callee (f:=27) rfl ?_);refine gl_ (some 26) Tryz.func27 #[.agg #[.int .i64 ((rd_T50 l0 x17_1).f0),.int .i64 ((rd_T50 l0 x17_1).f1),.int .i64 ((rd_T50 l0 x17_1).f2),.slice A719_3 ((rd_T50 l0 x17_1).f3).length c719_3]] ?_;(with_reducible refine(florinlaw06_Made_cat.calls _ _ _ _ _ _ _ _ ?side1 ?side2 A21.out).mono ?_);(case side1=>repeat(first|exact(by repeat(first|(with_reducible exact HR719_3.out)|(with_reducible refine Kd.C_alloc ?_ _)|(with_reducible refine Kd.C_drewN ?_ _)|(with_reducible refine Kd.C_drew ?_)|exact HR719_3.out))|(with_reducible refine Kd.C_alloc ?_ _)|(with_reducible refine Kd.C_drewN ?_ _)|(with_reducible refine Kd.C_drew ?_)));(case side2=>exact HC719_3.out);rintro e w62 ⟨rfl,hb⟩;refine⟨_,rfl,?_⟩;replace HO_6:=am_ (Kd.N_below (krN_ HO_6) hb);replace HO_15:=am_ (Kd.V_below (krV_ HO_15) hb);replace HL719_3:=am_ (Kd.V_below (krV_ HL719_3) hb);replace BK717:=bb_ BK717 hb;replace HR719_3:=am_ (Kd.C_below (by repeat(first|(with_reducible exact HR719_3.out)|(with_reducible refine Kd.C_alloc ?_ _)|(with_reducible refine Kd.C_drewN ?_ _)|(with_reducible refine Kd.C_drew ?_)|exact HR719_3.out)) hb);replace BK720:=bb_ BK720 hb;replace HB:=am_ (below_step (bl_ HB).out hb);(try clear hb);obtain⟨hcz63_0,hcz63_1,hcz63_2,hcz63_3,hcz63_4,hcz63_5,hfz63_0,hfz63_1,hfz63_2,hfz63_3,hfz63_4,hfz63_5⟩:=bo6_ BK717;have hfx64:=blk_frozen BK717.out (t722.toNat);have hqx64_0:0≤t722:=od_;have hqx64_1:t722<6:=od_;have hax64:=ax6_ t722 (od_) (od_);have hcx64:w62.cell? ⟨gb717,t722.toNat,none⟩=some (.bool (rdOf false [x718000_1,x718001_1,x718002_1,x718003_1,x718004_1,x718005_1] t722)):=(blk_cell BK717.out (t722.toNat)).trans (by rcases hax64 with h_|h_|h_|h_|h_|h_ <;> (rw[h_];rfl));clear hax64)|((with_reducible refine gate_store (t:=4) (p:=27) rfl ?_);refine store_event (t:=4) (p:=27) (v:=?vo_w65) (w1:=(w62.setCell ⟨gb717,t722.toNat,none⟩ (.bool true))) ?hg ?ho ?hn ?hr ?_;(case ho=>rfl);(case hg=>rfl);(case hn=>rfl);(case hr=>first|(go_simp;done)|(go_simp;rfl));intro w65 hw;have n0_:Aside0 (Kd.N k41 41 w65 w.heap.size (fun k_=>(P0_ k_∨w.heap.size≤k_)∧k_≠gb717∧k_≠gb720) u6 x6_1):=⟨(by rw[hw];exact(kdN_ (Kd.N_mono (Kd.N_far (Kd.N_mono HO_6.out (fun k_ hk=>(⟨hk,hk.1.2⟩:_∧k_≠gb717))) (fun _ hk=>hk.2) _) (fun _ hk=>⟨hk.1.1.1,⟨hk.1.1.2,hk.1.2⟩⟩))))⟩;have n1_:Aside0 (Kd.V k50 50 w65 w.heap.size (fun k_=>(P0_ k_∨w.heap.size≤k_)∧some k_≠(u6:Value).ownBlock∧k_≠gb717∧k_≠gb720) (.slice (some ad719) l0.length c0) l0):=⟨(by rw[hw];exact(kdV_ (Kd.V_mono (Kd.V_far (Kd.V_mono HO_15.out (fun k_ hk=>(⟨hk,hk.1.2.2⟩:_∧k_≠gb717))) (fun _ hk=>hk.2) _) (fun _ hk=>⟨hk.1.1.1,⟨hk.1.1.2.1,⟨hk.1.1.2.2,hk.1.2⟩⟩⟩))))⟩;have n2_:Aside0 (Kd.V (Kd.slice 46 k46) 47 w65 w.heap.size (fun k_=>(P0_ k_∨w.heap.size≤k_)∧some k_≠(u6:Value).ownBlock∧k_≠gb717∧k_≠gb720) (.slice A719_3 ((rd_T50 l0 x17_1).f3).length c719_3) ((rd_T50 l0 x17_1).f3)):=⟨(by rw[hw];exact(kdV_ (Kd.V_mono (Kd.V_far (Kd.V_mono HL719_3.out (fun k_ hk=>(⟨hk,hk.1.2.2⟩:_∧k_≠gb717))) (fun _ hk=>hk.2) _) (fun _ hk=>⟨hk.1.1.1,⟨hk.1.1.2.1,⟨hk.1.1.2.2,hk.1.2⟩⟩⟩))))⟩;have n3_:Aside0 (w65.heap[gb717]? = some (.cells #[.bool (if t722=0 then true else x718000_1),.bool (if t722=1 then true else x718001_1),.bool (if t722=2 then true else x718002_1),.bool (if t722=3 then true else x718003_1),.bool (if t722=4 then true else x718004_1),.bool (if t722=5 then true else x718005_1)] 74 (0,0))):=⟨(by rw[hw];exact(by (with_reducible repeat(first|refine blk_drewN ?_ _|refine blk_drew ?_|refine blk_alloc ?_ _));refine blk_put (cs:= #[.bool x718000_1,.bool x718001_1,.bool x718002_1,.bool x718003_1,.bool x718004_1,.bool x718005_1]) ?_ (t722.toNat) _ (by rcases ax6_ t722 (by assumption) (by assumption) with h_|h_|h_|h_|h_|h_ <;> (rw[h_];rfl));(with_reducible repeat(first|refine blk_drewN ?_ _|refine blk_drew ?_|refine blk_alloc ?_ _));exact BK717.out))⟩;have n4_:Aside0 (w65.heap[gb720]? = some (.cells #[.int .i64 ((rd_T50 l0 x17_1).f0),.int .i64 ((rd_T50 l0 x17_1).f1),.int .i64 ((rd_T50 l0 x17_1).f2),.slice A719_3 ((rd_T50 l0 x17_1).f3).length c719_3] 50 (0,0))):=⟨(by rw[hw];exact((bf_ BK720).out))⟩;have n5_:Aside0 (Below w.heap.size w w65):=⟨(by rw[hw];exact(bl_ HB).out)⟩;have n6_:Aside0 (Kd.C (Kd.slice 46 k46) w65 A719_3 ((rd_T50 l0 x17_1).f3).length ((rd_T50 l0 x17_1).f3)):=⟨(by rw[hw];exact((Kd.V_reads' (kdV_ ((Kd.V_mono (Kd.V_far (Kd.V_mono HL719_3.out (fun k_ hk=>(⟨hk,hk.1.2.2⟩:_∧k_≠gb717))) (fun _ hk=>hk.2) _) (fun _ h_=>h_.1))))).2.2))⟩;clear hw;clear HO_6;clear HO_15;clear HL719_3;clear BK717;clear BK720;clear HB;clear HR719_3;revert n0_ n1_ n2_ n3_ n4_ n5_ n6_;intro HO_6 HO_15 HL719_3 BK717 BK720 HB HR719_3;obtain⟨hcz66_0,hcz66_1,hcz66_2,hcz66_3,hfz66_0,hfz66_1,hfz66_2,hfz66_3⟩:=bo4_ BK720)|((with_reducible refine gate_callee (f:=28) rfl ?_);refine gl_ (some 30) Tryz.func28 #[.agg #[.int .i64 ((rd_T50 l0 x17_1).f0),.int .i64 ((rd_T50 l0 x17_1).f1),.int .i64 ((rd_T50 l0 x17_1).f2),.slice A719_3 ((rd_T50 l0 x17_1).f3).length c719_3]] ?_;(with_reducible refine(florinlaw06_Made_Write.calls k1 ((rd_T50 l0 x17_1).f0) ((rd_T50 l0 x17_1).f1) ((rd_T50 l0 x17_1).f2) (fun k_=>((P0_ k_∨w.heap.size≤k_)∧(some k_≠(u6:Value).ownBlock∧(k_≠gb717∧k_≠gb720)))) _ _ ((rd_T50 l0 x17_1).f3) t723 t724 t727 t728 _ ?side1 A24.out).mono ?_);(case side1=>exact HL719_3.out);rintro e w67 ⟨v725,rfl,ho0,hb⟩;refine⟨_,rfl,?_⟩;have n0_:=am_ (Kd.N_elder' (krN_ HO_6) (Kd.N_base ho0) hb);have n1_:=am_ (Kd.V_elder' (krV_ HO_15) (Kd.N_base ho0) hb);have n2_:=am_ (Kd.V_elder' (krV_ HL719_3) (Kd.N_base ho0) hb);have n3_:=am_ (Kd.N_lower (Kd.N_mono (ok':=fun k_=>(P0_ k_∨w.heap.size≤k_)∧some k_≠(u6:Value).ownBlock∧k_≠gb717∧k_≠gb720) ho0 (fun k_ hk_=>⟨Or.elim hk_ (fun hs_=>hs_.1) (fun hn_=>(.inr (Nat.le_trans (below_size (bl_ HB).out) hn_))),Or.elim hk_ (fun hs_=>hs_.2.1) (fun hn_=>(Kd.fresh' (Kd.N_lt (krN_ HO_6)) k_ hn_)),Or.elim hk_ (fun hs_=>hs_.2.2.1) (fun hn_=>(Kd.freshB (bk_ BK717).out k_ hn_)),Or.elim hk_ (fun hs_=>hs_.2.2.2) (fun hn_=>(Kd.freshB (bk_ BK720).out k_ hn_))⟩)) (below_size (bl_ HB).out));have n4_:=bb_ BK717 hb;have n5_:=am_ (Kd.C_below (by repeat(first|(with_reducible exact HR719_3.out)|(with_reducible refine Kd.C_alloc ?_ _)|(with_reducible refine Kd.C_drewN ?_ _)|(with_reducible refine Kd.C_drew ?_)|exact HR719_3.out)) hb);have n6_:=bb_ BK720 hb;have n7_:=am_ (below_step (bl_ HB).out hb);clear HO_6;clear HO_15;clear HL719_3;clear BK717;clear HR719_3;clear BK720;clear HB;revert n0_ n1_ n2_ n3_ n4_ n5_ n6_ n7_;intro HO_6 HO_15 HL719_3 HO726 BK717 HR719_3 BK720 HB;(try clear hb);(try clear ho0))|((with_reducible refine gate_dst (N:=11) rfl ?_);refine be_ 11 #[.int .i64 0,.slice none 0 0,.string (⟨#[]⟩:ByteArray)] 41 ?_;intro gb729 hg w68 hbox hb;have BK729:=am_ (hbox);have GW729:=sz_ HB hg;have GE729:=sz_ HB hg;have NB717_729:=na_ BK717 hg;have NB729_717:=nb_ BK717 hg;have NB720_729:=na_ BK720 hg;have NB729_720:=nb_ BK720 hg;replace HO_6:=am_ (Kd.N_below (Kd.N_elderB (krN_ HO_6) gb729 (Nat.le_of_eq hg.symm)) hb);replace HO_15:=am_ (Kd.V_below (Kd.V_elderB (krV_ HO_15) gb729 (Nat.le_of_eq hg.symm)) hb);replace HL719_3:=am_ (Kd.V_below (Kd.V_elderB (krV_ HL719_3) gb729 (Nat.le_of_eq hg.symm)) hb);replace HO726:=am_ (Kd.N_below (Kd.N_elderB (krN_ HO726) gb729 (Nat.le_of_eq hg.symm)) hb);replace BK717:=bb_ BK717 hb;replace HR719_3:=am_ (Kd.C_below (by repeat(first|(with_reducible exact HR719_3.out)|(with_reducible refine Kd.C_alloc ?_ _)|(with_reducible refine Kd.C_drewN ?_ _)|(with_reducible refine Kd.C_drew ?_)|exact HR719_3.out)) hb);replace BK720:=bb_ BK720 hb;replace HB:=am_ (below_step (bl_ HB).out hb);clear hb hbox hg;have hnb69:=NB729_717.out;have hnc69:=NB717_729.out;have hnb70:=NB729_720.out;have hnc70:=NB720_729.out;obtain⟨hcz71_0,hcz71_1,hcz71_2,hfz71_0,hfz71_1,hfz71_2⟩:=bo3_ BK729;obtain⟨Ao72,co72,eo72⟩:=Kd.N_slice HO726.out;subst eo72)|((with_reducible refine gate_store (t:=41) (p:=11) rfl ?_);refine store_event (t:=41) (p:=11) (v:=?vo_w73) (w1:=(((w68.setCell ⟨gb729,0,none⟩ (.int .i64 t723)).setCell ⟨gb729,1,none⟩ (.slice Ao72 t724.length co72)).setCell ⟨gb729,2,none⟩ (.string t727))) ?hg ?ho ?hn ?hr ?_;(case ho=>rfl);(case hg=>rfl);(case hn=>rfl);(case hr=>first|(go_simp;done)|(go_simp;rfl));intro w73 hw;have n0_:Aside0 (Kd.N k41 41 w73 w.heap.size (fun k_=>(P0_ k_∨w.heap.size≤k_)∧some k_≠(.slice Ao72 t724.length co72:Value).ownBlock∧k_≠gb717∧k_≠gb720∧k_≠gb729) u6 x6_1):=⟨(by rw[hw];exact(kdN_ (Kd.N_mono (Kd.N_far (Kd.N_far (Kd.N_far (Kd.N_mono HO_6.out (fun k_ hk=>(⟨hk,hk.2⟩:_∧k_≠gb729))) (fun _ hk=>hk.2) _) (fun _ hk=>hk.2) _) (fun _ hk=>hk.2) _) (fun _ hk=>⟨hk.1.1.1.1,⟨hk.1.1.2,⟨hk.1.1.1.2.1,⟨hk.1.1.1.2.2,hk.1.2⟩⟩⟩⟩))))⟩;have n1_:Aside0 (Kd.V k50 50 w73 w.heap.size (fun k_=>(P0_ k_∨w.heap.size≤k_)∧some k_≠(u6:Value).ownBlock∧some k_≠(.slice Ao72 t724.length co72:Value).ownBlock∧k_≠gb717∧k_≠gb720∧k_≠gb729) (.slice (some ad719) l0.length c0) l0):=⟨(by rw[hw];exact(kdV_ (Kd.V_mono (Kd.V_far (Kd.V_far (Kd.V_far (Kd.V_mono HO_15.out (fun k_ hk=>(⟨hk,hk.2⟩:_∧k_≠gb729))) (fun _ hk=>hk.2) _) (fun _ hk=>hk.2) _) (fun _ hk=>hk.2) _) (fun _ hk=>⟨hk.1.1.1.1,⟨hk.1.1.1.2.1,⟨hk.1.1.2,⟨hk.1.1.1.2.2.1,⟨hk.1.1.1.2.2.2,hk.1.2⟩⟩⟩⟩⟩))))⟩;have n2_:Aside0 (Kd.V (Kd.slice 46 k46) 47 w73 w.heap.size (fun k_=>(P0_ k_∨w.heap.size≤k_)∧some k_≠(u6:Value).ownBlock∧some k_≠(.slice Ao72 t724.length co72:Value).ownBlock∧k_≠gb717∧k_≠gb720∧k_≠gb729) (.slice A719_3 ((rd_T50 l0 x17_1).f3).length c719_3) ((rd_T50 l0 x17_1).f3)):=⟨(by rw[hw];exact(kdV_ (Kd.V_mono (Kd.V_far (Kd.V_far (Kd.V_far (Kd.V_mono HL719_3.out (fun k_ hk=>(⟨hk,hk.2⟩:_∧k_≠gb729))) (fun _ hk=>hk.2) _) (fun _ hk=>hk.2) _) (fun _ hk=>hk.2) _) (fun _ hk=>⟨hk.1.1.1.1,⟨hk.1.1.1.2.1,⟨hk.1.1.2,⟨hk.1.1.1.2.2.1,⟨hk.1.1.1.2.2.2,hk.1.2⟩⟩⟩⟩⟩))))⟩;have n3_:Aside0 (Kd.N (Kd.slice 53 k53) 54 w73 w.heap.size (fun k_=>(P0_ k_∨w.heap.size≤k_)∧some k_≠(u6:Value).ownBlock∧k_≠gb717∧k_≠gb720∧k_≠gb729) (.slice Ao72 t724.length co72) t724):=⟨(by rw[hw];exact(kdN_ (Kd.N_mono (Kd.N_far (Kd.N_far (Kd.N_far (Kd.N_mono HO726.out (fun k_ hk=>(⟨hk,hk.2⟩:_∧k_≠gb729))) (fun _ hk=>hk.2) _) (fun _ hk=>hk.2) _) (fun _ hk=>hk.2) _) (fun _ hk=>⟨hk.1.1.1,⟨hk.1.1.2.1,⟨hk.1.1.2.2.1,⟨hk.1.1.2.2.2,hk.1.2⟩⟩⟩⟩))))⟩;have n4_:Aside0 (w73.heap[gb717]? = some (.cells #[.bool (if t722=0 then true else x718000_1),.bool (if t722=1 then true else x718001_1),.bool (if t722=2 then true else x718002_1),.bool (if t722=3 then true else x718003_1),.bool (if t722=4 then true else x718004_1),.bool (if t722=5 then true else x718005_1)] 74 (0,0))):=⟨(by rw[hw];exact((bf_ BK717).out))⟩;have n5_:Aside0 (w73.heap[gb720]? = some (.cells #[.int .i64 ((rd_T50 l0 x17_1).f0),.int .i64 ((rd_T50 l0 x17_1).f1),.int .i64 ((rd_T50 l0 x17_1).f2),.slice A719_3 ((rd_T50 l0 x17_1).f3).length c719_3] 50 (0,0))):=⟨(by rw[hw];exact((bf_ BK720).out))⟩;have n6_:Aside0 (w73.heap[gb729]? = some (.cells #[.int .i64 t723,.slice Ao72 t724.length co72,.string t727] 41 (0,0))):=⟨(by rw[hw];exact((bp_ BK729).out))⟩;have n7_:Aside0 (Below w.heap.size w w73):=⟨(by rw[hw];exact(bl_ HB).out)⟩;clear hw;clear HO_6;clear HO_15;clear HL719_3;clear HO726;clear BK717;clear BK720;clear BK729;clear HB;revert n0_ n1_ n2_ n3_ n4_ n5_ n6_ n7_;intro HO_6 HO_15 HL719_3 HO726 BK717 BK720 BK729 HB;obtain⟨Ao74,co74,eo74⟩:=Kd.N_slice HO_6.out;subst eo74;obtain⟨hcz75_0,hcz75_1,hcz75_2,hfz75_0,hfz75_1,hfz75_2⟩:=bo3_ BK729)|((with_reducible refine gate_builtin (b:= .append) (xs:= #[.tmp 38,.tmp 40]) rfl ?_);at_builtin;refine Kd.N_append k41 (w0:=w) w.heap.size rfl (.tmp 38) (.tmp 40) 33 41 (.agg #[(.int .i64 0),(.slice none 0 0),(.string ⟨#[]⟩)]) 48 rfl Tryz.underlying33 info41 rfl (by decide) (by omega) (.slice Ao74 x6_1.length co74) x6_1 (⟨t723,t724,t727⟩:S41) [.int .i64 t723,.slice Ao72 t724.length co72,.string t727] (fun k_=>(P0_ k_∨w.heap.size≤k_)∧k_≠gb717∧k_≠gb720∧k_≠gb729) (fun k_=>((fun k_=>(P0_ k_∨w.heap.size≤k_)∧k_≠gb717∧k_≠gb720∧k_≠gb729)) k_∧some k_≠(.slice Ao74 x6_1.length co74:Value).ownBlock) rfl rfl ?aP (fun _ hk=>hk) ?aF ?aO ?aB ?aS ?aL ?_;(case aP=>exact(k41_mkF _ _ (⟨t723,t724,t727⟩:S41) (Kd.N_reads' (Kd.N_mono (ok':=(fun k_=>((fun k_=>(P0_ k_∨w.heap.size≤k_)∧k_≠gb717∧k_≠gb720∧k_≠gb729)) k_∧some k_≠(.slice Ao74 x6_1.length co74:Value).ownBlock)) (HO726.out) (fun k_ hk=>⟨⟨hk.1,⟨hk.2.2.1,⟨hk.2.2.2.1,hk.2.2.2.2⟩⟩⟩,hk.2.1⟩))).2.1 (Kd.N_F (Kd.N_mono (ok':=(fun k_=>((fun k_=>(P0_ k_∨w.heap.size≤k_)∧k_≠gb717∧k_≠gb720∧k_≠gb729)) k_∧some k_≠(.slice Ao74 x6_1.length co74:Value).ownBlock)) (HO726.out) (fun k_ hk=>⟨⟨hk.1,⟨hk.2.2.1,⟨hk.2.2.2.1,hk.2.2.2.2⟩⟩⟩,hk.2.1⟩)))));(case aB=>exact(bl_ HB).out);(case aF=>exact(fun k_ hk=>⟨(.inr (Nat.le_trans (below_size (bl_ HB).out) hk)),Kd.freshB (bk_ BK717).out k_ hk,Kd.freshB (bk_ BK720).out k_ hk,Kd.freshB (bk_ BK729).out k_ hk⟩));(case aO=>exact(kdN_ (Kd.N_mono HO_6.out (fun _ hk=>⟨hk.1,⟨hk.2.2.1,⟨hk.2.2.2.1,hk.2.2.2.2⟩⟩⟩))));(case aS=>exact(below_size (bl_ HB).out));(case aL=>have:=LMc53.out;omega);intro v734 w76 ho hb hg hat;rw[← Ny733.out] at ho;have n0_:=am_ (Kd.V_afterv (ok:=(fun k_=>(P0_ k_∨w.heap.size≤k_)∧some k_≠(.slice Ao72 t724.length co72:Value).ownBlock∧k_≠gb717∧k_≠gb720∧k_≠gb729)) (kdV_ (Kd.V_mono HO_15.out (fun _ hk=>⟨⟨hk.1,⟨hk.2.2.1,⟨hk.2.2.2.1,⟨hk.2.2.2.2.1,hk.2.2.2.2.2⟩⟩⟩⟩,hk.2.1⟩))) hg hat);have n1_:=am_ (blk_grown (bk_ BK717).out hg (Kd.N_ne HO_6.out BK717.out (by decide)));have n2_:=am_ (Kd.V_afterv (ok:=(fun k_=>(P0_ k_∨w.heap.size≤k_)∧some k_≠(.slice Ao72 t724.length co72:Value).ownBlock∧k_≠gb717∧k_≠gb720∧k_≠gb729)) (kdV_ (Kd.V_mono HL719_3.out (fun _ hk=>⟨⟨hk.1,⟨hk.2.2.1,⟨hk.2.2.2.1,⟨hk.2.2.2.2.1,hk.2.2.2.2.2⟩⟩⟩⟩,hk.2.1⟩))) hg hat);have n3_:=am_ (blk_grown (bk_ BK720).out hg (Kd.N_ne HO_6.out BK720.out (by decide)));have n4_:=am_ (blk_grown (bk_ BK729).out hg (Kd.N_away HO_6.out (fun _ hk=>hk.2.2.2.2)));have n5_:=am_ (hb);have n6_:=am_ (ho);clear HO_15;clear BK717;clear HL719_3;clear BK720;clear BK729;clear HB;clear HO_6;clear HO726;revert n0_ n1_ n2_ n3_ n4_ n5_ n6_;intro HO_15 BK717 HL719_3 BK720 BK729 HB HO735;clear ho hb hg hat))
  go_roundg k1
  case measure=>have:=HK1.out;omega
  case rel=>exact⟨(y733),(x7_1++t728),(wrap64 (x17_1+1)),((if t722=0 then true else x718000_1)),((if t722=1 then true else x718001_1)),((if t722=2 then true else x718002_1)),((if t722=3 then true else x718003_1)),((if t722=4 then true else x718004_1)),((if t722=5 then true else x718005_1)),eq_,eq_,H',⟨by have:=HK1.out;omega⟩,⟨kdN_ (Kd.N_mono HO735.out (fun _ hk=>⟨hk.1,hk.2.1⟩))⟩,⟨kdV_ (Kd.V_mono HO_15.out (fun _ hk=>⟨hk.1.1,⟨hk.2,hk.1.2.2.1⟩⟩))⟩,(bk_ BK717),(bl_ HB)⟩
 rw[if_neg c7] at H
 have c7b0:=decide_eq_false c7
 clear c7
 by_cases c77:(x6_1.length:Int)>0
 ·rw[if_pos c77] at H
  have c77b0:decide (0<(x6_1.length:Int))=true:=decide_eq_true c77
  have c77b1:decide (0<x6_1.length)=true:=decide_eq_true (by omega)
  clear c77
  by_cases c78:(Go.bits .and .i64 a1 1)=1
  ·rw[if_pos c78] at H
   have c78b0:((Go.bits .and .i64 a1 1)==1)=true:=beq_iff_eq.mpr c78
   have c78b1:((Go.bits .and .i64 a1 1) !=1)=false:=bne_eq_false_iff_eq.mpr c78
   clear c78
   replace H:=ifn_ H
   obtain⟨c79,H⟩:=H
   have c79b0:=eq_true c79
   have c79b1:decide (x7_1.size+1≤9223372036854775807)=true:=decide_eq_true c79
   try have c79b2:=eq_false (Nat.not_lt.2 c79)
   replace H:=Option.bind_eq_some_iff.mp H
   obtain⟨t718,A800,H⟩:=H
   have A80:=am_ A800
   clear A800
   replace H:=ifn_ H
   obtain⟨c81,H⟩:=H
   have c81b0:=eq_true c81
   have c81b1:decide ((x7_1++(⟨#[59]⟩:ByteArray)).size+t718.size≤9223372036854775807)=true:=decide_eq_true c81
   try (have c81b5:=c81b0;simp only[ByteArray.size_append,Int.natCast_add] at c81b5)
   try have c81b2:=eq_false (Nat.not_lt.2 c81)
   try have c81b3:(9223372036854775807<x7_1.size+1+t718.size)=False:=eq_false (Nat.not_lt.2 (by have h_:=c81;simp only[ByteArray.size_append] at h_;exact h_))
   try have c81b4:(x7_1.size+1+t718.size≤9223372036854775807)=True:=eq_true (by have h_:=c81;simp only[ByteArray.size_append] at h_;exact h_)
   simp only[Option.some.injEq,Prod.mk.injEq] at H
   obtain⟨rfl,rfl⟩:=H
   obtain⟨Ao82,co82,eo82⟩:=Kd.N_slice HO_6.out
   subst eo82
   go_wp2_with (first|((with_reducible refine gate_callee (f:=29) rfl ?_);refine gl_ (some 58) Tryz.func29 #[.int .i64 (a1/2)] ?_;(with_reducible refine(florinlaw06_gap.calls _ _ _ A80.out).mono ?_);rintro e w83 ⟨rfl,hb⟩;refine⟨_,rfl,?_⟩;replace HO_6:=am_ (Kd.N_below (krN_ HO_6) hb);replace HO_15:=am_ (Kd.V_below (krV_ HO_15) hb);replace BK717:=bb_ BK717 hb;replace HB:=am_ (below_step (bl_ HB).out hb);(try clear hb);(try clear hi)))
   go_ret2
   exact⟨_,by first|rfl|(simp[errW_none,errW_some] <;> rfl)|(simp[*,errW_none,errW_some] <;> first|rfl|exact given_isEmpty _|exact(given_isEmpty _).symm),kdN_ (Kd.N_mono HO_6.out (fun _ hk=>hk.1)),by repeat(first|(with_reducible first|exact HB.out|apply below_alloc|apply pw_below_drewN|apply below_drew1|refine below_set ?_ GE717.out)|exact HB.out)⟩
  rw[if_neg c78] at H
  have c78b0:((Go.bits .and .i64 a1 1)==1)=false:=beq_eq_false_iff_ne.mpr c78
  have c78b1:((Go.bits .and .i64 a1 1) !=1)=true:=bne_iff_ne.mpr c78
  simp only[Option.some.injEq,Prod.mk.injEq] at H
  obtain⟨rfl,rfl⟩:=H
  obtain⟨Ao84,co84,eo84⟩:=Kd.N_slice HO_6.out
  subst eo84
  go_wp2
  go_ret2
  exact⟨_,by first|rfl|(simp[errW_none,errW_some] <;> rfl)|(simp[*,errW_none,errW_some] <;> first|rfl|exact given_isEmpty _|exact(given_isEmpty _).symm),kdN_ (Kd.N_mono HO_6.out (fun _ hk=>hk.1)),by repeat(first|(with_reducible first|exact HB.out|apply below_alloc|apply pw_below_drewN|apply below_drew1|refine below_set ?_ GE717.out)|exact HB.out)⟩
 rw[if_neg c77] at H
 have c77b0:decide (0<(x6_1.length:Int))=false:=decide_eq_false c77
 have c77b1:decide (0<x6_1.length)=false:=decide_eq_false (by omega)
 clear c77
 simp only[Option.some.injEq,Prod.mk.injEq] at H
 obtain⟨rfl,rfl⟩:=H
 obtain⟨Ao85,co85,eo85⟩:=Kd.N_slice HO_6.out
 subst eo85
 go_wp2
 go_ret2
 exact⟨_,by first|rfl|(simp[errW_none,errW_some] <;> rfl)|(simp[*,errW_none,errW_some] <;> first|rfl|exact given_isEmpty _|exact(given_isEmpty _).symm),kdN_ (Kd.N_mono HO_6.out (fun _ hk=>hk.1)),by repeat(first|(with_reducible first|exact HB.out|apply below_alloc|apply pw_below_drewN|apply below_drew1|refine below_set ?_ GE717.out)|exact HB.out)⟩

end Go.Proofs.YtadagjgkanlmdaaGreatDoor.P
