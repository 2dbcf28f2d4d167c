-- written by a program of this session (wip/p2)
import Derived.Test.YtcokjmnkieakiaaDoorPx0
import Derived.Test.YtcokjmnkieakiaaDoorPx8
import Derived.Test.YtcokjmnkieakiaaDoorPx9
import Derived.Test.YtcokjmnkieakiaaDoorPx10
namespace Go.Proofs.YtcokjmnkieakiaaDoor.P
open Go.RowKit Go.Proofs.YtcokjmnkieakiaaDoorW.PrintWords Go.Proofs.YtcokjmnkieakiaaDoorW.PrintLast Go.Proofs.YtcokjmnkieakiaaDoorW.PrintMore
attribute [local go_sem] max2_int min2_int max_two min_two max_three min_three max_four min_four   -- for this text's walks alone
set_option linter.unusedVariables false
set_option linter.unusedSimpArgs false

/-! ### florinlaw06_RuleReads: function 3 -/
mutual
def florinlaw06_RuleReads.l0:Nat→List (S32)→List (S32)→Int→Int→Bool→Bool→Bool→Bool→Bool→Bool→Option (Bool)
 | 0,_,_,_,_,_,_,_,_,_,_=>none
 | k+1,x3,x61,x62,x63,x957000,x957001,x957002,x957003,x957004,x957005=>if x63<x62 then (if 0≤x63 then (if x63<(x61.length:Int) then (if ((rd_T32 x61 x63).f0)<0 then (none) else (if ((rd_T32 x61 x63).f0)>5 then (none) else (if 0≤((rd_T32 x61 x63).f0) then (if ((rd_T32 x61 x63).f0)<6 then (if rdOf false [x957000,x957001,x957002,x957003,x957004,x957005] ((rd_T32 x61 x63).f0)=true then (none) else (florinlaw06_RuleReads.j1 k x3 x61 x62 x63 ((((rd_T32 x61 x63).f0)==5) !=((((rd_T32 x61 x63).f1).length:Int)==0)) x957000 x957001 x957002 x957003 x957004 x957005 ((rd_T32 x61 x63).f0) ((rd_T32 x61 x63).f1) ((rd_T32 x61 x63).f2))) else (none)) else (none)))) else (none)) else (none)) else ((rule_Rules_String.f k x3).bind fun t957=>((rule_Parse.f k t957).bind fun bt958=>(if bt958.2.1=0 then ((florinlaw06_Same.f k bt958.1 x3).bind fun t963=>(some t963)) else (none))))
def florinlaw06_RuleReads.j1:Nat→List (S32)→List (S32)→Int→Int→Bool→Bool→Bool→Bool→Bool→Bool→Bool→Int→List (List (S36))→ByteArray→Option (Bool)
 | 0,_,_,_,_,_,_,_,_,_,_,_,_,_,_=>none
 | k+1,x3,x61,x62,x63,x90,x957000,x957001,x957002,x957003,x957004,x957005,x966000,x966001,x966002=>if x90=true then (none) else (if 0≤x966000 then (if x966000<6 then (florinlaw06_RuleReads.l1 k x3 x61 x62 x63 x966001 (x966001.length:Int) 0 (if x966000=0 then true else x957000) (if x966000=1 then true else x957001) (if x966000=2 then true else x957002) (if x966000=3 then true else x957003) (if x966000=4 then true else x957004) (if x966000=5 then true else x957005)) else (none)) else (none))
def florinlaw06_RuleReads.l1:Nat→List (S32)→List (S32)→Int→Int→List (List (S36))→Int→Int→Bool→Bool→Bool→Bool→Bool→Bool→Option (Bool)
 | 0,_,_,_,_,_,_,_,_,_,_,_,_,_=>none
 | k+1,x3,x61,x62,x63,x95,x96,x97,x957000,x957001,x957002,x957003,x957004,x957005=>if x97<x96 then (if 0≤x97 then (if x97<(x95.length:Int) then (if ((rd_L7 x95 x97).length:Int)=0 then (none) else (florinlaw06_RuleReads.l2 k x3 x61 x62 x63 x95 x96 x97 (rd_L7 x95 x97) ((rd_L7 x95 x97).length:Int) 0 x957000 x957001 x957002 x957003 x957004 x957005)) else (none)) else (none)) else (florinlaw06_RuleReads.l0 k x3 x61 x62 (wrap64 (x63+1)) x957000 x957001 x957002 x957003 x957004 x957005)
def florinlaw06_RuleReads.l2:Nat→List (S32)→List (S32)→Int→Int→List (List (S36))→Int→Int→List (S36)→Int→Int→Bool→Bool→Bool→Bool→Bool→Bool→Option (Bool)
 | 0,_,_,_,_,_,_,_,_,_,_,_,_,_,_,_,_=>none
 | k+1,x3,x61,x62,x63,x95,x96,x97,x104,x105,x106,x957000,x957001,x957002,x957003,x957004,x957005=>if x106<x105 then (if 0≤x106 then (if x106<(x104.length:Int) then (if (((rd_T36 x104 x106).f3).length:Int)=0 then (none) else (florinlaw06_RuleReads.j4 k x3 x61 x62 x63 x95 x96 x97 x104 x105 x106 (decide (((rd_T36 x104 x106).f1)<0)) x957000 x957001 x957002 x957003 x957004 x957005 ((rd_T36 x104 x106).f0) ((rd_T36 x104 x106).f1) ((rd_T36 x104 x106).f2) ((rd_T36 x104 x106).f3))) else (none)) else (none)) else (florinlaw06_RuleReads.l1 k x3 x61 x62 x63 x95 x96 (wrap64 (x97+1)) x957000 x957001 x957002 x957003 x957004 x957005)
def florinlaw06_RuleReads.j4:Nat→List (S32)→List (S32)→Int→Int→List (List (S36))→Int→Int→List (S36)→Int→Int→Bool→Bool→Bool→Bool→Bool→Bool→Bool→Int→Int→Bool→List (S38)→Option (Bool)
 | 0,_,_,_,_,_,_,_,_,_,_,_,_,_,_,_,_,_,_,_,_,_=>none
 | k+1,x3,x61,x62,x63,x95,x96,x97,x104,x105,x106,x118,x957000,x957001,x957002,x957003,x957004,x957005,x969000,x969001,x969002,x969003=>if x118=true then (none) else (florinlaw06_RuleReads.l3 k x3 x61 x62 x63 x95 x96 x97 x104 x105 x106 x969003 (x969003.length:Int) 0 x957000 x957001 x957002 x957003 x957004 x957005)
def florinlaw06_RuleReads.l3:Nat→List (S32)→List (S32)→Int→Int→List (List (S36))→Int→Int→List (S36)→Int→Int→List (S38)→Int→Int→Bool→Bool→Bool→Bool→Bool→Bool→Option (Bool)
 | 0,_,_,_,_,_,_,_,_,_,_,_,_,_,_,_,_,_,_,_=>none
 | k+1,x3,x61,x62,x63,x95,x96,x97,x104,x105,x106,x120,x121,x122,x957000,x957001,x957002,x957003,x957004,x957005=>if x122<x121 then (if 0≤x122 then (if x122<(x120.length:Int) then (if ((rd_T38 x120 x122).f0)<0 then (none) else (if ((rd_T38 x120 x122).f1)<((rd_T38 x120 x122).f0) then (none) else (if ((rd_T38 x120 x122).f1)>999999999 then (none) else (florinlaw06_RuleReads.l3 k x3 x61 x62 x63 x95 x96 x97 x104 x105 x106 x120 x121 (wrap64 (x122+1)) x957000 x957001 x957002 x957003 x957004 x957005)))) else (none)) else (none)) else (florinlaw06_RuleReads.l2 k x3 x61 x62 x63 x95 x96 x97 x104 x105 (wrap64 (x106+1)) x957000 x957001 x957002 x957003 x957004 x957005)
end
def florinlaw06_RuleReads.f (k:Nat) (a0:ByteArray):Option (Bool):=(florinlaw06_head.f k).bind fun t950=>(if t950=true then (if (a0.size:Int)>300 then (some true) else ((rule_Parse.f k a0).bind fun bt951=>(if bt951.2.1=0 then (florinlaw06_RuleReads.l0 k bt951.1 bt951.1 (bt951.1.length:Int) 0 false false false false false false) else (if (bt951.1.length:Int)=0 then (if bt951.2.2≥0 then (if bt951.2.2≤(a0.size:Int) then (if bt951.2.1=1 then (some true) else (if bt951.2.1=2 then (some true) else (if bt951.2.1=3 then (some true) else (some (bt951.2.1==7))))) else (none)) else (none)) else (none))))) else (none))
set_option maxHeartbeats 64000000 in
set_option maxRecDepth 100000 in
theorem florinlaw06_RuleReads.calls (k:Nat) (a0:ByteArray) (r:Bool) (w:World) (h:florinlaw06_RuleReads.f k a0=some r) (ht:Lib.TabIs Tryd.prog w "internal/strconv.uint64pow10" .u64 Lib.pow10Tab:=by first|assumption|exact tb_ (by assumption) (bl_ (by assumption)).out) :
  Calls Tryd.prog 3 #[.string a0] w fun e w'=>e= .returned (.bool r)∧Below w.heap.size w w':=by
 have hu28:=Tryd.underlying28
 have hu32:=Tryd.underlying32
 have hu36:=Tryd.underlying36
 have hu38:=Tryd.underlying38
 have HB:=Aside0.mk (Below.refl w.heap.size w)
 have H:((florinlaw06_head.f k).bind fun t950=>(if t950=true then (if (a0.size:Int)>300 then (some true) else ((rule_Parse.f k a0).bind fun bt951=>(if bt951.2.1=0 then (florinlaw06_RuleReads.l0 k bt951.1 bt951.1 (bt951.1.length:Int) 0 false false false false false false) else (if (bt951.1.length:Int)=0 then (if bt951.2.2≥0 then (if bt951.2.2≤(a0.size:Int) then (if bt951.2.1=1 then (some true) else (if bt951.2.1=2 then (some true) else (if bt951.2.1=3 then (some true) else (some (bt951.2.1==7))))) else (none)) else (none)) else (none))))) else (none)))=some r:=h
 clear h
 replace H:=Option.bind_eq_some_iff.mp H
 obtain⟨t950,A20,H⟩:=H
 have A2:=Aside0.mk A20
 clear A20
 by_cases c3:t950=true
 ·subst c3
  have H1:(if (a0.size:Int)>300 then (some true) else ((rule_Parse.f k a0).bind fun bt951=>(if bt951.2.1=0 then (florinlaw06_RuleReads.l0 k bt951.1 bt951.1 (bt951.1.length:Int) 0 false false false false false false) else (if (bt951.1.length:Int)=0 then (if bt951.2.2≥0 then (if bt951.2.2≤(a0.size:Int) then (if bt951.2.1=1 then (some true) else (if bt951.2.1=2 then (some true) else (if bt951.2.1=3 then (some true) else (some (bt951.2.1==7))))) else (none)) else (none)) else (none)))))=some r:=by rw[if_pos rfl] at H;exact H
  clear H
  have H:=H1
  clear H1
  by_cases c4:(a0.size:Int)>300
  ·rw[if_pos c4] at H
   have c4b0:decide (300<(a0.size:Int))=true:=decide_eq_true c4
   have c4b1:decide (300<a0.size)=true:=decide_eq_true (by omega)
   clear c4
   obtain rfl:=Option.some.inj H
   go_enter Tryd.func3,Tryd.ntmps3
   go_wp2_with (first|((with_reducible refine gate_callee (f:=7) rfl ?_);refine gl_ (some 18) Tryd.func7 #[] ?_;(with_reducible refine(florinlaw06_head.calls _ _ _ A2.out).mono ?_);rintro e w5 ⟨rfl,hb⟩;refine⟨_,rfl,?_⟩;replace HB:=Aside0.mk (below_step (bl_ HB).out hb);(try clear hb);(try clear hi)))
   go_ret
   exact⟨ew_,(bl_ HB).out⟩
  ·rw[if_neg c4] at H
   have c4b0:decide (300<(a0.size:Int))=false:=decide_eq_false c4
   have c4b1:decide (300<a0.size)=false:=decide_eq_false (by omega)
   clear c4
   replace H:=Option.bind_eq_some_iff.mp H
   obtain⟨⟨t951,t954,t955⟩,A60,H⟩:=H
   dsimp only at H
   have A6:=Aside0.mk A60
   clear A60
   by_cases c7:t954=0
   ·rw[if_pos c7] at H
    have c7b0:(t954==0)=true:=beq_iff_eq.mpr c7
    have c7b1:(t954 !=0)=false:=bne_eq_false_iff_eq.mpr c7
    clear c7
    have H':=Aside0.mk H
    clear H
    go_enter Tryd.func3,Tryd.ntmps3
    go_wp2_with (first|((with_reducible refine gate_callee (f:=7) rfl ?_);refine gl_ (some 18) Tryd.func7 #[] ?_;(with_reducible refine(florinlaw06_head.calls _ _ _ A2.out).mono ?_);rintro e w8 ⟨rfl,hb⟩;refine⟨_,rfl,?_⟩;replace HB:=Aside0.mk (below_step (bl_ HB).out hb);(try clear hb);(try clear hi))|((with_reducible refine gate_callee (f:=8) rfl ?_);refine gl_ (some 25) Tryd.func8 #[.string a0] ?_;(with_reducible refine(rule_Parse.calls _ _ _ _ _ _ A6.out).mono ?_);rintro e w9 ⟨v952,rfl,ho0,hb⟩;refine⟨_,rfl,?_⟩;have HO953:=Aside0.mk (Kd.N_lower (Kd.N_mono (ok':=fun k_=>True) ho0 (fun k_ hk_=>trivial)) (below_size (bl_ HB).out));replace HB:=Aside0.mk (below_step (bl_ HB).out hb);(try clear hb);(try clear ho0))|((with_reducible refine gate_dst (N:=6) rfl ?_);(try (refine gate_guard (by rfl) ?_;dsimp only));refine be_ 6 #[.bool false,.bool false,.bool false,.bool false,.bool false,.bool false] 28 ?_;intro gb956 hg w10 hbox hb;have BK956:=Aside0.mk (hbox);have GW956:=sz_ HB hg;have GE956:=sz_ HB hg;replace HO953:=Aside0.mk (Kd.N_below (Kd.N_elderB (krN_ HO953) gb956 (Nat.le_of_eq hg.symm)) hb);replace HB:=Aside0.mk (below_step (bl_ HB).out hb);clear hb hbox hg;obtain⟨hcz11_0,hcz11_1,hcz11_2,hcz11_3,hcz11_4,hcz11_5,hfz11_0,hfz11_1,hfz11_2,hfz11_3,hfz11_4,hfz11_5⟩:=bo6_ BK956;obtain⟨Ao12,co12,eo12⟩:=Kd.N_slice HO953.out;subst eo12))
    go_loopg [63] k (fun kq v63 w'=>∃(x63_1:Int) (x957000_1:Bool) (x957001_1:Bool) (x957002_1:Bool) (x957003_1:Bool) (x957004_1:Bool) (x957005_1:Bool),v63= .int .i64 x63_1∧Aside0 (florinlaw06_RuleReads.l0 kq t951 t951 (t951.length:Int) x63_1 x957000_1 x957001_1 x957002_1 x957003_1 x957004_1 x957005_1=some r)∧Aside0 (kq≤k)∧Aside0 (Kd.N k32 32 w' w.heap.size (fun k_=>k_≠gb956) (.slice Ao12 t951.length co12) t951)∧Aside0 (Kd.N k32 32 w' w.heap.size (fun k_=>k_≠gb956) (.slice Ao12 t951.length co12) t951)∧Aside0 (w'.heap[gb956]? = some (.cells #[.bool x957000_1,.bool x957001_1,.bool x957002_1,.bool x957003_1,.bool x957004_1,.bool x957005_1] 28 (0,0)))∧Aside0 (Below w.heap.size w w'))
    case atStart=>exact⟨(0),(false),(false),(false),(false),(false),(false),eq_,H',⟨Nat.le_refl _⟩,⟨kdN_ (Kd.N_mono (Kd.N_far (Kd.N_far (Kd.N_far (Kd.N_far (Kd.N_far (Kd.N_far (Kd.N_mono HO953.out (fun k_ hk=>(⟨hk,hk.2⟩:_∧k_≠gb956))) (fun _ hk=>hk.2) _) (fun _ hk=>hk.2) _) (fun _ hk=>hk.2) _) (fun _ hk=>hk.2) _) (fun _ hk=>hk.2) _) (fun _ hk=>hk.2) _) (fun _ hk=>hk.1.2))⟩,⟨kdN_ (Kd.N_mono (Kd.N_far (Kd.N_far (Kd.N_far (Kd.N_far (Kd.N_far (Kd.N_far (Kd.N_mono HO953.out (fun k_ hk=>(⟨hk,hk.2⟩:_∧k_≠gb956))) (fun _ hk=>hk.2) _) (fun _ hk=>hk.2) _) (fun _ hk=>hk.2) _) (fun _ hk=>hk.2) _) (fun _ hk=>hk.2) _) (fun _ hk=>hk.2) _) (fun _ hk=>hk.1.2))⟩,⟨(bp_ BK956).out⟩,(bl_ HB)⟩
    case round =>
     clear H'
     obtain⟨x63_1,x957000_1,x957001_1,x957002_1,x957003_1,x957004_1,x957005_1,rfl,HA,HK1,HO_3,HO_61,BK956,HB⟩:=hrel
     cases gk with
     | zero=>exact absurd HA.out (by simp[florinlaw06_RuleReads.l0])
     | succ k1 =>
      have H:=HA.out
      clear HA
      simp only[florinlaw06_RuleReads.l0] at H
      by_cases c13:x63_1<(t951.length:Int)
      ·rw[if_pos c13] at H
       have c13b0:=decide_eq_true c13
       clear c13
       replace H:=ifn_ H
       obtain⟨c14,H⟩:=H
       have c14b0:decide (0≤x63_1)=true:=decide_eq_true c14
       clear c14
       replace H:=ifn_ H
       obtain⟨c15,H⟩:=H
       have c15b0:decide (x63_1<(t951.length:Int))=true:=decide_eq_true c15
       clear c15
       have HC16:=Aside0.mk H
       clear H
       have p964:0≤(x63_1:Int):=od_
       have q964:x63_1<(t951.length:Int):=od_
       obtain⟨ad964,A964_1,c964_1,e964,hx964_0,hx964_1,hx964_2,hl964_1,hi964_1⟩:=at_T32 (Kd.N_reads' HO_61.out).2.2 x63_1 p964 q964
       cases e964
       obtain⟨ce964,hce964,hMe964,hcc964⟩:=Kd.N_get HO_61.out z32 x63_1 p964 (by first|exact q964|exact od_|(have e_:=(Kd.N_reads' HO_61.out).1;omega))
       obtain⟨ua964_1,uc964_1,rfl,ul964_1,ge964_1⟩:=k32_openF hMe964
       have hv964_1:=hcc964 1 _ rfl
       rw[add_field _ _ 1 (by omega)] at hv964_1
       replace hv964_1:=Option.some.inj (hv964_1.symm.trans hx964_1)
       injection hv964_1 with hva_ hvn_ hvc_
       rw[hva_] at ge964_1
       rw[hvc_] at ul964_1
       have HL964_1:=Aside0.mk (show Kd.V (Kd.slice 36 k36) 33 _ w.heap.size _ _ ((rd_T32 t951 x63_1).f1) from Kd.V_mk ul964_1 ge964_1)
       clear hva_ hvn_ hvc_ ge964_1 ul964_1
       clear hcc964 hce964
       have HR964_1:=Aside0.mk hi964_1
       have HC964_1:=Aside0.mk hl964_1
       clear hi964_1 hl964_1
       replace p964:=eq_true p964
       replace q964:=eq_true q964
       go_upto_region 12 with (first|((with_reducible refine gate_dst (N:=8) rfl ?_);(try (refine gate_guard (by rfl) ?_;dsimp only));refine be_ 8 #[.int .i64 0,.slice none 0 0,.string (⟨#[]⟩:ByteArray)] 32 ?_;intro gb965 hg w17 hbox hb;have BK965:=Aside0.mk (hbox);have GW965:=sz_ HB hg;have GE965:=sz_ HB hg;have NB956_965:=na_ BK956 hg;have NB965_956:=nb_ BK956 hg;replace HO_3:=Aside0.mk (Kd.N_below (Kd.N_elderB (krN_ HO_3) gb965 (Nat.le_of_eq hg.symm)) hb);replace HO_61:=Aside0.mk (Kd.N_below (Kd.N_elderB (krN_ HO_61) gb965 (Nat.le_of_eq hg.symm)) hb);replace HL964_1:=Aside0.mk (Kd.V_below (Kd.V_elderB (krV_ HL964_1) gb965 (Nat.le_of_eq hg.symm)) hb);replace BK956:=bb_ BK956 hb;replace HR964_1:=Aside0.mk (Kd.C_below (by repeat(first|(with_reducible exact HR964_1.out)|(with_reducible refine Kd.C_alloc ?_ _)|(with_reducible refine Kd.C_drewN ?_ _)|(with_reducible refine Kd.C_drew ?_)|exact HR964_1.out)) hb);replace HB:=Aside0.mk (below_step (bl_ HB).out hb);clear hb hbox hg;have hnb18:=NB965_956.out;have hnc18:=NB956_965.out;obtain⟨hcz19_0,hcz19_1,hcz19_2,hfz19_0,hfz19_1,hfz19_2⟩:=bo3_ BK965))
       (try simp only[Act.put,List.setIfInBounds_toArray,List.set_cons_zero,List.set_cons_succ])
       go_cut [90] (fun v90 wc=>∃(kq:Nat) (x90_15:Bool),v90= .bool x90_15∧Aside0 (florinlaw06_RuleReads.j1 kq t951 t951 (t951.length:Int) x63_1 x90_15 x957000_1 x957001_1 x957002_1 x957003_1 x957004_1 x957005_1 ((rd_T32 t951 x63_1).f0) ((rd_T32 t951 x63_1).f1) ((rd_T32 t951 x63_1).f2)=some r)∧Aside0 (kq≤k1)∧Aside0 (Kd.N k32 32 wc w.heap.size (fun k_=>k_≠gb956∧k_≠gb965) (.slice (some ad964) t951.length co12) t951)∧Aside0 (Kd.N k32 32 wc w.heap.size (fun k_=>k_≠gb956∧k_≠gb965) (.slice (some ad964) t951.length co12) t951)∧Aside0 (Kd.V (Kd.slice 36 k36) 33 wc w.heap.size (fun k_=>some k_≠((.slice (some ad964) t951.length co12):Value).ownBlock∧k_≠gb956∧k_≠gb965) (.slice A964_1 ((rd_T32 t951 x63_1).f1).length c964_1) ((rd_T32 t951 x63_1).f1))∧Aside0 (wc.heap[gb956]? = some (.cells #[.bool x957000_1,.bool x957001_1,.bool x957002_1,.bool x957003_1,.bool x957004_1,.bool x957005_1] 28 (0,0)))∧Aside0 (wc.heap[gb965]? = some (.cells #[.int .i64 ((rd_T32 t951 x63_1).f0),(.slice A964_1 ((rd_T32 t951 x63_1).f1).length c964_1),.string ((rd_T32 t951 x63_1).f2)] 32 (0,0)))∧Aside0 (Kd.C (Kd.slice 36 k36) wc A964_1 ((rd_T32 t951 x63_1).f1).length ((rd_T32 t951 x63_1).f1))∧Aside0 (Below w.heap.size w wc))
       case first =>
        have H:=HC16.out
        clear HC16
        replace H:=ifp_ H
        obtain⟨c20,H⟩:=H
        have c20b0:decide (((rd_T32 t951 x63_1).f0)<0)=false:=decide_eq_false c20
        clear c20
        (first|rw[c20b0]|(simp only[i64_w,i32_w];rw[c20b0])|skip)
        replace H:=ifp_ H
        obtain⟨c21,H⟩:=H
        have c21b0:decide (5<((rd_T32 t951 x63_1).f0))=false:=decide_eq_false c21
        clear c21
        replace H:=ifn_ H
        obtain⟨c22,H⟩:=H
        have c22b0:decide (0≤((rd_T32 t951 x63_1).f0))=true:=decide_eq_true c22
        clear c22
        replace H:=ifn_ H
        obtain⟨c23,H⟩:=H
        have c23b0:decide (((rd_T32 t951 x63_1).f0)<6)=true:=decide_eq_true c23
        clear c23
        obtain⟨bq24,hbq24⟩:∃b_:Bool,b_=(rdOf false [x957000_1,x957001_1,x957002_1,x957003_1,x957004_1,x957005_1] ((rd_T32 t951 x63_1).f0)):=⟨_,rfl⟩
        replace H:(if bq24=true then (none) else (florinlaw06_RuleReads.j1 k1 t951 t951 (t951.length:Int) x63_1 ((((rd_T32 t951 x63_1).f0)==5) !=((((rd_T32 t951 x63_1).f1).length:Int)==0)) x957000_1 x957001_1 x957002_1 x957003_1 x957004_1 x957005_1 ((rd_T32 t951 x63_1).f0) ((rd_T32 t951 x63_1).f1) ((rd_T32 t951 x63_1).f2)))=some r:=by rw[← hbq24] at H;exact H
        have Nbq24:=Aside0.mk hbq24
        clear hbq24
        by_cases c25:bq24=true
        ·subst c25
         have H1:(none)=some r:=by rw[if_pos rfl] at H;exact H
         clear H
         have H:=H1
         clear H1
         exact absurd H (by simp)
        ·replace c25:=Bool.eq_false_iff.mpr c25
         subst c25
         have H1:(florinlaw06_RuleReads.j1 k1 t951 t951 (t951.length:Int) x63_1 ((((rd_T32 t951 x63_1).f0)==5) !=((((rd_T32 t951 x63_1).f1).length:Int)==0)) x957000_1 x957001_1 x957002_1 x957003_1 x957004_1 x957005_1 ((rd_T32 t951 x63_1).f0) ((rd_T32 t951 x63_1).f1) ((rd_T32 t951 x63_1).f2))=some r:=by rw[if_neg (show ¬(false=true) by decide)] at H;exact H
         clear H
         have H:=H1
         clear H1
         have H':=Aside0.mk H
         clear H
         have hnb26:=NB965_956.out
         have hnc26:=NB956_965.out
         obtain⟨hcz27_0,hcz27_1,hcz27_2,hfz27_0,hfz27_1,hfz27_2⟩:=bo3_ BK965
         obtain⟨hcz28_0,hcz28_1,hcz28_2,hcz28_3,hcz28_4,hcz28_5,hfz28_0,hfz28_1,hfz28_2,hfz28_3,hfz28_4,hfz28_5⟩:=bo6_ BK956
         have hpx29:0≤((rd_T32 t951 x63_1).f0):=od_
         have hqx29:((rd_T32 t951 x63_1).f0)<6:=od_
         have hax29:=ax6_ ((rd_T32 t951 x63_1).f0) (od_) (od_)
         have hcx29:w17.cell? ⟨gb956,((rd_T32 t951 x63_1).f0).toNat,none⟩=some (.bool (rdOf false [x957000_1,x957001_1,x957002_1,x957003_1,x957004_1,x957005_1] ((rd_T32 t951 x63_1).f0))):=(blk_cell BK956.out (((rd_T32 t951 x63_1).f0).toNat)).trans (by rcases hax29 with h_|h_|h_|h_|h_|h_ <;> (rw[h_];rfl))
         clear hax29
         (try rw[← Nbq24.out] at hcx29)
         go_wp2
         go_meet
         case rel=>exact⟨_,(((((rd_T32 t951 x63_1).f0)==5) !=((((rd_T32 t951 x63_1).f1).length:Int)==0))),eq_,H',⟨by have:=HK1.out;first|omega|exact Nat.le_refl _⟩,⟨kdN_ (Kd.N_mono (Kd.N_far (Kd.N_far (Kd.N_far (Kd.N_mono HO_3.out (fun k_ hk=>(⟨hk,hk.2⟩:_∧k_≠gb965))) (fun _ hk=>hk.2) _) (fun _ hk=>hk.2) _) (fun _ hk=>hk.2) _) (fun _ hk=>⟨hk.1.1,hk.1.2⟩))⟩,⟨kdN_ (Kd.N_mono (Kd.N_far (Kd.N_far (Kd.N_far (Kd.N_mono HO_61.out (fun k_ hk=>(⟨hk,hk.2⟩:_∧k_≠gb965))) (fun _ hk=>hk.2) _) (fun _ hk=>hk.2) _) (fun _ hk=>hk.2) _) (fun _ hk=>⟨hk.1.1,hk.1.2⟩))⟩,⟨kdV_ (Kd.V_mono (Kd.V_far (Kd.V_far (Kd.V_far (Kd.V_mono HL964_1.out (fun k_ hk=>(⟨hk,hk.2⟩:_∧k_≠gb965))) (fun _ hk=>hk.2) _) (fun _ hk=>hk.2) _) (fun _ hk=>hk.2) _) (fun _ hk=>⟨hk.1.1.2,⟨hk.1.1.1,hk.1.2⟩⟩))⟩,⟨(bf_ BK956).out⟩,⟨(bp_ BK965).out⟩,⟨(Kd.V_reads' (kdV_ ((Kd.V_mono (Kd.V_far (Kd.V_far (Kd.V_far (Kd.V_mono HL964_1.out (fun k_ hk=>(⟨hk,hk.2⟩:_∧k_≠gb965))) (fun _ hk=>hk.2) _) (fun _ hk=>hk.2) _) (fun _ hk=>hk.2) _) (fun _ h_=>h_.1))))).2.2⟩,(bl_ HB)⟩
       case rest =>
        clear HC16
        obtain⟨kq,x90_15,rfl,HA,HJ15,HO_3,HO_61,HO_966001,BK956,BK965,HR964_1,HB⟩:=hcut
        cases kq with
        | zero=>exact absurd HA.out (by simp[florinlaw06_RuleReads.j1])
        | succ kj15 =>
         have H:=HA.out
         clear HA
         simp only[florinlaw06_RuleReads.j1] at H
         by_cases c30:x90_15=true
         ·subst c30
          have H1:(none)=some r:=by rw[if_pos rfl] at H;exact H
          clear H
          have H:=H1
          clear H1
          exact absurd H (by simp)
         ·replace c30:=Bool.eq_false_iff.mpr c30
          subst c30
          have H1:(if 0≤((rd_T32 t951 x63_1).f0) then (if ((rd_T32 t951 x63_1).f0)<6 then (florinlaw06_RuleReads.l1 kj15 t951 t951 (t951.length:Int) x63_1 ((rd_T32 t951 x63_1).f1) (((rd_T32 t951 x63_1).f1).length:Int) 0 (if ((rd_T32 t951 x63_1).f0)=0 then true else x957000_1) (if ((rd_T32 t951 x63_1).f0)=1 then true else x957001_1) (if ((rd_T32 t951 x63_1).f0)=2 then true else x957002_1) (if ((rd_T32 t951 x63_1).f0)=3 then true else x957003_1) (if ((rd_T32 t951 x63_1).f0)=4 then true else x957004_1) (if ((rd_T32 t951 x63_1).f0)=5 then true else x957005_1)) else (none)) else (none))=some r:=by rw[if_neg (show ¬(false=true) by decide)] at H;exact H
          clear H
          have H:=H1
          clear H1
          replace H:=ifn_ H
          obtain⟨c31,H⟩:=H
          have c31b0:decide (0≤((rd_T32 t951 x63_1).f0))=true:=decide_eq_true c31
          clear c31
          replace H:=ifn_ H
          obtain⟨c32,H⟩:=H
          have c32b0:decide (((rd_T32 t951 x63_1).f0)<6)=true:=decide_eq_true c32
          clear c32
          have H':=Aside0.mk H
          clear H
          have hnb33:=NB965_956.out
          have hnc33:=NB956_965.out
          obtain⟨hcz34_0,hcz34_1,hcz34_2,hfz34_0,hfz34_1,hfz34_2⟩:=bo3_ BK965
          obtain⟨hcz35_0,hcz35_1,hcz35_2,hcz35_3,hcz35_4,hcz35_5,hfz35_0,hfz35_1,hfz35_2,hfz35_3,hfz35_4,hfz35_5⟩:=bo6_ BK956
          have hfx36:=blk_frozen BK956.out (((rd_T32 t951 x63_1).f0).toNat)
          have hqx36_0:0≤((rd_T32 t951 x63_1).f0):=od_
          have hqx36_1:((rd_T32 t951 x63_1).f0)<6:=od_
          have hax36:=ax6_ ((rd_T32 t951 x63_1).f0) (od_) (od_)
          have hcx36:wc.cell? ⟨gb956,((rd_T32 t951 x63_1).f0).toNat,none⟩=some (.bool (rdOf false [x957000_1,x957001_1,x957002_1,x957003_1,x957004_1,x957005_1] ((rd_T32 t951 x63_1).f0))):=(blk_cell BK956.out (((rd_T32 t951 x63_1).f0).toNat)).trans (by rcases hax36 with h_|h_|h_|h_|h_|h_ <;> (rw[h_];rfl))
          clear hax36
          go_wp2
          go_loopg [97] kj15 (fun kq v97 w'=>∃(x97_3:Int),v97= .int .i64 x97_3∧Aside0 (florinlaw06_RuleReads.l1 kq t951 t951 (t951.length:Int) x63_1 ((rd_T32 t951 x63_1).f1) (((rd_T32 t951 x63_1).f1).length:Int) x97_3 (if ((rd_T32 t951 x63_1).f0)=0 then true else x957000_1) (if ((rd_T32 t951 x63_1).f0)=1 then true else x957001_1) (if ((rd_T32 t951 x63_1).f0)=2 then true else x957002_1) (if ((rd_T32 t951 x63_1).f0)=3 then true else x957003_1) (if ((rd_T32 t951 x63_1).f0)=4 then true else x957004_1) (if ((rd_T32 t951 x63_1).f0)=5 then true else x957005_1)=some r)∧Aside0 (kq≤kj15)∧Aside0 (Kd.N k32 32 w' w.heap.size (fun k_=>k_≠gb956∧k_≠gb965) (.slice (some ad964) t951.length co12) t951)∧Aside0 (Kd.N k32 32 w' w.heap.size (fun k_=>k_≠gb956∧k_≠gb965) (.slice (some ad964) t951.length co12) t951)∧Aside0 (Kd.V (Kd.slice 36 k36) 33 w' w.heap.size (fun k_=>some k_≠((.slice (some ad964) t951.length co12):Value).ownBlock∧k_≠gb956∧k_≠gb965) (.slice A964_1 ((rd_T32 t951 x63_1).f1).length c964_1) ((rd_T32 t951 x63_1).f1))∧Aside0 (Kd.V (Kd.slice 36 k36) 33 w' w.heap.size (fun k_=>some k_≠((.slice (some ad964) t951.length co12):Value).ownBlock∧k_≠gb956∧k_≠gb965) (.slice A964_1 ((rd_T32 t951 x63_1).f1).length c964_1) ((rd_T32 t951 x63_1).f1))∧Aside0 (w'.heap[gb956]? = some (.cells #[.bool (if ((rd_T32 t951 x63_1).f0)=0 then true else x957000_1),.bool (if ((rd_T32 t951 x63_1).f0)=1 then true else x957001_1),.bool (if ((rd_T32 t951 x63_1).f0)=2 then true else x957002_1),.bool (if ((rd_T32 t951 x63_1).f0)=3 then true else x957003_1),.bool (if ((rd_T32 t951 x63_1).f0)=4 then true else x957004_1),.bool (if ((rd_T32 t951 x63_1).f0)=5 then true else x957005_1)] 28 (0,0)))∧Aside0 (w'.heap[gb965]? = some (.cells #[.int .i64 ((rd_T32 t951 x63_1).f0),(.slice A964_1 ((rd_T32 t951 x63_1).f1).length c964_1),.string ((rd_T32 t951 x63_1).f2)] 32 (0,0)))∧Aside0 (Below w.heap.size w w'))
          case atStart=>exact⟨(0),eq_,H',⟨Nat.le_refl _⟩,⟨kdN_ (Kd.N_mono (Kd.N_far (Kd.N_mono HO_3.out (fun k_ hk=>(⟨hk,hk.1⟩:_∧k_≠gb956))) (fun _ hk=>hk.2) _) (fun _ hk=>⟨hk.1.1,hk.1.2⟩))⟩,⟨kdN_ (Kd.N_mono (Kd.N_far (Kd.N_mono HO_61.out (fun k_ hk=>(⟨hk,hk.1⟩:_∧k_≠gb956))) (fun _ hk=>hk.2) _) (fun _ hk=>⟨hk.1.1,hk.1.2⟩))⟩,⟨kdV_ (Kd.V_mono (Kd.V_far (Kd.V_mono HO_966001.out (fun k_ hk=>(⟨hk,hk.2.1⟩:_∧k_≠gb956))) (fun _ hk=>hk.2) _) (fun _ hk=>⟨hk.1.1,⟨hk.1.2.1,hk.1.2.2⟩⟩))⟩,⟨kdV_ (Kd.V_mono (Kd.V_far (Kd.V_mono HO_966001.out (fun k_ hk=>(⟨hk,hk.2.1⟩:_∧k_≠gb956))) (fun _ hk=>hk.2) _) (fun _ hk=>⟨hk.1.1,⟨hk.1.2.1,hk.1.2.2⟩⟩))⟩,⟨by (with_reducible repeat(first|refine blk_drewN ?_ _|refine blk_drew ?_|refine blk_alloc ?_ _));refine blk_put (cs:= #[.bool x957000_1,.bool x957001_1,.bool x957002_1,.bool x957003_1,.bool x957004_1,.bool x957005_1]) ?_ (((rd_T32 t951 x63_1).f0).toNat) _ (by rcases ax6_ ((rd_T32 t951 x63_1).f0) (by assumption) (by assumption) with h_|h_|h_|h_|h_|h_ <;> (rw[h_];rfl));(with_reducible repeat(first|refine blk_drewN ?_ _|refine blk_drew ?_|refine blk_alloc ?_ _));exact BK956.out⟩,⟨(bf_ BK965).out⟩,(bl_ HB)⟩
          case round =>
           clear H'
           obtain⟨x97_3,rfl,HA,HK3,HO_3,HO_61,HO_95,HO_966001,BK956,BK965,HB⟩:=hrel
           cases gk with
           | zero=>exact absurd HA.out (by simp[florinlaw06_RuleReads.l1])
           | succ k3 =>
            have H:=HA.out
            clear HA
            simp only[florinlaw06_RuleReads.l1] at H
            by_cases c37:x97_3<(((rd_T32 t951 x63_1).f1).length:Int)
            ·rw[if_pos c37] at H
             have c37b0:=decide_eq_true c37
             clear c37
             replace H:=ifn_ H
             obtain⟨c38,H⟩:=H
             have c38b0:decide (0≤x97_3)=true:=decide_eq_true c38
             clear c38
             replace H:=ifn_ H
             obtain⟨c39,H⟩:=H
             have c39b0:decide (x97_3<(((rd_T32 t951 x63_1).f1).length:Int))=true:=decide_eq_true c39
             clear c39
             replace H:=ifp_ H
             obtain⟨c40,H⟩:=H
             have c40b0:(((rd_L7 ((rd_T32 t951 x63_1).f1) x97_3).length:Int)==0)=false:=beq_eq_false_iff_ne.mpr c40
             have c40b1:(((rd_L7 ((rd_T32 t951 x63_1).f1) x97_3).length:Int) !=0)=true:=bne_iff_ne.mpr c40
             have c40b2:¬((rd_L7 ((rd_T32 t951 x63_1).f1) x97_3)=[]):=fun h_=>c40 (by rw[h_];rfl)
             have H':=Aside0.mk H
             clear H
             have p966:0≤(x97_3:Int):=od_
             have q966:x97_3<(((rd_T32 t951 x63_1).f1).length:Int):=od_
             obtain⟨ad966,A966_0,c966_0,e966,hx966_0,hl966_0,hi966_0⟩:=at_L7 (Kd.V_reads' HO_95.out).2.2 x97_3 p966 q966
             cases e966
             obtain⟨ce966,hce966,hMe966,hcc966⟩:=Kd.V_get HO_95.out [] x97_3 p966 (by first|exact q966|exact od_|(have e_:=(Kd.V_reads' HO_95.out).1;omega))
             obtain⟨ua966_0,uc966_0,rfl,ul966_0,ge966_0⟩:=Kd.FK_slice_open hMe966
             have hv966_0:=hcc966 0 _ rfl
             rw[Nat.add_zero,show((Kd.slice 36 k36)).sz=1 from rfl,Nat.mul_one] at hv966_0
             replace hv966_0:=Option.some.inj (hv966_0.symm.trans hx966_0)
             injection hv966_0 with hva_ hvn_ hvc_
             rw[hva_] at ge966_0
             rw[hvc_] at ul966_0
             have HL966_0:=Aside0.mk (show Kd.V k36 36 _ w.heap.size _ _ (rd_L7 ((rd_T32 t951 x63_1).f1) x97_3) from Kd.V_mk ul966_0 ge966_0)
             clear hva_ hvn_ hvc_ ge966_0 ul966_0
             clear hcc966 hce966
             have HR966_0:=Aside0.mk hi966_0
             have HC966_0:=Aside0.mk hl966_0
             clear hi966_0 hl966_0
             replace p966:=eq_true p966
             replace q966:=eq_true q966
             go_wp2
             go_loopg [106] k3 (fun kq v106 w'=>∃(x106_4:Int),v106= .int .i64 x106_4∧Aside0 (florinlaw06_RuleReads.l2 kq t951 t951 (t951.length:Int) x63_1 ((rd_T32 t951 x63_1).f1) (((rd_T32 t951 x63_1).f1).length:Int) x97_3 (rd_L7 ((rd_T32 t951 x63_1).f1) x97_3) ((rd_L7 ((rd_T32 t951 x63_1).f1) x97_3).length:Int) x106_4 (if ((rd_T32 t951 x63_1).f0)=0 then true else x957000_1) (if ((rd_T32 t951 x63_1).f0)=1 then true else x957001_1) (if ((rd_T32 t951 x63_1).f0)=2 then true else x957002_1) (if ((rd_T32 t951 x63_1).f0)=3 then true else x957003_1) (if ((rd_T32 t951 x63_1).f0)=4 then true else x957004_1) (if ((rd_T32 t951 x63_1).f0)=5 then true else x957005_1)=some r)∧Aside0 (kq≤k3)∧Aside0 (Kd.N k32 32 w' w.heap.size (fun k_=>k_≠gb956∧k_≠gb965) (.slice (some ad964) t951.length co12) t951)∧Aside0 (Kd.N k32 32 w' w.heap.size (fun k_=>k_≠gb956∧k_≠gb965) (.slice (some ad964) t951.length co12) t951)∧Aside0 (Kd.V (Kd.slice 36 k36) 33 w' w.heap.size (fun k_=>some k_≠((.slice (some ad964) t951.length co12):Value).ownBlock∧k_≠gb956∧k_≠gb965) (.slice (some ad966) ((rd_T32 t951 x63_1).f1).length c964_1) ((rd_T32 t951 x63_1).f1))∧Aside0 (Kd.V k36 36 w' w.heap.size (fun k_=>some k_≠((.slice (some ad964) t951.length co12):Value).ownBlock∧k_≠gb956∧k_≠gb965) (.slice A966_0 (rd_L7 ((rd_T32 t951 x63_1).f1) x97_3).length c966_0) (rd_L7 ((rd_T32 t951 x63_1).f1) x97_3))∧Aside0 (Kd.V (Kd.slice 36 k36) 33 w' w.heap.size (fun k_=>some k_≠((.slice (some ad964) t951.length co12):Value).ownBlock∧k_≠gb956∧k_≠gb965) (.slice (some ad966) ((rd_T32 t951 x63_1).f1).length c964_1) ((rd_T32 t951 x63_1).f1))∧Aside0 (w'.heap[gb956]? = some (.cells #[.bool (if ((rd_T32 t951 x63_1).f0)=0 then true else x957000_1),.bool (if ((rd_T32 t951 x63_1).f0)=1 then true else x957001_1),.bool (if ((rd_T32 t951 x63_1).f0)=2 then true else x957002_1),.bool (if ((rd_T32 t951 x63_1).f0)=3 then true else x957003_1),.bool (if ((rd_T32 t951 x63_1).f0)=4 then true else x957004_1),.bool (if ((rd_T32 t951 x63_1).f0)=5 then true else x957005_1)] 28 (0,0)))∧Aside0 (w'.heap[gb965]? = some (.cells #[.int .i64 ((rd_T32 t951 x63_1).f0),(.slice (some ad966) ((rd_T32 t951 x63_1).f1).length c964_1),.string ((rd_T32 t951 x63_1).f2)] 32 (0,0)))∧Aside0 (Below w.heap.size w w'))
             case atStart=>exact⟨(0),eq_,H',⟨Nat.le_refl _⟩,⟨kdN_ HO_3.out⟩,⟨kdN_ HO_61.out⟩,⟨kdV_ HO_95.out⟩,⟨kdV_ HL966_0.out⟩,⟨kdV_ HO_966001.out⟩,(bk_ BK956),(bk_ BK965),(bl_ HB)⟩
             case round =>
              clear H'
              obtain⟨x106_4,rfl,HA,HK4,HO_3,HO_61,HO_95,HO_104,HO_966001,BK956,BK965,HB⟩:=hrel
              cases gk with
              | zero=>exact absurd HA.out (by simp[florinlaw06_RuleReads.l2])
              | succ k4 =>
               have H:=HA.out
               clear HA
               simp only[florinlaw06_RuleReads.l2] at H
               by_cases c41:x106_4<((rd_L7 ((rd_T32 t951 x63_1).f1) x97_3).length:Int)
               ·rw[if_pos c41] at H
                have c41b0:=decide_eq_true c41
                clear c41
                replace H:=ifn_ H
                obtain⟨c42,H⟩:=H
                have c42b0:decide (0≤x106_4)=true:=decide_eq_true c42
                clear c42
                replace H:=ifn_ H
                obtain⟨c43,H⟩:=H
                have c43b0:decide (x106_4<((rd_L7 ((rd_T32 t951 x63_1).f1) x97_3).length:Int))=true:=decide_eq_true c43
                clear c43
                have HC44:=Aside0.mk H
                clear H
                have p967:0≤(x106_4:Int):=od_
                have q967:x106_4<((rd_L7 ((rd_T32 t951 x63_1).f1) x97_3).length:Int):=od_
                obtain⟨ad967,A967_3,c967_3,e967,hx967_0,hx967_1,hx967_2,hx967_3,hl967_3,hi967_3⟩:=at_T36 (Kd.V_reads' HO_104.out).2.2 x106_4 p967 q967
                cases e967
                obtain⟨ce967,hce967,hMe967,hcc967⟩:=Kd.V_get HO_104.out z36 x106_4 p967 (by first|exact q967|exact od_|(have e_:=(Kd.V_reads' HO_104.out).1;omega))
                obtain⟨ua967_3,uc967_3,rfl,ul967_3,ge967_3⟩:=k36_openF hMe967
                have hv967_3:=hcc967 3 _ rfl
                rw[add_field _ _ 3 (by omega)] at hv967_3
                replace hv967_3:=Option.some.inj (hv967_3.symm.trans hx967_3)
                injection hv967_3 with hva_ hvn_ hvc_
                rw[hva_] at ge967_3
                rw[hvc_] at ul967_3
                have HL967_3:=Aside0.mk (show Kd.V k38 38 _ w.heap.size _ _ ((rd_T36 (rd_L7 ((rd_T32 t951 x63_1).f1) x97_3) x106_4).f3) from Kd.V_mk ul967_3 ge967_3)
                clear hva_ hvn_ hvc_ ge967_3 ul967_3
                clear hcc967 hce967
                have HR967_3:=Aside0.mk hi967_3
                have HC967_3:=Aside0.mk hl967_3
                clear hi967_3 hl967_3
                replace p967:=eq_true p967
                replace q967:=eq_true q967
                go_upto_region 23 with (first|((with_reducible refine gate_dst (N:=12) rfl ?_);(try (refine gate_guard (by rfl) ?_;dsimp only));refine be_ 12 #[.int .u8 0,.int .i64 0,.bool false,.slice none 0 0] 36 ?_;intro gb968 hg w45 hbox hb;have BK968:=Aside0.mk (hbox);have GW968:=sz_ HB hg;have GE968:=sz_ HB hg;have NB956_968:=na_ BK956 hg;have NB968_956:=nb_ BK956 hg;have NB965_968:=na_ BK965 hg;have NB968_965:=nb_ BK965 hg;replace HO_3:=Aside0.mk (Kd.N_below (Kd.N_elderB (krN_ HO_3) gb968 (Nat.le_of_eq hg.symm)) hb);replace HO_61:=Aside0.mk (Kd.N_below (Kd.N_elderB (krN_ HO_61) gb968 (Nat.le_of_eq hg.symm)) hb);replace HO_95:=Aside0.mk (Kd.V_below (Kd.V_elderB (krV_ HO_95) gb968 (Nat.le_of_eq hg.symm)) hb);replace HO_104:=Aside0.mk (Kd.V_below (Kd.V_elderB (krV_ HO_104) gb968 (Nat.le_of_eq hg.symm)) hb);replace HO_966001:=Aside0.mk (Kd.V_below (Kd.V_elderB (krV_ HO_966001) gb968 (Nat.le_of_eq hg.symm)) hb);replace HL967_3:=Aside0.mk (Kd.V_below (Kd.V_elderB (krV_ HL967_3) gb968 (Nat.le_of_eq hg.symm)) hb);replace BK956:=bb_ BK956 hb;replace BK965:=bb_ BK965 hb;replace HR967_3:=Aside0.mk (Kd.C_below (by repeat(first|(with_reducible exact HR967_3.out)|(with_reducible refine Kd.C_alloc ?_ _)|(with_reducible refine Kd.C_drewN ?_ _)|(with_reducible refine Kd.C_drew ?_)|exact HR967_3.out)) hb);replace HB:=Aside0.mk (below_step (bl_ HB).out hb);clear hb hbox hg;have hnb46:=NB968_956.out;have hnc46:=NB956_968.out;have hnb47:=NB968_965.out;have hnc47:=NB965_968.out;obtain⟨hcz48_0,hcz48_1,hcz48_2,hcz48_3,hfz48_0,hfz48_1,hfz48_2,hfz48_3⟩:=bo4_ BK968))
                (try simp only[Act.put,List.setIfInBounds_toArray,List.set_cons_zero,List.set_cons_succ])
                go_cut [118] (fun v118 wc=>∃(kq:Nat) (x118_43:Bool),v118= .bool x118_43∧Aside0 (florinlaw06_RuleReads.j4 kq t951 t951 (t951.length:Int) x63_1 ((rd_T32 t951 x63_1).f1) (((rd_T32 t951 x63_1).f1).length:Int) x97_3 (rd_L7 ((rd_T32 t951 x63_1).f1) x97_3) ((rd_L7 ((rd_T32 t951 x63_1).f1) x97_3).length:Int) x106_4 x118_43 (if ((rd_T32 t951 x63_1).f0)=0 then true else x957000_1) (if ((rd_T32 t951 x63_1).f0)=1 then true else x957001_1) (if ((rd_T32 t951 x63_1).f0)=2 then true else x957002_1) (if ((rd_T32 t951 x63_1).f0)=3 then true else x957003_1) (if ((rd_T32 t951 x63_1).f0)=4 then true else x957004_1) (if ((rd_T32 t951 x63_1).f0)=5 then true else x957005_1) ((rd_T36 (rd_L7 ((rd_T32 t951 x63_1).f1) x97_3) x106_4).f0) ((rd_T36 (rd_L7 ((rd_T32 t951 x63_1).f1) x97_3) x106_4).f1) ((rd_T36 (rd_L7 ((rd_T32 t951 x63_1).f1) x97_3) x106_4).f2) ((rd_T36 (rd_L7 ((rd_T32 t951 x63_1).f1) x97_3) x106_4).f3)=some r)∧Aside0 (kq≤k4)∧Aside0 (Kd.N k32 32 wc w.heap.size (fun k_=>k_≠gb956∧k_≠gb965∧k_≠gb968) (.slice (some ad964) t951.length co12) t951)∧Aside0 (Kd.N k32 32 wc w.heap.size (fun k_=>k_≠gb956∧k_≠gb965∧k_≠gb968) (.slice (some ad964) t951.length co12) t951)∧Aside0 (Kd.V (Kd.slice 36 k36) 33 wc w.heap.size (fun k_=>some k_≠((.slice (some ad964) t951.length co12):Value).ownBlock∧k_≠gb956∧k_≠gb965∧k_≠gb968) (.slice (some ad966) ((rd_T32 t951 x63_1).f1).length c964_1) ((rd_T32 t951 x63_1).f1))∧Aside0 (Kd.V k36 36 wc w.heap.size (fun k_=>some k_≠((.slice (some ad964) t951.length co12):Value).ownBlock∧k_≠gb956∧k_≠gb965∧k_≠gb968) (.slice (some ad967) (rd_L7 ((rd_T32 t951 x63_1).f1) x97_3).length c966_0) (rd_L7 ((rd_T32 t951 x63_1).f1) x97_3))∧Aside0 (Kd.V (Kd.slice 36 k36) 33 wc w.heap.size (fun k_=>some k_≠((.slice (some ad964) t951.length co12):Value).ownBlock∧k_≠gb956∧k_≠gb965∧k_≠gb968) (.slice (some ad966) ((rd_T32 t951 x63_1).f1).length c964_1) ((rd_T32 t951 x63_1).f1))∧Aside0 (Kd.V k38 38 wc w.heap.size (fun k_=>some k_≠((.slice (some ad964) t951.length co12):Value).ownBlock∧k_≠gb956∧k_≠gb965∧k_≠gb968) (.slice A967_3 ((rd_T36 (rd_L7 ((rd_T32 t951 x63_1).f1) x97_3) x106_4).f3).length c967_3) ((rd_T36 (rd_L7 ((rd_T32 t951 x63_1).f1) x97_3) x106_4).f3))∧Aside0 (wc.heap[gb956]? = some (.cells #[.bool (if ((rd_T32 t951 x63_1).f0)=0 then true else x957000_1),.bool (if ((rd_T32 t951 x63_1).f0)=1 then true else x957001_1),.bool (if ((rd_T32 t951 x63_1).f0)=2 then true else x957002_1),.bool (if ((rd_T32 t951 x63_1).f0)=3 then true else x957003_1),.bool (if ((rd_T32 t951 x63_1).f0)=4 then true else x957004_1),.bool (if ((rd_T32 t951 x63_1).f0)=5 then true else x957005_1)] 28 (0,0)))∧Aside0 (wc.heap[gb965]? = some (.cells #[.int .i64 ((rd_T32 t951 x63_1).f0),(.slice (some ad966) ((rd_T32 t951 x63_1).f1).length c964_1),.string ((rd_T32 t951 x63_1).f2)] 32 (0,0)))∧Aside0 (wc.heap[gb968]? = some (.cells #[.int .u8 ((rd_T36 (rd_L7 ((rd_T32 t951 x63_1).f1) x97_3) x106_4).f0),.int .i64 ((rd_T36 (rd_L7 ((rd_T32 t951 x63_1).f1) x97_3) x106_4).f1),.bool ((rd_T36 (rd_L7 ((rd_T32 t951 x63_1).f1) x97_3) x106_4).f2),(.slice A967_3 ((rd_T36 (rd_L7 ((rd_T32 t951 x63_1).f1) x97_3) x106_4).f3).length c967_3)] 36 (0,0)))∧Aside0 (Below w.heap.size w wc))
                case first =>
                 have H:=HC44.out
                 clear HC44
                 replace H:=ifp_ H
                 obtain⟨c49,H⟩:=H
                 have c49b0:((((rd_T36 (rd_L7 ((rd_T32 t951 x63_1).f1) x97_3) x106_4).f3).length:Int)==0)=false:=beq_eq_false_iff_ne.mpr c49
                 have c49b1:((((rd_T36 (rd_L7 ((rd_T32 t951 x63_1).f1) x97_3) x106_4).f3).length:Int) !=0)=true:=bne_iff_ne.mpr c49
                 have c49b2:¬(((rd_T36 (rd_L7 ((rd_T32 t951 x63_1).f1) x97_3) x106_4).f3)=[]):=fun h_=>c49 (by rw[h_];rfl)
                 (first|rw[c49b0]|(simp only[i64_w,i32_w];rw[c49b0])|skip)
                 have H':=Aside0.mk H
                 clear H
                 have hnb50:=NB968_956.out
                 have hnc50:=NB956_968.out
                 have hnb51:=NB968_965.out
                 have hnc51:=NB965_968.out
                 obtain⟨hcz52_0,hcz52_1,hcz52_2,hcz52_3,hfz52_0,hfz52_1,hfz52_2,hfz52_3⟩:=bo4_ BK968
                 go_wp2
                 go_meet
                 case rel=>exact⟨_,(decide (((rd_T36 (rd_L7 ((rd_T32 t951 x63_1).f1) x97_3) x106_4).f1)<0)),eq_,H',⟨by have:=HK1.out;have:=HJ15.out;have:=HK3.out;have:=HK4.out;first|omega|exact Nat.le_refl _⟩,⟨kdN_ (Kd.N_mono (Kd.N_far (Kd.N_far (Kd.N_far (Kd.N_far (Kd.N_mono HO_3.out (fun k_ hk=>(⟨hk,hk.2⟩:_∧k_≠gb968))) (fun _ hk=>hk.2) _) (fun _ hk=>hk.2) _) (fun _ hk=>hk.2) _) (fun _ hk=>hk.2) _) (fun _ hk=>⟨hk.1.1.1,⟨hk.1.1.2,hk.1.2⟩⟩))⟩,⟨kdN_ (Kd.N_mono (Kd.N_far (Kd.N_far (Kd.N_far (Kd.N_far (Kd.N_mono HO_61.out (fun k_ hk=>(⟨hk,hk.2⟩:_∧k_≠gb968))) (fun _ hk=>hk.2) _) (fun _ hk=>hk.2) _) (fun _ hk=>hk.2) _) (fun _ hk=>hk.2) _) (fun _ hk=>⟨hk.1.1.1,⟨hk.1.1.2,hk.1.2⟩⟩))⟩,⟨kdV_ (Kd.V_mono (Kd.V_far (Kd.V_far (Kd.V_far (Kd.V_far (Kd.V_mono HO_95.out (fun k_ hk=>(⟨hk,hk.2⟩:_∧k_≠gb968))) (fun _ hk=>hk.2) _) (fun _ hk=>hk.2) _) (fun _ hk=>hk.2) _) (fun _ hk=>hk.2) _) (fun _ hk=>⟨hk.1.1.1,⟨hk.1.1.2.1,⟨hk.1.1.2.2,hk.1.2⟩⟩⟩))⟩,⟨kdV_ (Kd.V_mono (Kd.V_far (Kd.V_far (Kd.V_far (Kd.V_far (Kd.V_mono HO_104.out (fun k_ hk=>(⟨hk,hk.2⟩:_∧k_≠gb968))) (fun _ hk=>hk.2) _) (fun _ hk=>hk.2) _) (fun _ hk=>hk.2) _) (fun _ hk=>hk.2) _) (fun _ hk=>⟨hk.1.1.1,⟨hk.1.1.2.1,⟨hk.1.1.2.2,hk.1.2⟩⟩⟩))⟩,⟨kdV_ (Kd.V_mono (Kd.V_far (Kd.V_far (Kd.V_far (Kd.V_far (Kd.V_mono HO_966001.out (fun k_ hk=>(⟨hk,hk.2⟩:_∧k_≠gb968))) (fun _ hk=>hk.2) _) (fun _ hk=>hk.2) _) (fun _ hk=>hk.2) _) (fun _ hk=>hk.2) _) (fun _ hk=>⟨hk.1.1.1,⟨hk.1.1.2.1,⟨hk.1.1.2.2,hk.1.2⟩⟩⟩))⟩,⟨kdV_ (Kd.V_mono (Kd.V_far (Kd.V_far (Kd.V_far (Kd.V_far (Kd.V_mono HL967_3.out (fun k_ hk=>(⟨hk,hk.2⟩:_∧k_≠gb968))) (fun _ hk=>hk.2) _) (fun _ hk=>hk.2) _) (fun _ hk=>hk.2) _) (fun _ hk=>hk.2) _) (fun _ hk=>⟨hk.1.1.1,⟨hk.1.1.2.1,⟨hk.1.1.2.2,hk.1.2⟩⟩⟩))⟩,⟨(bf_ BK956).out⟩,⟨(bf_ BK965).out⟩,⟨(bp_ BK968).out⟩,(bl_ HB)⟩
                case rest =>
                 clear HC44
                 obtain⟨kq,x118_43,rfl,HA,HJ43,HO_3,HO_61,HO_95,HO_104,HO_966001,HO_969003,BK956,BK965,BK968,HB⟩:=hcut
                 cases kq with
                 | zero=>exact absurd HA.out (by simp[florinlaw06_RuleReads.j4])
                 | succ kj43 =>
                  have H:=HA.out
                  clear HA
                  simp only[florinlaw06_RuleReads.j4] at H
                  by_cases c53:x118_43=true
                  ·subst c53
                   have H1:(none)=some r:=by rw[if_pos rfl] at H;exact H
                   clear H
                   have H:=H1
                   clear H1
                   exact absurd H (by simp)
                  ·replace c53:=Bool.eq_false_iff.mpr c53
                   subst c53
                   have H1:(florinlaw06_RuleReads.l3 kj43 t951 t951 (t951.length:Int) x63_1 ((rd_T32 t951 x63_1).f1) (((rd_T32 t951 x63_1).f1).length:Int) x97_3 (rd_L7 ((rd_T32 t951 x63_1).f1) x97_3) ((rd_L7 ((rd_T32 t951 x63_1).f1) x97_3).length:Int) x106_4 ((rd_T36 (rd_L7 ((rd_T32 t951 x63_1).f1) x97_3) x106_4).f3) (((rd_T36 (rd_L7 ((rd_T32 t951 x63_1).f1) x97_3) x106_4).f3).length:Int) 0 (if ((rd_T32 t951 x63_1).f0)=0 then true else x957000_1) (if ((rd_T32 t951 x63_1).f0)=1 then true else x957001_1) (if ((rd_T32 t951 x63_1).f0)=2 then true else x957002_1) (if ((rd_T32 t951 x63_1).f0)=3 then true else x957003_1) (if ((rd_T32 t951 x63_1).f0)=4 then true else x957004_1) (if ((rd_T32 t951 x63_1).f0)=5 then true else x957005_1))=some r:=by rw[if_neg (show ¬(false=true) by decide)] at H;exact H
                   clear H
                   have H:=H1
                   clear H1
                   have H':=Aside0.mk H
                   clear H
                   have hnb54:=NB968_956.out
                   have hnc54:=NB956_968.out
                   have hnb55:=NB968_965.out
                   have hnc55:=NB965_968.out
                   obtain⟨hcz56_0,hcz56_1,hcz56_2,hcz56_3,hfz56_0,hfz56_1,hfz56_2,hfz56_3⟩:=bo4_ BK968
                   go_wp2
                   go_loopg [122] kj43 (fun kq v122 w'=>∃(x122_6:Int),v122= .int .i64 x122_6∧Aside0 (florinlaw06_RuleReads.l3 kq t951 t951 (t951.length:Int) x63_1 ((rd_T32 t951 x63_1).f1) (((rd_T32 t951 x63_1).f1).length:Int) x97_3 (rd_L7 ((rd_T32 t951 x63_1).f1) x97_3) ((rd_L7 ((rd_T32 t951 x63_1).f1) x97_3).length:Int) x106_4 ((rd_T36 (rd_L7 ((rd_T32 t951 x63_1).f1) x97_3) x106_4).f3) (((rd_T36 (rd_L7 ((rd_T32 t951 x63_1).f1) x97_3) x106_4).f3).length:Int) x122_6 (if ((rd_T32 t951 x63_1).f0)=0 then true else x957000_1) (if ((rd_T32 t951 x63_1).f0)=1 then true else x957001_1) (if ((rd_T32 t951 x63_1).f0)=2 then true else x957002_1) (if ((rd_T32 t951 x63_1).f0)=3 then true else x957003_1) (if ((rd_T32 t951 x63_1).f0)=4 then true else x957004_1) (if ((rd_T32 t951 x63_1).f0)=5 then true else x957005_1)=some r)∧Aside0 (kq≤kj43)∧Aside0 (Kd.N k32 32 w' w.heap.size (fun k_=>k_≠gb956∧k_≠gb965∧k_≠gb968) (.slice (some ad964) t951.length co12) t951)∧Aside0 (Kd.N k32 32 w' w.heap.size (fun k_=>k_≠gb956∧k_≠gb965∧k_≠gb968) (.slice (some ad964) t951.length co12) t951)∧Aside0 (Kd.V (Kd.slice 36 k36) 33 w' w.heap.size (fun k_=>some k_≠((.slice (some ad964) t951.length co12):Value).ownBlock∧k_≠gb956∧k_≠gb965∧k_≠gb968) (.slice (some ad966) ((rd_T32 t951 x63_1).f1).length c964_1) ((rd_T32 t951 x63_1).f1))∧Aside0 (Kd.V k36 36 w' w.heap.size (fun k_=>some k_≠((.slice (some ad964) t951.length co12):Value).ownBlock∧k_≠gb956∧k_≠gb965∧k_≠gb968) (.slice (some ad967) (rd_L7 ((rd_T32 t951 x63_1).f1) x97_3).length c966_0) (rd_L7 ((rd_T32 t951 x63_1).f1) x97_3))∧Aside0 (Kd.V k38 38 w' w.heap.size (fun k_=>some k_≠((.slice (some ad964) t951.length co12):Value).ownBlock∧k_≠gb956∧k_≠gb965∧k_≠gb968) (.slice A967_3 ((rd_T36 (rd_L7 ((rd_T32 t951 x63_1).f1) x97_3) x106_4).f3).length c967_3) ((rd_T36 (rd_L7 ((rd_T32 t951 x63_1).f1) x97_3) x106_4).f3))∧Aside0 (Kd.V (Kd.slice 36 k36) 33 w' w.heap.size (fun k_=>some k_≠((.slice (some ad964) t951.length co12):Value).ownBlock∧k_≠gb956∧k_≠gb965∧k_≠gb968) (.slice (some ad966) ((rd_T32 t951 x63_1).f1).length c964_1) ((rd_T32 t951 x63_1).f1))∧Aside0 (Kd.V k38 38 w' w.heap.size (fun k_=>some k_≠((.slice (some ad964) t951.length co12):Value).ownBlock∧k_≠gb956∧k_≠gb965∧k_≠gb968) (.slice A967_3 ((rd_T36 (rd_L7 ((rd_T32 t951 x63_1).f1) x97_3) x106_4).f3).length c967_3) ((rd_T36 (rd_L7 ((rd_T32 t951 x63_1).f1) x97_3) x106_4).f3))∧Aside0 (w'.heap[gb956]? = some (.cells #[.bool (if ((rd_T32 t951 x63_1).f0)=0 then true else x957000_1),.bool (if ((rd_T32 t951 x63_1).f0)=1 then true else x957001_1),.bool (if ((rd_T32 t951 x63_1).f0)=2 then true else x957002_1),.bool (if ((rd_T32 t951 x63_1).f0)=3 then true else x957003_1),.bool (if ((rd_T32 t951 x63_1).f0)=4 then true else x957004_1),.bool (if ((rd_T32 t951 x63_1).f0)=5 then true else x957005_1)] 28 (0,0)))∧Aside0 (w'.heap[gb965]? = some (.cells #[.int .i64 ((rd_T32 t951 x63_1).f0),(.slice (some ad966) ((rd_T32 t951 x63_1).f1).length c964_1),.string ((rd_T32 t951 x63_1).f2)] 32 (0,0)))∧Aside0 (w'.heap[gb968]? = some (.cells #[.int .u8 ((rd_T36 (rd_L7 ((rd_T32 t951 x63_1).f1) x97_3) x106_4).f0),.int .i64 ((rd_T36 (rd_L7 ((rd_T32 t951 x63_1).f1) x97_3) x106_4).f1),.bool ((rd_T36 (rd_L7 ((rd_T32 t951 x63_1).f1) x97_3) x106_4).f2),(.slice A967_3 ((rd_T36 (rd_L7 ((rd_T32 t951 x63_1).f1) x97_3) x106_4).f3).length c967_3)] 36 (0,0)))∧Aside0 (Below w.heap.size w w'))
                   case atStart=>exact⟨(0),eq_,H',⟨Nat.le_refl _⟩,⟨kdN_ HO_3.out⟩,⟨kdN_ HO_61.out⟩,⟨kdV_ HO_95.out⟩,⟨kdV_ HO_104.out⟩,⟨kdV_ HO_969003.out⟩,⟨kdV_ HO_966001.out⟩,⟨kdV_ HO_969003.out⟩,(bk_ BK956),(bk_ BK965),(bk_ BK968),(bl_ HB)⟩
                   case round =>
                    clear H'
                    obtain⟨x122_6,rfl,HA,HK6,HO_3,HO_61,HO_95,HO_104,HO_120,HO_966001,HO_969003,BK956,BK965,BK968,HB⟩:=hrel
                    cases gk with
                    | zero=>exact absurd HA.out (by simp[florinlaw06_RuleReads.l3])
                    | succ k6 =>
                     have H:=HA.out
                     clear HA
                     simp only[florinlaw06_RuleReads.l3] at H
                     by_cases c57:x122_6<(((rd_T36 (rd_L7 ((rd_T32 t951 x63_1).f1) x97_3) x106_4).f3).length:Int)
                     ·rw[if_pos c57] at H
                      have c57b0:=decide_eq_true c57
                      clear c57
                      replace H:=ifn_ H
                      obtain⟨c58,H⟩:=H
                      have c58b0:decide (0≤x122_6)=true:=decide_eq_true c58
                      clear c58
                      replace H:=ifn_ H
                      obtain⟨c59,H⟩:=H
                      have c59b0:decide (x122_6<(((rd_T36 (rd_L7 ((rd_T32 t951 x63_1).f1) x97_3) x106_4).f3).length:Int))=true:=decide_eq_true c59
                      clear c59
                      replace H:=ifp_ H
                      obtain⟨c60,H⟩:=H
                      have c60b0:decide (((rd_T38 ((rd_T36 (rd_L7 ((rd_T32 t951 x63_1).f1) x97_3) x106_4).f3) x122_6).f0)<0)=false:=decide_eq_false c60
                      clear c60
                      replace H:=ifp_ H
                      obtain⟨c61,H⟩:=H
                      have c61b0:decide (((rd_T38 ((rd_T36 (rd_L7 ((rd_T32 t951 x63_1).f1) x97_3) x106_4).f3) x122_6).f1)<((rd_T38 ((rd_T36 (rd_L7 ((rd_T32 t951 x63_1).f1) x97_3) x106_4).f3) x122_6).f0))=false:=decide_eq_false c61
                      clear c61
                      replace H:=ifp_ H
                      obtain⟨c62,H⟩:=H
                      have c62b0:decide (999999999<((rd_T38 ((rd_T36 (rd_L7 ((rd_T32 t951 x63_1).f1) x97_3) x106_4).f3) x122_6).f1))=false:=decide_eq_false c62
                      clear c62
                      have H':=Aside0.mk H
                      clear H
                      have p969:0≤(x122_6:Int):=od_
                      have q969:x122_6<(((rd_T36 (rd_L7 ((rd_T32 t951 x63_1).f1) x97_3) x106_4).f3).length:Int):=od_
                      obtain⟨ad969,e969,hx969_0,hx969_1⟩:=at_T38 (Kd.V_reads' HO_120.out).2.2 x122_6 p969 q969
                      cases e969
                      replace p969:=eq_true p969
                      replace q969:=eq_true q969
                      go_wp2_with (first|((with_reducible refine gate_dst (N:=14) rfl ?_);(try (refine gate_guard (by rfl) ?_;dsimp only));refine be_ 14 #[.int .i64 0,.int .i64 0] 38 ?_;intro gb970 hg w63 hbox hb;have BK970:=Aside0.mk (hbox);have GW970:=sz_ HB hg;have GE970:=sz_ HB hg;have NB956_970:=na_ BK956 hg;have NB970_956:=nb_ BK956 hg;have NB965_970:=na_ BK965 hg;have NB970_965:=nb_ BK965 hg;have NB968_970:=na_ BK968 hg;have NB970_968:=nb_ BK968 hg;replace HO_3:=Aside0.mk (Kd.N_below (Kd.N_elderB (krN_ HO_3) gb970 (Nat.le_of_eq hg.symm)) hb);replace HO_61:=Aside0.mk (Kd.N_below (Kd.N_elderB (krN_ HO_61) gb970 (Nat.le_of_eq hg.symm)) hb);replace HO_95:=Aside0.mk (Kd.V_below (Kd.V_elderB (krV_ HO_95) gb970 (Nat.le_of_eq hg.symm)) hb);replace HO_104:=Aside0.mk (Kd.V_below (Kd.V_elderB (krV_ HO_104) gb970 (Nat.le_of_eq hg.symm)) hb);replace HO_120:=Aside0.mk (Kd.V_below (Kd.V_elderB (krV_ HO_120) gb970 (Nat.le_of_eq hg.symm)) hb);replace HO_966001:=Aside0.mk (Kd.V_below (Kd.V_elderB (krV_ HO_966001) gb970 (Nat.le_of_eq hg.symm)) hb);replace HO_969003:=Aside0.mk (Kd.V_below (Kd.V_elderB (krV_ HO_969003) gb970 (Nat.le_of_eq hg.symm)) hb);replace BK956:=bb_ BK956 hb;replace BK965:=bb_ BK965 hb;replace BK968:=bb_ BK968 hb;replace HB:=Aside0.mk (below_step (bl_ HB).out hb);clear hb hbox hg;have hnb64:=NB970_956.out;have hnc64:=NB956_970.out;have hnb65:=NB970_965.out;have hnc65:=NB965_970.out;have hnb66:=NB970_968.out;have hnc66:=NB968_970.out;obtain⟨hcz67_0,hcz67_1,hfz67_0,hfz67_1⟩:=bo2_ BK970))
                      go_roundg k6
                      case measure=>have:=HK1.out;have:=HJ15.out;have:=HK3.out;have:=HK4.out;have:=HJ43.out;have:=HK6.out;omega
                      case rel=>exact⟨(wrap64 (x122_6+1)),eq_,H',⟨by have:=HK1.out;have:=HJ15.out;have:=HK3.out;have:=HK4.out;have:=HJ43.out;have:=HK6.out;omega⟩,⟨kdN_ (Kd.N_mono (Kd.N_far (Kd.N_far (Kd.N_mono HO_3.out (fun k_ hk=>(⟨hk,hk.2⟩:_∧k_≠gb970))) (fun _ hk=>hk.2) _) (fun _ hk=>hk.2) _) (fun _ hk=>⟨hk.1.1.1,⟨hk.1.1.2.1,hk.1.1.2.2⟩⟩))⟩,⟨kdN_ (Kd.N_mono (Kd.N_far (Kd.N_far (Kd.N_mono HO_61.out (fun k_ hk=>(⟨hk,hk.2⟩:_∧k_≠gb970))) (fun _ hk=>hk.2) _) (fun _ hk=>hk.2) _) (fun _ hk=>⟨hk.1.1.1,⟨hk.1.1.2.1,hk.1.1.2.2⟩⟩))⟩,⟨kdV_ (Kd.V_mono (Kd.V_far (Kd.V_far (Kd.V_mono HO_95.out (fun k_ hk=>(⟨hk,hk.2⟩:_∧k_≠gb970))) (fun _ hk=>hk.2) _) (fun _ hk=>hk.2) _) (fun _ hk=>⟨hk.1.1.1,⟨hk.1.1.2.1,⟨hk.1.1.2.2.1,hk.1.1.2.2.2⟩⟩⟩))⟩,⟨kdV_ (Kd.V_mono (Kd.V_far (Kd.V_far (Kd.V_mono HO_104.out (fun k_ hk=>(⟨hk,hk.2⟩:_∧k_≠gb970))) (fun _ hk=>hk.2) _) (fun _ hk=>hk.2) _) (fun _ hk=>⟨hk.1.1.1,⟨hk.1.1.2.1,⟨hk.1.1.2.2.1,hk.1.1.2.2.2⟩⟩⟩))⟩,⟨kdV_ (Kd.V_mono (Kd.V_far (Kd.V_far (Kd.V_mono HO_120.out (fun k_ hk=>(⟨hk,hk.2⟩:_∧k_≠gb970))) (fun _ hk=>hk.2) _) (fun _ hk=>hk.2) _) (fun _ hk=>⟨hk.1.1.1,⟨hk.1.1.2.1,⟨hk.1.1.2.2.1,hk.1.1.2.2.2⟩⟩⟩))⟩,⟨kdV_ (Kd.V_mono (Kd.V_far (Kd.V_far (Kd.V_mono HO_966001.out (fun k_ hk=>(⟨hk,hk.2⟩:_∧k_≠gb970))) (fun _ hk=>hk.2) _) (fun _ hk=>hk.2) _) (fun _ hk=>⟨hk.1.1.1,⟨hk.1.1.2.1,⟨hk.1.1.2.2.1,hk.1.1.2.2.2⟩⟩⟩))⟩,⟨kdV_ (Kd.V_mono (Kd.V_far (Kd.V_far (Kd.V_mono HO_969003.out (fun k_ hk=>(⟨hk,hk.2⟩:_∧k_≠gb970))) (fun _ hk=>hk.2) _) (fun _ hk=>hk.2) _) (fun _ hk=>⟨hk.1.1.1,⟨hk.1.1.2.1,⟨hk.1.1.2.2.1,hk.1.1.2.2.2⟩⟩⟩))⟩,⟨(bf_ BK956).out⟩,⟨(bf_ BK965).out⟩,⟨(bf_ BK968).out⟩,(bl_ HB)⟩
                     ·rw[if_neg c57] at H
                      have c57b0:=decide_eq_false c57
                      clear c57
                      have H':=Aside0.mk H
                      clear H
                      go_wp2
                      go_roundg k6
                      case measure=>have:=HK1.out;have:=HJ15.out;have:=HK3.out;have:=HK4.out;have:=HJ43.out;have:=HK6.out;omega
                      case rel=>exact⟨(wrap64 (x106_4+1)),eq_,H',⟨by have:=HK1.out;have:=HJ15.out;have:=HK3.out;have:=HK4.out;have:=HJ43.out;have:=HK6.out;omega⟩,⟨kdN_ (Kd.N_mono HO_3.out (fun _ hk=>⟨hk.1,hk.2.1⟩))⟩,⟨kdN_ (Kd.N_mono HO_61.out (fun _ hk=>⟨hk.1,hk.2.1⟩))⟩,⟨kdV_ (Kd.V_mono HO_95.out (fun _ hk=>⟨hk.1,⟨hk.2.1,hk.2.2.1⟩⟩))⟩,⟨kdV_ (Kd.V_mono HO_104.out (fun _ hk=>⟨hk.1,⟨hk.2.1,hk.2.2.1⟩⟩))⟩,⟨kdV_ (Kd.V_mono HO_966001.out (fun _ hk=>⟨hk.1,⟨hk.2.1,hk.2.2.1⟩⟩))⟩,(bk_ BK956),(bk_ BK965),(bl_ HB)⟩
               ·rw[if_neg c41] at H
                have c41b0:=decide_eq_false c41
                clear c41
                have H':=Aside0.mk H
                clear H
                go_wp2
                go_roundg k4
                case measure=>have:=HK1.out;have:=HJ15.out;have:=HK3.out;have:=HK4.out;omega
                case rel=>exact⟨(wrap64 (x97_3+1)),eq_,H',⟨by have:=HK1.out;have:=HJ15.out;have:=HK3.out;have:=HK4.out;omega⟩,⟨kdN_ HO_3.out⟩,⟨kdN_ HO_61.out⟩,⟨kdV_ HO_95.out⟩,⟨kdV_ HO_966001.out⟩,(bk_ BK956),(bk_ BK965),(bl_ HB)⟩
            ·rw[if_neg c37] at H
             have c37b0:=decide_eq_false c37
             clear c37
             have H':=Aside0.mk H
             clear H
             go_wp2
             go_roundg k3
             case measure=>have:=HK1.out;have:=HJ15.out;have:=HK3.out;omega
             case rel=>exact⟨(wrap64 (x63_1+1)),((if ((rd_T32 t951 x63_1).f0)=0 then true else x957000_1)),((if ((rd_T32 t951 x63_1).f0)=1 then true else x957001_1)),((if ((rd_T32 t951 x63_1).f0)=2 then true else x957002_1)),((if ((rd_T32 t951 x63_1).f0)=3 then true else x957003_1)),((if ((rd_T32 t951 x63_1).f0)=4 then true else x957004_1)),((if ((rd_T32 t951 x63_1).f0)=5 then true else x957005_1)),eq_,H',⟨by have:=HK1.out;have:=HJ15.out;have:=HK3.out;omega⟩,⟨kdN_ (Kd.N_mono HO_3.out (fun _ hk=>hk.1))⟩,⟨kdN_ (Kd.N_mono HO_61.out (fun _ hk=>hk.1))⟩,(bk_ BK956),(bl_ HB)⟩
      ·rw[if_neg c13] at H
       have c13b0:=decide_eq_false c13
       clear c13
       replace H:=Option.bind_eq_some_iff.mp H
       obtain⟨t957,A680,H⟩:=H
       have A68:=Aside0.mk A680
       clear A680
       replace H:=Option.bind_eq_some_iff.mp H
       obtain⟨⟨t958,t961,t962⟩,A690,H⟩:=H
       dsimp only at H
       have A69:=Aside0.mk A690
       clear A690
       replace H:=ifn_ H
       obtain⟨c70,H⟩:=H
       have c70b0:(t961==0)=true:=beq_iff_eq.mpr c70
       have c70b1:(t961 !=0)=false:=bne_eq_false_iff_eq.mpr c70
       clear c70
       replace H:=Option.bind_eq_some_iff.mp H
       obtain⟨t963,A710,H⟩:=H
       have A71:=Aside0.mk A710
       clear A710
       obtain rfl:=Option.some.inj H
       go_wp2_with (first|((with_reducible refine gate_callee (f:=9) rfl ?_);refine gl_ (some 147) Tryd.func9 #[.slice Ao12 t951.length co12] ?_;(with_reducible refine(rule_Rules_String.calls _ _ _ _ _ _ ?side1 ?side2 A68.out).mono ?_);(case side1=>repeat(first|exact(Kd.N_reads' HO_3.out).2.2|(with_reducible refine Kd.C_alloc ?_ _)|(with_reducible refine Kd.C_drewN ?_ _)|(with_reducible refine Kd.C_drew ?_)));(case side2=>exact(Kd.N_reads' HO_3.out).2.1);rintro e w72 ⟨rfl,hb⟩;refine⟨_,rfl,?_⟩;replace HO_3:=Aside0.mk (Kd.N_below (krN_ HO_3) hb);replace HO_61:=Aside0.mk (Kd.N_below (krN_ HO_61) hb);replace BK956:=bb_ BK956 hb;replace HB:=Aside0.mk (below_step (bl_ HB).out hb);(try clear hb);(try clear hi))|((with_reducible refine gate_callee (f:=8) rfl ?_);refine gl_ (some 148) Tryd.func8 #[.string t957] ?_;(with_reducible refine(rule_Parse.calls _ _ _ _ _ _ A69.out).mono ?_);rintro e w73 ⟨v959,rfl,ho0,hb⟩;refine⟨_,rfl,?_⟩;have n0_:=Aside0.mk (Kd.N_elder' (krN_ HO_3) (Kd.N_base ho0) hb);have n1_:=Aside0.mk (Kd.N_elder' (krN_ HO_61) (Kd.N_base ho0) hb);have n2_:=Aside0.mk (Kd.N_lower (Kd.N_mono (ok':=fun k_=>some k_≠(.slice Ao12 t951.length co12:Value).ownBlock∧some k_≠(.slice Ao12 t951.length co12:Value).ownBlock∧k_≠gb956) ho0 (fun k_ hk_=>⟨(Kd.fresh' (Kd.N_lt (krN_ HO_3)) k_ hk_),(Kd.fresh' (Kd.N_lt (krN_ HO_61)) k_ hk_),(Kd.freshB (bk_ BK956).out k_ hk_)⟩)) (below_size (bl_ HB).out));have n3_:=bb_ BK956 hb;have n4_:=Aside0.mk (below_step (bl_ HB).out hb);clear HO_3;clear HO_61;clear BK956;clear HB;have HO_3:=n0_;have HO_61:=n1_;have HO960:=n2_;have BK956:=n3_;have HB:=n4_;clear n0_ n1_ n2_ n3_ n4_;(try clear hb);(try clear ho0);obtain⟨Ao74,co74,eo74⟩:=Kd.N_slice HO960.out;subst eo74)|(go_at_call 10;(with_reducible refine(florinlaw06_Same.calls _ _ _ _ _ _ _ _ _ ?side1 ?side2 ?side3 ?side4 A71.out).mono ?_);(case side1=>repeat(first|exact(Kd.N_reads' HO960.out).2.2|(with_reducible refine Kd.C_alloc ?_ _)|(with_reducible refine Kd.C_drewN ?_ _)|(with_reducible refine Kd.C_drew ?_)));(case side2=>exact(Kd.N_reads' HO960.out).2.1);(case side3=>repeat(first|exact(Kd.N_reads' HO_3.out).2.2|(with_reducible refine Kd.C_alloc ?_ _)|(with_reducible refine Kd.C_drewN ?_ _)|(with_reducible refine Kd.C_drew ?_)));(case side4=>exact(Kd.N_reads' HO_3.out).2.1);rintro e w75 ⟨rfl,hb⟩;replace HO_3:=Aside0.mk (Kd.N_below (krN_ HO_3) hb);replace HO_61:=Aside0.mk (Kd.N_below (krN_ HO_61) hb);replace HO960:=Aside0.mk (Kd.N_below (krN_ HO960) hb);replace BK956:=bb_ BK956 hb;replace HB:=Aside0.mk (below_step (bl_ HB).out hb);(try clear hb);(try clear hi)))
       go_ret
       exact⟨ew_,(bl_ HB).out⟩
   ·rw[if_neg c7] at H
    have c7b0:(t954==0)=false:=beq_eq_false_iff_ne.mpr c7
    have c7b1:(t954 !=0)=true:=bne_iff_ne.mpr c7
    replace H:=ifn_ H
    obtain⟨c76,H⟩:=H
    have c76b0:((t951.length:Int)==0)=true:=beq_iff_eq.mpr c76
    have c76b1:((t951.length:Int) !=0)=false:=bne_eq_false_iff_eq.mpr c76
    clear c76
    replace H:=ifn_ H
    obtain⟨c77,H⟩:=H
    have c77b0:decide (0≤t955)=true:=decide_eq_true c77
    clear c77
    replace H:=ifn_ H
    obtain⟨c78,H⟩:=H
    have c78b0:decide (t955≤(a0.size:Int))=true:=decide_eq_true c78
    clear c78
    by_cases c79:t954=1
    ·rw[if_pos c79] at H
     have c79b0:(t954==1)=true:=beq_iff_eq.mpr c79
     have c79b1:(t954 !=1)=false:=bne_eq_false_iff_eq.mpr c79
     clear c79
     obtain rfl:=Option.some.inj H
     go_enter Tryd.func3,Tryd.ntmps3
     go_wp2_with (first|((with_reducible refine gate_callee (f:=7) rfl ?_);refine gl_ (some 18) Tryd.func7 #[] ?_;(with_reducible refine(florinlaw06_head.calls _ _ _ A2.out).mono ?_);rintro e w80 ⟨rfl,hb⟩;refine⟨_,rfl,?_⟩;replace HB:=Aside0.mk (below_step (bl_ HB).out hb);(try clear hb);(try clear hi))|((with_reducible refine gate_callee (f:=8) rfl ?_);refine gl_ (some 25) Tryd.func8 #[.string a0] ?_;(with_reducible refine(rule_Parse.calls _ _ _ _ _ _ A6.out).mono ?_);rintro e w81 ⟨v952,rfl,ho0,hb⟩;refine⟨_,rfl,?_⟩;have HO953:=Aside0.mk (Kd.N_lower (Kd.N_mono (ok':=fun k_=>True) ho0 (fun k_ hk_=>trivial)) (below_size (bl_ HB).out));replace HB:=Aside0.mk (below_step (bl_ HB).out hb);(try clear hb);(try clear ho0);obtain⟨Ao82,co82,eo82⟩:=Kd.N_slice HO953.out;subst eo82))
     go_ret
     exact⟨ew_,(bl_ HB).out⟩
    ·rw[if_neg c79] at H
     have c79b0:(t954==1)=false:=beq_eq_false_iff_ne.mpr c79
     have c79b1:(t954 !=1)=true:=bne_iff_ne.mpr c79
     by_cases c83:t954=2
     ·rw[if_pos c83] at H
      have c83b0:(t954==2)=true:=beq_iff_eq.mpr c83
      have c83b1:(t954 !=2)=false:=bne_eq_false_iff_eq.mpr c83
      clear c83
      obtain rfl:=Option.some.inj H
      go_enter Tryd.func3,Tryd.ntmps3
      go_wp2_with (first|((with_reducible refine gate_callee (f:=7) rfl ?_);refine gl_ (some 18) Tryd.func7 #[] ?_;(with_reducible refine(florinlaw06_head.calls _ _ _ A2.out).mono ?_);rintro e w84 ⟨rfl,hb⟩;refine⟨_,rfl,?_⟩;replace HB:=Aside0.mk (below_step (bl_ HB).out hb);(try clear hb);(try clear hi))|((with_reducible refine gate_callee (f:=8) rfl ?_);refine gl_ (some 25) Tryd.func8 #[.string a0] ?_;(with_reducible refine(rule_Parse.calls _ _ _ _ _ _ A6.out).mono ?_);rintro e w85 ⟨v952,rfl,ho0,hb⟩;refine⟨_,rfl,?_⟩;have HO953:=Aside0.mk (Kd.N_lower (Kd.N_mono (ok':=fun k_=>True) ho0 (fun k_ hk_=>trivial)) (below_size (bl_ HB).out));replace HB:=Aside0.mk (below_step (bl_ HB).out hb);(try clear hb);(try clear ho0);obtain⟨Ao86,co86,eo86⟩:=Kd.N_slice HO953.out;subst eo86))
      go_ret
      exact⟨ew_,(bl_ HB).out⟩
     ·rw[if_neg c83] at H
      have c83b0:(t954==2)=false:=beq_eq_false_iff_ne.mpr c83
      have c83b1:(t954 !=2)=true:=bne_iff_ne.mpr c83
      by_cases c87:t954=3
      ·rw[if_pos c87] at H
       have c87b0:(t954==3)=true:=beq_iff_eq.mpr c87
       have c87b1:(t954 !=3)=false:=bne_eq_false_iff_eq.mpr c87
       clear c87
       obtain rfl:=Option.some.inj H
       go_enter Tryd.func3,Tryd.ntmps3
       go_wp2_with (first|((with_reducible refine gate_callee (f:=7) rfl ?_);refine gl_ (some 18) Tryd.func7 #[] ?_;(with_reducible refine(florinlaw06_head.calls _ _ _ A2.out).mono ?_);rintro e w88 ⟨rfl,hb⟩;refine⟨_,rfl,?_⟩;replace HB:=Aside0.mk (below_step (bl_ HB).out hb);(try clear hb);(try clear hi))|((with_reducible refine gate_callee (f:=8) rfl ?_);refine gl_ (some 25) Tryd.func8 #[.string a0] ?_;(with_reducible refine(rule_Parse.calls _ _ _ _ _ _ A6.out).mono ?_);rintro e w89 ⟨v952,rfl,ho0,hb⟩;refine⟨_,rfl,?_⟩;have HO953:=Aside0.mk (Kd.N_lower (Kd.N_mono (ok':=fun k_=>True) ho0 (fun k_ hk_=>trivial)) (below_size (bl_ HB).out));replace HB:=Aside0.mk (below_step (bl_ HB).out hb);(try clear hb);(try clear ho0);obtain⟨Ao90,co90,eo90⟩:=Kd.N_slice HO953.out;subst eo90))
       go_ret
       exact⟨ew_,(bl_ HB).out⟩
      ·rw[if_neg c87] at H
       have c87b0:(t954==3)=false:=beq_eq_false_iff_ne.mpr c87
       have c87b1:(t954 !=3)=true:=bne_iff_ne.mpr c87
       obtain rfl:=Option.some.inj H
       go_enter Tryd.func3,Tryd.ntmps3
       go_wp2_with (first|((with_reducible refine gate_callee (f:=7) rfl ?_);refine gl_ (some 18) Tryd.func7 #[] ?_;(with_reducible refine(florinlaw06_head.calls _ _ _ A2.out).mono ?_);rintro e w91 ⟨rfl,hb⟩;refine⟨_,rfl,?_⟩;replace HB:=Aside0.mk (below_step (bl_ HB).out hb);(try clear hb);(try clear hi))|((with_reducible refine gate_callee (f:=8) rfl ?_);refine gl_ (some 25) Tryd.func8 #[.string a0] ?_;(with_reducible refine(rule_Parse.calls _ _ _ _ _ _ A6.out).mono ?_);rintro e w92 ⟨v952,rfl,ho0,hb⟩;refine⟨_,rfl,?_⟩;have HO953:=Aside0.mk (Kd.N_lower (Kd.N_mono (ok':=fun k_=>True) ho0 (fun k_ hk_=>trivial)) (below_size (bl_ HB).out));replace HB:=Aside0.mk (below_step (bl_ HB).out hb);(try clear hb);(try clear ho0);obtain⟨Ao93,co93,eo93⟩:=Kd.N_slice HO953.out;subst eo93))
       go_ret
       exact⟨ew_,(bl_ HB).out⟩
 ·replace c3:=Bool.eq_false_iff.mpr c3
  subst c3
  have H1:(none)=some r:=by rw[if_neg (show ¬(false=true) by decide)] at H;exact H
  clear H
  have H:=H1
  clear H1
  exact absurd H (by simp)

/-- THE ONE PURE STATEMENT of florinlaw06_RuleReads: yours. -/
def florinlaw06_RuleReads.Pure:Prop:=∀(a0:ByteArray),a0.size≤140737488351232→∃k,florinlaw06_RuleReads.f k a0=some true
theorem florinlaw06_RuleReads.walk (P:florinlaw06_RuleReads.Pure) (a0:ByteArray) (w:World) (w0:a0.size≤140737488351232) (ht:Lib.TabIs Tryd.prog w "internal/strconv.uint64pow10" .u64 Lib.pow10Tab) :
  Calls Tryd.prog 3 #[.string a0] w fun e w'=>e= .returned (.bool true)∧Below w.heap.size w w':=by
 obtain⟨k,h⟩:=P a0 w0
 refine(florinlaw06_RuleReads.calls _ _ _ _ h).mono ?_
 rintro e w' ⟨rfl,hd⟩
 exact⟨rfl,hd⟩

end Go.Proofs.YtcokjmnkieakiaaDoor.P
