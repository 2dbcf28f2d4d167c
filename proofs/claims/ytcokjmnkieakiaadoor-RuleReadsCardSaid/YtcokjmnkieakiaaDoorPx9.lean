-- written by a program of this session (wip/p2)
import Derived.Test.YtcokjmnkieakiaaDoorPx0
import Derived.Test.YtcokjmnkieakiaaDoorPx1
import Derived.Test.YtcokjmnkieakiaaDoorPx2
import Derived.Test.YtcokjmnkieakiaaDoorPx8
namespace Go.Proofs.YtcokjmnkieakiaaDoor.P
open Go.RowKit Go.Proofs.YtcokjmnkieakiaaDoorW.PrintWords Go.Proofs.YtcokjmnkieakiaaDoorW.PrintLast Go.Proofs.YtcokjmnkieakiaaDoorW.PrintMore
attribute [local go_sem] max2_int min2_int max_two min_two max_three min_three max_four min_four   -- for this text's walks alone
set_option linter.unusedVariables false
set_option linter.unusedSimpArgs false

attribute [local go_sem high] eqA38
/-! ### rule_Rule_String: function 15 -/
mutual
def rule_Rule_String.l0:Nat→List ByteArray→List (List (S36))→Int→Int→Int→List (List (S36))→ByteArray→Option (ByteArray)
 | 0,_,_,_,_,_,_,_=>none
 | k+1,x3,x11,x12,x13,x894000,x894001,x894002=>if x13<x12 then (if 0≤x13 then (if x13<(x11.length:Int) then (rule_Rule_String.l1 k x3 ([]:List ByteArray) x11 x12 x13 (rd_L7 x11 x13) ((rd_L7 x11 x13).length:Int) 0 x894000 x894001 x894002) else (none)) else (none)) else ((rule_Cat_String.f x894000).bind fun t905=>(if t905.size+1≤9223372036854775807 then (if (x3.length:Int)>0 then ((strings_Join.f x3 (⟨#[32,111,114,32]⟩:ByteArray)).bind fun t906=>(if 1+t906.size≤9223372036854775807 then (if (t905++(⟨#[58]⟩:ByteArray)).size+((⟨#[32]⟩:ByteArray)++t906).size≤9223372036854775807 then (if x894002.toList=([]:List UInt8) then (some ((t905++(⟨#[58]⟩:ByteArray))++((⟨#[32]⟩:ByteArray)++t906))) else (if 1+x894002.size≤9223372036854775807 then (if ((t905++(⟨#[58]⟩:ByteArray))++((⟨#[32]⟩:ByteArray)++t906)).size+((⟨#[32]⟩:ByteArray)++x894002).size≤9223372036854775807 then (some (((t905++(⟨#[58]⟩:ByteArray))++((⟨#[32]⟩:ByteArray)++t906))++((⟨#[32]⟩:ByteArray)++x894002))) else (none)) else (none))) else (none)) else (none))) else (if x894002.toList=([]:List UInt8) then (some (t905++(⟨#[58]⟩:ByteArray))) else (if 1+x894002.size≤9223372036854775807 then (if (t905++(⟨#[58]⟩:ByteArray)).size+((⟨#[32]⟩:ByteArray)++x894002).size≤9223372036854775807 then (some ((t905++(⟨#[58]⟩:ByteArray))++((⟨#[32]⟩:ByteArray)++x894002))) else (none)) else (none)))) else (none)))
def rule_Rule_String.l1:Nat→List ByteArray→List ByteArray→List (List (S36))→Int→Int→List (S36)→Int→Int→Int→List (List (S36))→ByteArray→Option (ByteArray)
 | 0,_,_,_,_,_,_,_,_,_,_,_=>none
 | k+1,x3,x6,x11,x12,x13,x17,x18,x19,x894000,x894001,x894002=>if x19<x18 then (if 0≤x19 then (if x19<(x17.length:Int) then ((rule_Rel_String.f k ((rd_T36 x17 x19).f0) ((rd_T36 x17 x19).f1) ((rd_T36 x17 x19).f2) ((rd_T36 x17 x19).f3)).bind fun t897=>(if x6.length<8796093022208 then (rule_Rule_String.l1 k x3 (x6++[t897]) x11 x12 x13 x17 x18 (wrap64 (x19+1)) x894000 x894001 x894002) else (none))) else (none)) else (none)) else ((strings_Join.f x6 (⟨#[32,97,110,100,32]⟩:ByteArray)).bind fun t901=>(if x3.length<8796093022208 then (rule_Rule_String.l0 k (x3++[t901]) x11 x12 (wrap64 (x13+1)) x894000 x894001 x894002) else (none)))
end
def rule_Rule_String.f (k:Nat) (a0_0:Int) (l0_1:List (List (S36))) (a0_2:ByteArray):Option (ByteArray):=rule_Rule_String.l0 k ([]:List ByteArray) l0_1 (l0_1.length:Int) 0 a0_0 l0_1 a0_2
set_option maxHeartbeats 64000000 in
set_option maxRecDepth 100000 in
theorem rule_Rule_String.calls (k:Nat) (a0_0:Int) (A0_1:Option Addr) (c0_1:Nat) (l0_1:List (List (S36))) (a0_2:ByteArray) (r:ByteArray) (w:World) (hr0_1:Kd.C (Kd.slice 36 k36) w A0_1 l0_1.length l0_1) (hc0_1:l0_1.length≤c0_1) (h:rule_Rule_String.f k a0_0 l0_1 a0_2=some r) (ht:Lib.TabIs Tryd.prog w "internal/strconv.uint64pow10" .u64 Lib.pow10Tab:=by first|assumption|exact tb_ (by assumption) (bl_ (by assumption)).out) :
  Calls Tryd.prog 15 #[.agg #[.int .i64 a0_0,.slice A0_1 l0_1.length c0_1,.string a0_2]] w fun e w'=>e= .returned (.string r)∧Below w.heap.size w w':=by
 have hu32:=Tryd.underlying32
 have hu36:=Tryd.underlying36
 have HR0_1:=Aside0.mk hr0_1
 have HC0_1:=Aside0.mk hc0_1
 clear hr0_1 hc0_1
 have HB:=Aside0.mk (Below.refl w.heap.size w)
 have H:(rule_Rule_String.l0 k ([]:List ByteArray) l0_1 (l0_1.length:Int) 0 a0_0 l0_1 a0_2)=some r:=h
 clear h
 have H':=Aside0.mk H
 clear H
 go_enter Tryd.func15,Tryd.ntmps15
 go_wp2_with (first|((with_reducible refine gate_dst (N:=1) rfl ?_);refine be_ 1 #[.int .i64 a0_0,.slice A0_1 l0_1.length c0_1,.string a0_2] 32 ?_;intro gb893 hg w2 hbox hb;have BK893:=Aside0.mk (hbox);have GW893:=sz_ HB hg;have GE893:=sz_ HB hg;replace HB:=Aside0.mk (below_step (bl_ HB).out hb);clear hb hbox hg;obtain⟨hcz3_0,hcz3_1,hcz3_2,hfz3_0,hfz3_1,hfz3_2⟩:=bo3_ BK893))
 go_loopg [3,13] k (fun kq v3 v13 w'=>∃(x3_1:List ByteArray) (x13_1:Int),v13= .int .i64 x13_1∧Aside0 (rule_Rule_String.l0 kq x3_1 l0_1 (l0_1.length:Int) x13_1 a0_0 l0_1 a0_2=some r)∧Aside0 (kq≤k)∧Aside0 (Kd.R Kd.string 9 w' w.heap.size (fun _=>True) v3 x3_1)∧Aside0 (w'.heap[gb893]? = some (.cells #[.int .i64 a0_0,(.slice A0_1 l0_1.length c0_1),.string a0_2] 32 (0,0)))∧Aside0 (Below w.heap.size w w'))
 case atStart=>exact⟨(([]:List ByteArray)),(0),eq_,H',⟨Nat.le_refl _⟩,⟨by first|exact Kd.R_nil _ _ _ _ _|exact Kd.N_nil _ _ _ _ _|exact Kd.V_nil _ _ _ _ _|exact Kd.Q_nil _ _ _ _ _|exact Kd.S_nil _ _ _ _ _⟩,(bk_ BK893),(bl_ HB)⟩
 case round =>
  clear H'
  obtain⟨x3_1,x13_1,rfl,HA,HK1,HO_3,BK893,HB⟩:=hrel
  cases gk with
  | zero=>exact absurd HA.out (by simp[rule_Rule_String.l0])
  | succ k1 =>
   have H:=HA.out
   clear HA
   simp only[rule_Rule_String.l0] at H
   by_cases c4:x13_1<(l0_1.length:Int)
   ·rw[if_pos c4] at H
    have c4b0:=decide_eq_true c4
    clear c4
    replace H:=ifn_ H
    obtain⟨c5,H⟩:=H
    have c5b0:decide (0≤x13_1)=true:=decide_eq_true c5
    clear c5
    replace H:=ifn_ H
    obtain⟨c6,H⟩:=H
    have c6b0:decide (x13_1<(l0_1.length:Int))=true:=decide_eq_true c6
    clear c6
    have H':=Aside0.mk H
    clear H
    have p894:0≤(x13_1:Int):=od_
    have q894:x13_1<(l0_1.length:Int):=od_
    obtain⟨ad894,A894_0,c894_0,e894,hx894_0,hl894_0,hi894_0⟩:=at_L7 HR0_1.out x13_1 p894 q894
    cases e894
    replace hx894_0:=hbc_ HB hx894_0
    have HR894_0:=Aside0.mk hi894_0
    have HC894_0:=Aside0.mk hl894_0
    clear hi894_0 hl894_0
    replace p894:=eq_true p894
    replace q894:=eq_true q894
    go_wp2
    go_loopg [6,19] k1 (fun kq v6 v19 w'=>∃(x6_2:List ByteArray) (x19_2:Int),v19= .int .i64 x19_2∧Aside0 (rule_Rule_String.l1 kq x3_1 x6_2 l0_1 (l0_1.length:Int) x13_1 (rd_L7 l0_1 x13_1) ((rd_L7 l0_1 x13_1).length:Int) x19_2 a0_0 l0_1 a0_2=some r)∧Aside0 (kq≤k1)∧Aside0 (Kd.R Kd.string 9 w' w.heap.size (fun k_=>some k_≠(v6:Value).ownBlock) u3 x3_1)∧Aside0 (Kd.R Kd.string 9 w' w.heap.size (fun k_=>some k_≠(u3:Value).ownBlock) v6 x6_2)∧Aside0 (w'.heap[gb893]? = some (.cells #[.int .i64 a0_0,(.slice (some ad894) l0_1.length c0_1),.string a0_2] 32 (0,0)))∧Aside0 (Below w.heap.size w w'))
    case atStart=>exact⟨(([]:List ByteArray)),(0),eq_,H',⟨Nat.le_refl _⟩,⟨kdR_ (Kd.R_mono HO_3.out (fun _ hk=>(by simp[Value.ownBlock])))⟩,⟨by first|exact Kd.R_nil _ _ _ _ _|exact Kd.N_nil _ _ _ _ _|exact Kd.V_nil _ _ _ _ _|exact Kd.Q_nil _ _ _ _ _|exact Kd.S_nil _ _ _ _ _⟩,(bk_ BK893),(bl_ HB)⟩
    case round =>
     clear H'
     obtain⟨x6_2,x19_2,rfl,HA,HK2,HO_3,HO_6,BK893,HB⟩:=hrel
     cases gk with
     | zero=>exact absurd HA.out (by simp[rule_Rule_String.l1])
     | succ k2 =>
      have H:=HA.out
      clear HA
      simp only[rule_Rule_String.l1] at H
      by_cases c7:x19_2<((rd_L7 l0_1 x13_1).length:Int)
      ·rw[if_pos c7] at H
       have c7b0:=decide_eq_true c7
       clear c7
       replace H:=ifn_ H
       obtain⟨c8,H⟩:=H
       have c8b0:decide (0≤x19_2)=true:=decide_eq_true c8
       clear c8
       replace H:=ifn_ H
       obtain⟨c9,H⟩:=H
       have c9b0:decide (x19_2<((rd_L7 l0_1 x13_1).length:Int))=true:=decide_eq_true c9
       clear c9
       replace H:=Option.bind_eq_some_iff.mp H
       obtain⟨t897,A100,H⟩:=H
       have A10:=Aside0.mk A100
       clear A100
       replace H:=ifn_ H
       obtain⟨c11,H⟩:=H
       have LMc11:=Aside0.mk c11
       clear c11
       obtain⟨y898,hy898⟩:∃y_:List ByteArray,y_=(x6_2++[t897]):=⟨_,rfl⟩
       replace H:(rule_Rule_String.l1 k2 x3_1 y898 l0_1 (l0_1.length:Int) x13_1 (rd_L7 l0_1 x13_1) ((rd_L7 l0_1 x13_1).length:Int) (wrap64 (x19_2+1)) a0_0 l0_1 a0_2)=some r:=by first|(rw[hy898];with_reducible exact H)|(have H2_:=(Option.bind_some _ _).symm.trans H;rw[hy898];with_reducible exact H2_)|(have H2_:=(Option.bind_some _ _).symm.trans H;with_reducible exact H2_)|with_reducible exact H|(rw[hy898];exact H)|exact H
       have Ny898:=Aside0.mk hy898
       clear hy898
       have H':=Aside0.mk H
       clear H
       have p895:0≤(x19_2:Int):=od_
       have q895:x19_2<((rd_L7 l0_1 x13_1).length:Int):=od_
       obtain⟨ad895,A895_3,c895_3,e895,hx895_0,hx895_1,hx895_2,hx895_3,hl895_3,hi895_3⟩:=at_T36 HR894_0.out x19_2 p895 q895
       cases e895
       replace hx895_0:=hbc_ HB hx895_0
       replace hx895_1:=hbc_ HB hx895_1
       replace hx895_2:=hbc_ HB hx895_2
       replace hx895_3:=hbc_ HB hx895_3
       have HR895_3:=Aside0.mk hi895_3
       have HC895_3:=Aside0.mk hl895_3
       clear hi895_3 hl895_3
       replace p895:=eq_true p895
       replace q895:=eq_true q895
       go_wp2_with (first|((with_reducible refine gate_dst (N:=8) rfl ?_);refine be_ 8 #[.int .u8 0,.int .i64 0,.bool false,.slice none 0 0] 36 ?_;intro gb896 hg w12 hbox hb;have BK896:=Aside0.mk (hbox);have GW896:=sz_ HB hg;have GE896:=sz_ HB hg;have NB893_896:=na_ BK893 hg;have NB896_893:=nb_ BK893 hg;replace HO_3:=kb_ HO_3 hb;replace HO_6:=kb_ HO_6 hb;replace BK893:=bb_ BK893 hb;replace HB:=Aside0.mk (below_step (bl_ HB).out hb);clear hb hbox hg;have hnb13:=NB896_893.out;have hnc13:=NB893_896.out;obtain⟨hcz14_0,hcz14_1,hcz14_2,hcz14_3,hfz14_0,hfz14_1,hfz14_2,hfz14_3⟩:=bo4_ BK896)|((with_reducible refine gate_callee (f:=22) rfl ?_);refine gl_ (some 25) Tryd.func22 #[.agg #[.int .u8 ((rd_T36 (rd_L7 l0_1 x13_1) x19_2).f0),.int .i64 ((rd_T36 (rd_L7 l0_1 x13_1) x19_2).f1),.bool ((rd_T36 (rd_L7 l0_1 x13_1) x19_2).f2),.slice A895_3 ((rd_T36 (rd_L7 l0_1 x13_1) x19_2).f3).length c895_3]] ?_;(with_reducible refine(rule_Rel_String.calls _ _ _ _ _ _ _ _ _ ?side1 ?side2 A10.out).mono ?_);(case side1=>exact Kd.C_below HR895_3.out (bl_ HB).out);(case side2=>exact HC895_3.out);rintro e w15 ⟨rfl,hb⟩;refine⟨_,rfl,?_⟩;have n0_:=Aside0.mk (Kd.R_below (kdR_ ((Kd.R_mono (Kd.R_far (Kd.R_far (Kd.R_far (Kd.R_far (Kd.R_types HO_3.out BK896.out (by decide)) (fun _ hk=>hk.2) _) (fun _ hk=>hk.2) _) (fun _ hk=>hk.2) _) (fun _ hk=>hk.2) _) (fun _ h_=>h_.1)))) hb);have n1_:=Aside0.mk (Kd.R_below (kdR_ ((Kd.R_mono (Kd.R_far (Kd.R_far (Kd.R_far (Kd.R_far (Kd.R_types HO_6.out BK896.out (by decide)) (fun _ hk=>hk.2) _) (fun _ hk=>hk.2) _) (fun _ hk=>hk.2) _) (fun _ hk=>hk.2) _) (fun _ h_=>h_.1)))) hb);have n2_:=bz_ BK893 hb;have n3_:=Aside0.mk (blk_below (g:=gb896) (o:= .cells #[.int .u8 ((rd_T36 (rd_L7 l0_1 x13_1) x19_2).f0),.int .i64 ((rd_T36 (rd_L7 l0_1 x13_1) x19_2).f1),.bool ((rd_T36 (rd_L7 l0_1 x13_1) x19_2).f2),.slice A895_3 ((rd_T36 (rd_L7 l0_1 x13_1) x19_2).f3).length c895_3] 36 (0,0)) ((bp_ BK896).out) hb);have n4_:=Aside0.mk (below_step (bl_ HB).out hb);clear HO_3;clear HO_6;clear BK893;clear BK896;clear HB;have HO_3:=n0_;have HO_6:=n1_;have BK893:=n2_;have BK896:=n3_;have HB:=n4_;clear n0_ n1_ n2_ n3_ n4_;(try clear hb);(try clear hi))|((with_reducible refine gate_builtin (b:= .append) (xs:= #[.tmp 23,.tmp 26]) rfl ?_);at_builtin;refine Kd.R_append Kd.string (w0:=w) w.heap.size rfl (.tmp 23) (.tmp 26) 47 9 (.string ⟨#[]⟩) 16 rfl Tryd.underlying47 info9 rfl (by decide) (by omega) u6 x6_2 t897 [.string t897] (fun k_=>some k_≠(u3:Value).ownBlock) (fun _=>False) rfl rfl ?aP (fun _ hk=>hk.elim) ?aF ?aO ?aB ?aS ?aL ?_;(case aP=>exact rfl);(case aB=>exact(bl_ HB).out);(case aF=>exact(fun k_ hk=>Kd.fresh' (kx_ HO_3) k_ hk));(case aO=>exact(kr_ HO_6));(case aS=>exact(below_size (bl_ HB).out));(case aL=>have:=LMc11.out;omega);intro v899 w16 ho hb hg hat;rw[← Ny898.out] at ho;have n0_:=Aside0.mk (Kd.R_after (ok:=(fun _=>True)) (kdR_ (Kd.R_mono HO_3.out (fun _ hk=>⟨trivial,hk⟩))) hg hat);have n1_:=Aside0.mk (blk_grown (bk_ BK893).out hg (Kd.R_ne HO_6.out BK893.out (by decide)));have n2_:=Aside0.mk (blk_grown (bk_ BK896).out hg (Kd.R_ne HO_6.out BK896.out (by decide)));have n3_:=Aside0.mk (hb);have n4_:=Aside0.mk (ho);clear HO_3;clear BK893;clear BK896;clear HB;clear HO_6;have HO_3:=n0_;have BK893:=n1_;have BK896:=n2_;have HB:=n3_;have HO900:=n4_;clear n0_ n1_ n2_ n3_ n4_;clear ho hb hg hat))
       go_roundg k2
       case measure=>have:=HK1.out;have:=HK2.out;omega
       case rel=>exact⟨(y898),(wrap64 (x19_2+1)),eq_,H',⟨by have:=HK1.out;have:=HK2.out;omega⟩,⟨kdR_ (Kd.R_mono HO_3.out (fun _ hk=>hk.2))⟩,⟨kdR_ HO900.out⟩,(bk_ BK893),(bl_ HB)⟩
      ·rw[if_neg c7] at H
       have c7b0:=decide_eq_false c7
       clear c7
       replace H:=Option.bind_eq_some_iff.mp H
       obtain⟨t901,A170,H⟩:=H
       have A17:=Aside0.mk A170
       clear A170
       replace H:=ifn_ H
       obtain⟨c18,H⟩:=H
       have LMc18:=Aside0.mk c18
       clear c18
       obtain⟨y902,hy902⟩:∃y_:List ByteArray,y_=(x3_1++[t901]):=⟨_,rfl⟩
       replace H:(rule_Rule_String.l0 k2 y902 l0_1 (l0_1.length:Int) (wrap64 (x13_1+1)) a0_0 l0_1 a0_2)=some r:=by first|(rw[hy902];with_reducible exact H)|(have H2_:=(Option.bind_some _ _).symm.trans H;rw[hy902];with_reducible exact H2_)|(have H2_:=(Option.bind_some _ _).symm.trans H;with_reducible exact H2_)|with_reducible exact H|(rw[hy902];exact H)|exact H
       have Ny902:=Aside0.mk hy902
       clear hy902
       have H':=Aside0.mk H
       clear H
       obtain⟨Ao19,co19,eo19⟩:=Kd.R_slice HO_6.out
       subst eo19
       go_wp2_with (first|((with_reducible refine gate_callee (f:=16) rfl ?_);refine gl_ (some 31) Tryd.func16 #[.slice Ao19 x6_2.length co19,.string (⟨#[32,97,110,100,32]⟩:ByteArray)] ?_;(with_reducible refine(strings_Join.calls _ _ _ _ _ _ ?side1 ?side2 A17.out).mono ?_);(case side1=>exact kc_ HO_6);(case side2=>exact kl_ HO_6);rintro e w20 ⟨rfl,hb⟩;refine⟨_,rfl,?_⟩;replace HO_3:=kb_ HO_3 hb;replace HO_6:=kb_ HO_6 hb;replace BK893:=bb_ BK893 hb;replace HB:=Aside0.mk (below_step (bl_ HB).out hb);(try clear hb);(try clear hi))|((with_reducible refine gate_builtin (b:= .append) (xs:= #[.tmp 29,.tmp 32]) rfl ?_);at_builtin;refine Kd.R_append Kd.string (w0:=w) w.heap.size rfl (.tmp 29) (.tmp 32) 47 9 (.string ⟨#[]⟩) 16 rfl Tryd.underlying47 info9 rfl (by decide) (by omega) u3 x3_1 t901 [.string t901] (fun k_=>some k_≠(.slice Ao19 x6_2.length co19:Value).ownBlock) (fun _=>False) rfl rfl ?aP (fun _ hk=>hk.elim) ?aF ?aO ?aB ?aS ?aL ?_;(case aP=>exact rfl);(case aB=>exact(bl_ HB).out);(case aF=>exact(fun k_ hk=>Kd.fresh' (kx_ HO_6) k_ hk));(case aO=>exact(kr_ HO_3));(case aS=>exact(below_size (bl_ HB).out));(case aL=>have:=LMc18.out;omega);intro v903 w21 ho hb hg hat;rw[← Ny902.out] at ho;have n0_:=Aside0.mk (Kd.R_after (ok:=(fun _=>True)) (kdR_ (Kd.R_mono HO_6.out (fun _ hk=>⟨trivial,hk⟩))) hg hat);have n1_:=Aside0.mk (blk_grown (bk_ BK893).out hg (Kd.R_ne HO_3.out BK893.out (by decide)));have n2_:=Aside0.mk (hb);have n3_:=Aside0.mk (ho);clear HO_6;clear BK893;clear HB;clear HO_3;have HO_6:=n0_;have BK893:=n1_;have HB:=n2_;have HO904:=n3_;clear n0_ n1_ n2_ n3_;clear ho hb hg hat))
       go_roundg k2
       case measure=>have:=HK1.out;have:=HK2.out;omega
       case rel=>exact⟨(y902),(wrap64 (x13_1+1)),eq_,H',⟨by have:=HK1.out;have:=HK2.out;omega⟩,⟨kdR_ (Kd.R_mono HO904.out (fun _ hk=>trivial))⟩,(bk_ BK893),(bl_ HB)⟩
   ·rw[if_neg c4] at H
    have c4b0:=decide_eq_false c4
    clear c4
    replace H:=Option.bind_eq_some_iff.mp H
    obtain⟨t905,A220,H⟩:=H
    have A22:=Aside0.mk A220
    clear A220
    replace H:=ifn_ H
    obtain⟨c23,H⟩:=H
    have c23b0:=eq_true c23
    have c23b1:decide (t905.size+1≤9223372036854775807)=true:=decide_eq_true c23
    try have c23b2:=eq_false (Nat.not_lt.2 c23)
    by_cases c24:(x3_1.length:Int)>0
    ·rw[if_pos c24] at H
     have c24b0:decide (0<(x3_1.length:Int))=true:=decide_eq_true c24
     have c24b1:decide (0<x3_1.length)=true:=decide_eq_true (by omega)
     clear c24
     replace H:=Option.bind_eq_some_iff.mp H
     obtain⟨t906,A250,H⟩:=H
     have A25:=Aside0.mk A250
     clear A250
     replace H:=ifn_ H
     obtain⟨c26,H⟩:=H
     have c26b0:=eq_true c26
     have c26b1:decide (1+t906.size≤9223372036854775807)=true:=decide_eq_true c26
     try have c26b2:=eq_false (Nat.not_lt.2 c26)
     replace H:=ifn_ H
     obtain⟨c27,H⟩:=H
     have c27b0:=eq_true c27
     have c27b1:decide ((t905++(⟨#[58]⟩:ByteArray)).size+((⟨#[32]⟩:ByteArray)++t906).size≤9223372036854775807)=true:=decide_eq_true c27
     try (have c27b5:=c27b0;simp only[ByteArray.size_append,Int.natCast_add] at c27b5)
     try have c27b2:=eq_false (Nat.not_lt.2 c27)
     try have c27b3:(9223372036854775807<t905.size+1+1+t906.size)=False:=eq_false (Nat.not_lt.2 (by have h_:=c27;simp only[ByteArray.size_append] at h_;exact h_))
     try have c27b4:(t905.size+1+1+t906.size≤9223372036854775807)=True:=eq_true (by have h_:=c27;simp only[ByteArray.size_append] at h_;exact h_)
     by_cases c28:a0_2.toList=([]:List UInt8)
     ·rw[if_pos c28] at H
      have c28b0:(a0_2.toList==([]:List UInt8))=true:=beq_iff_eq.mpr c28
      have c28b1:(a0_2.toList !=([]:List UInt8))=false:=bne_eq_false_iff_eq.mpr c28
      have c28b2:(a0_2.toList.isEmpty)=true:=by rw[c28];rfl
      clear c28
      obtain rfl:=Option.some.inj H
      obtain⟨hcz29_0,hcz29_1,hcz29_2,hfz29_0,hfz29_1,hfz29_2⟩:=bo3_ BK893
      go_wp2_with (first|((with_reducible refine gate_callee (f:=12) rfl ?_);refine gl_ (some 37) Tryd.func12 #[.int .i64 a0_0] ?_;(with_reducible refine(rule_Cat_String.calls _ _ _ A22.out).mono ?_);rintro e w30 ⟨rfl,hb⟩;refine⟨_,rfl,?_⟩;replace HO_3:=kb_ HO_3 hb;replace BK893:=bb_ BK893 hb;replace HB:=Aside0.mk (below_step (bl_ HB).out hb);(try clear hb);obtain⟨Ao31,co31,eo31⟩:=Kd.R_slice HO_3.out;subst eo31)|((with_reducible refine gate_callee (f:=16) rfl ?_);refine gl_ (some 44) Tryd.func16 #[.slice Ao31 x3_1.length co31,.string (⟨#[32,111,114,32]⟩:ByteArray)] ?_;(with_reducible refine(strings_Join.calls _ _ _ _ _ _ ?side1 ?side2 A25.out).mono ?_);(case side1=>exact kc_ HO_3);(case side2=>exact kl_ HO_3);rintro e w32 ⟨rfl,hb⟩;refine⟨_,rfl,?_⟩;replace HO_3:=kb_ HO_3 hb;replace BK893:=bb_ BK893 hb;replace HB:=Aside0.mk (below_step (bl_ HB).out hb);(try clear hb);obtain⟨hcz33_0,hcz33_1,hcz33_2,hfz33_0,hfz33_1,hfz33_2⟩:=bo3_ BK893))
      go_ret
      exact⟨ew_,(bl_ HB).out⟩
     ·rw[if_neg c28] at H
      have c28b0:(a0_2.toList==([]:List UInt8))=false:=beq_eq_false_iff_ne.mpr c28
      have c28b1:(a0_2.toList !=([]:List UInt8))=true:=bne_iff_ne.mpr c28
      have c28b2:(a0_2.toList.isEmpty)=false:=by rw[given_isEmpty,bne_iff_ne.mpr c28];rfl
      replace H:=ifn_ H
      obtain⟨c34,H⟩:=H
      have c34b0:=eq_true c34
      have c34b1:decide (1+a0_2.size≤9223372036854775807)=true:=decide_eq_true c34
      try have c34b2:=eq_false (Nat.not_lt.2 c34)
      replace H:=ifn_ H
      obtain⟨c35,H⟩:=H
      have c35b0:=eq_true c35
      have c35b1:decide (((t905++(⟨#[58]⟩:ByteArray))++((⟨#[32]⟩:ByteArray)++t906)).size+((⟨#[32]⟩:ByteArray)++a0_2).size≤9223372036854775807)=true:=decide_eq_true c35
      try (have c35b5:=c35b0;simp only[ByteArray.size_append,Int.natCast_add] at c35b5)
      try have c35b2:=eq_false (Nat.not_lt.2 c35)
      try have c35b3:(9223372036854775807<t905.size+1+1+t906.size+1+a0_2.size)=False:=eq_false (Nat.not_lt.2 (by have h_:=c35;simp only[ByteArray.size_append] at h_;exact h_))
      try have c35b4:(t905.size+1+1+t906.size+1+a0_2.size≤9223372036854775807)=True:=eq_true (by have h_:=c35;simp only[ByteArray.size_append] at h_;exact h_)
      obtain rfl:=Option.some.inj H
      obtain⟨hcz36_0,hcz36_1,hcz36_2,hfz36_0,hfz36_1,hfz36_2⟩:=bo3_ BK893
      go_wp2_with (first|((with_reducible refine gate_callee (f:=12) rfl ?_);refine gl_ (some 37) Tryd.func12 #[.int .i64 a0_0] ?_;(with_reducible refine(rule_Cat_String.calls _ _ _ A22.out).mono ?_);rintro e w37 ⟨rfl,hb⟩;refine⟨_,rfl,?_⟩;replace HO_3:=kb_ HO_3 hb;replace BK893:=bb_ BK893 hb;replace HB:=Aside0.mk (below_step (bl_ HB).out hb);(try clear hb);obtain⟨Ao38,co38,eo38⟩:=Kd.R_slice HO_3.out;subst eo38)|((with_reducible refine gate_callee (f:=16) rfl ?_);refine gl_ (some 44) Tryd.func16 #[.slice Ao38 x3_1.length co38,.string (⟨#[32,111,114,32]⟩:ByteArray)] ?_;(with_reducible refine(strings_Join.calls _ _ _ _ _ _ ?side1 ?side2 A25.out).mono ?_);(case side1=>exact kc_ HO_3);(case side2=>exact kl_ HO_3);rintro e w39 ⟨rfl,hb⟩;refine⟨_,rfl,?_⟩;replace HO_3:=kb_ HO_3 hb;replace BK893:=bb_ BK893 hb;replace HB:=Aside0.mk (below_step (bl_ HB).out hb);(try clear hb);obtain⟨hcz40_0,hcz40_1,hcz40_2,hfz40_0,hfz40_1,hfz40_2⟩:=bo3_ BK893))
      go_ret
      exact⟨ew_,(bl_ HB).out⟩
    ·rw[if_neg c24] at H
     have c24b0:decide (0<(x3_1.length:Int))=false:=decide_eq_false c24
     have c24b1:decide (0<x3_1.length)=false:=decide_eq_false (by omega)
     clear c24
     by_cases c41:a0_2.toList=([]:List UInt8)
     ·rw[if_pos c41] at H
      have c41b0:(a0_2.toList==([]:List UInt8))=true:=beq_iff_eq.mpr c41
      have c41b1:(a0_2.toList !=([]:List UInt8))=false:=bne_eq_false_iff_eq.mpr c41
      have c41b2:(a0_2.toList.isEmpty)=true:=by rw[c41];rfl
      clear c41
      obtain rfl:=Option.some.inj H
      obtain⟨hcz42_0,hcz42_1,hcz42_2,hfz42_0,hfz42_1,hfz42_2⟩:=bo3_ BK893
      go_wp2_with (first|((with_reducible refine gate_callee (f:=12) rfl ?_);refine gl_ (some 37) Tryd.func12 #[.int .i64 a0_0] ?_;(with_reducible refine(rule_Cat_String.calls _ _ _ A22.out).mono ?_);rintro e w43 ⟨rfl,hb⟩;refine⟨_,rfl,?_⟩;replace HO_3:=kb_ HO_3 hb;replace BK893:=bb_ BK893 hb;replace HB:=Aside0.mk (below_step (bl_ HB).out hb);(try clear hb);obtain⟨Ao44,co44,eo44⟩:=Kd.R_slice HO_3.out;subst eo44;obtain⟨hcz45_0,hcz45_1,hcz45_2,hfz45_0,hfz45_1,hfz45_2⟩:=bo3_ BK893))
      go_ret
      exact⟨ew_,(bl_ HB).out⟩
     ·rw[if_neg c41] at H
      have c41b0:(a0_2.toList==([]:List UInt8))=false:=beq_eq_false_iff_ne.mpr c41
      have c41b1:(a0_2.toList !=([]:List UInt8))=true:=bne_iff_ne.mpr c41
      have c41b2:(a0_2.toList.isEmpty)=false:=by rw[given_isEmpty,bne_iff_ne.mpr c41];rfl
      replace H:=ifn_ H
      obtain⟨c46,H⟩:=H
      have c46b0:=eq_true c46
      have c46b1:decide (1+a0_2.size≤9223372036854775807)=true:=decide_eq_true c46
      try have c46b2:=eq_false (Nat.not_lt.2 c46)
      replace H:=ifn_ H
      obtain⟨c47,H⟩:=H
      have c47b0:=eq_true c47
      have c47b1:decide ((t905++(⟨#[58]⟩:ByteArray)).size+((⟨#[32]⟩:ByteArray)++a0_2).size≤9223372036854775807)=true:=decide_eq_true c47
      try (have c47b5:=c47b0;simp only[ByteArray.size_append,Int.natCast_add] at c47b5)
      try have c47b2:=eq_false (Nat.not_lt.2 c47)
      try have c47b3:(9223372036854775807<t905.size+1+1+a0_2.size)=False:=eq_false (Nat.not_lt.2 (by have h_:=c47;simp only[ByteArray.size_append] at h_;exact h_))
      try have c47b4:(t905.size+1+1+a0_2.size≤9223372036854775807)=True:=eq_true (by have h_:=c47;simp only[ByteArray.size_append] at h_;exact h_)
      obtain rfl:=Option.some.inj H
      obtain⟨hcz48_0,hcz48_1,hcz48_2,hfz48_0,hfz48_1,hfz48_2⟩:=bo3_ BK893
      go_wp2_with (first|((with_reducible refine gate_callee (f:=12) rfl ?_);refine gl_ (some 37) Tryd.func12 #[.int .i64 a0_0] ?_;(with_reducible refine(rule_Cat_String.calls _ _ _ A22.out).mono ?_);rintro e w49 ⟨rfl,hb⟩;refine⟨_,rfl,?_⟩;replace HO_3:=kb_ HO_3 hb;replace BK893:=bb_ BK893 hb;replace HB:=Aside0.mk (below_step (bl_ HB).out hb);(try clear hb);obtain⟨Ao50,co50,eo50⟩:=Kd.R_slice HO_3.out;subst eo50;obtain⟨hcz51_0,hcz51_1,hcz51_2,hfz51_0,hfz51_1,hfz51_2⟩:=bo3_ BK893))
      go_ret
      exact⟨ew_,(bl_ HB).out⟩

/-! ### rule_Rules_String: function 9 -/
def rule_Rules_String.l0:Nat→List ByteArray→List (S32)→Int→Int→Option (ByteArray)
 | 0,_,_,_,_=>none
 | k+1,x3,x6,x7,x8=>if x8<x7 then (if 0≤x8 then (if x8<(x6.length:Int) then ((rule_Rule_String.f k ((rd_T32 x6 x8).f0) ((rd_T32 x6 x8).f1) ((rd_T32 x6 x8).f2)).bind fun t909=>(if x3.length<8796093022208 then (rule_Rules_String.l0 k (x3++[t909]) x6 x7 (wrap64 (x8+1))) else (none))) else (none)) else (none)) else ((strings_Join.f x3 (⟨#[59,32]⟩:ByteArray)).bind fun t913=>(some t913))
def rule_Rules_String.f (k:Nat) (l0:List (S32)):Option (ByteArray):=rule_Rules_String.l0 k ([]:List ByteArray) l0 (l0.length:Int) 0
set_option maxHeartbeats 64000000 in
set_option maxRecDepth 100000 in
theorem rule_Rules_String.calls (k:Nat) (A0:Option Addr) (c0:Nat) (l0:List (S32)) (r:ByteArray) (w:World) (hr0:Kd.C k32 w A0 l0.length l0) (hc0:l0.length≤c0) (h:rule_Rules_String.f k l0=some r) (ht:Lib.TabIs Tryd.prog w "internal/strconv.uint64pow10" .u64 Lib.pow10Tab:=by first|assumption|exact tb_ (by assumption) (bl_ (by assumption)).out) :
  Calls Tryd.prog 9 #[.slice A0 l0.length c0] w fun e w'=>e= .returned (.string r)∧Below w.heap.size w w':=by
 have hu32:=Tryd.underlying32
 have HR0:=Aside0.mk hr0
 have HC0:=Aside0.mk hc0
 clear hr0 hc0
 have HB:=Aside0.mk (Below.refl w.heap.size w)
 have H:(rule_Rules_String.l0 k ([]:List ByteArray) l0 (l0.length:Int) 0)=some r:=h
 clear h
 have H':=Aside0.mk H
 clear H
 go_enter Tryd.func9,Tryd.ntmps9
 go_wp2
 go_loopg [3,8] k (fun kq v3 v8 w'=>∃(x3_1:List ByteArray) (x8_1:Int),v8= .int .i64 x8_1∧Aside0 (rule_Rules_String.l0 kq x3_1 l0 (l0.length:Int) x8_1=some r)∧Aside0 (kq≤k)∧Aside0 (Kd.R Kd.string 9 w' w.heap.size (fun _=>True) v3 x3_1)∧Aside0 (Below w.heap.size w w'))
 case atStart=>exact⟨(([]:List ByteArray)),(0),eq_,H',⟨Nat.le_refl _⟩,⟨by first|exact Kd.R_nil _ _ _ _ _|exact Kd.N_nil _ _ _ _ _|exact Kd.V_nil _ _ _ _ _|exact Kd.Q_nil _ _ _ _ _|exact Kd.S_nil _ _ _ _ _⟩,(bl_ HB)⟩
 case round =>
  clear H'
  obtain⟨x3_1,x8_1,rfl,HA,HK1,HO_3,HB⟩:=hrel
  cases gk with
  | zero=>exact absurd HA.out (by simp[rule_Rules_String.l0])
  | succ k1 =>
   have H:=HA.out
   clear HA
   simp only[rule_Rules_String.l0] at H
   by_cases c2:x8_1<(l0.length:Int)
   ·rw[if_pos c2] at H
    have c2b0:=decide_eq_true c2
    clear c2
    replace H:=ifn_ H
    obtain⟨c3,H⟩:=H
    have c3b0:decide (0≤x8_1)=true:=decide_eq_true c3
    clear c3
    replace H:=ifn_ H
    obtain⟨c4,H⟩:=H
    have c4b0:decide (x8_1<(l0.length:Int))=true:=decide_eq_true c4
    clear c4
    replace H:=Option.bind_eq_some_iff.mp H
    obtain⟨t909,A50,H⟩:=H
    have A5:=Aside0.mk A50
    clear A50
    replace H:=ifn_ H
    obtain⟨c6,H⟩:=H
    have LMc6:=Aside0.mk c6
    clear c6
    obtain⟨y910,hy910⟩:∃y_:List ByteArray,y_=(x3_1++[t909]):=⟨_,rfl⟩
    replace H:(rule_Rules_String.l0 k1 y910 l0 (l0.length:Int) (wrap64 (x8_1+1)))=some r:=by first|(rw[hy910];with_reducible exact H)|(have H2_:=(Option.bind_some _ _).symm.trans H;rw[hy910];with_reducible exact H2_)|(have H2_:=(Option.bind_some _ _).symm.trans H;with_reducible exact H2_)|with_reducible exact H|(rw[hy910];exact H)|exact H
    have Ny910:=Aside0.mk hy910
    clear hy910
    have H':=Aside0.mk H
    clear H
    have p907:0≤(x8_1:Int):=od_
    have q907:x8_1<(l0.length:Int):=od_
    obtain⟨ad907,A907_1,c907_1,e907,hx907_0,hx907_1,hx907_2,hl907_1,hi907_1⟩:=at_T32 HR0.out x8_1 p907 q907
    cases e907
    replace hx907_0:=hbc_ HB hx907_0
    replace hx907_1:=hbc_ HB hx907_1
    replace hx907_2:=hbc_ HB hx907_2
    have HR907_1:=Aside0.mk hi907_1
    have HC907_1:=Aside0.mk hl907_1
    clear hi907_1 hl907_1
    replace p907:=eq_true p907
    replace q907:=eq_true q907
    go_wp2_with (first|((with_reducible refine gate_dst (N:=5) rfl ?_);refine be_ 5 #[.int .i64 0,.slice none 0 0,.string (⟨#[]⟩:ByteArray)] 32 ?_;intro gb908 hg w7 hbox hb;have BK908:=Aside0.mk (hbox);have GW908:=sz_ HB hg;have GE908:=sz_ HB hg;replace HO_3:=kb_ HO_3 hb;replace HB:=Aside0.mk (below_step (bl_ HB).out hb);clear hb hbox hg;obtain⟨hcz8_0,hcz8_1,hcz8_2,hfz8_0,hfz8_1,hfz8_2⟩:=bo3_ BK908)|((with_reducible refine gate_callee (f:=15) rfl ?_);refine gl_ (some 14) Tryd.func15 #[.agg #[.int .i64 ((rd_T32 l0 x8_1).f0),.slice A907_1 ((rd_T32 l0 x8_1).f1).length c907_1,.string ((rd_T32 l0 x8_1).f2)]] ?_;(with_reducible refine(rule_Rule_String.calls _ _ _ _ _ _ _ _ ?side1 ?side2 A5.out).mono ?_);(case side1=>exact Kd.C_below HR907_1.out (bl_ HB).out);(case side2=>exact HC907_1.out);rintro e w9 ⟨rfl,hb⟩;refine⟨_,rfl,?_⟩;have n0_:=Aside0.mk (Kd.R_below (kdR_ ((Kd.R_mono (Kd.R_far (Kd.R_far (Kd.R_far (Kd.R_types HO_3.out BK908.out (by decide)) (fun _ hk=>hk.2) _) (fun _ hk=>hk.2) _) (fun _ hk=>hk.2) _) (fun _ h_=>h_.1)))) hb);have n1_:=Aside0.mk (blk_below (g:=gb908) (o:= .cells #[.int .i64 ((rd_T32 l0 x8_1).f0),.slice A907_1 ((rd_T32 l0 x8_1).f1).length c907_1,.string ((rd_T32 l0 x8_1).f2)] 32 (0,0)) ((bp_ BK908).out) hb);have n2_:=Aside0.mk (below_step (bl_ HB).out hb);clear HO_3;clear BK908;clear HB;have HO_3:=n0_;have BK908:=n1_;have HB:=n2_;clear n0_ n1_ n2_;(try clear hb);(try clear hi))|((with_reducible refine gate_builtin (b:= .append) (xs:= #[.tmp 12,.tmp 15]) rfl ?_);at_builtin;refine Kd.R_append Kd.string (w0:=w) w.heap.size rfl (.tmp 12) (.tmp 15) 47 9 (.string ⟨#[]⟩) 16 rfl Tryd.underlying47 info9 rfl (by decide) (by omega) u3 x3_1 t909 [.string t909] (fun _=>True) (fun _=>False) rfl rfl ?aP (fun _ hk=>hk.elim) ?aF ?aO ?aB ?aS ?aL ?_;(case aP=>exact rfl);(case aB=>exact(bl_ HB).out);(case aF=>exact(fun _ _=>trivial));(case aO=>exact(kr_ HO_3));(case aS=>exact(below_size (bl_ HB).out));(case aL=>have:=LMc6.out;omega);intro v911 w10 ho hb hg hat;rw[← Ny910.out] at ho;have n0_:=Aside0.mk (blk_grown (bk_ BK908).out hg (Kd.R_ne HO_3.out BK908.out (by decide)));have n1_:=Aside0.mk (hb);have n2_:=Aside0.mk (ho);clear BK908;clear HB;clear HO_3;have BK908:=n0_;have HB:=n1_;have HO912:=n2_;clear n0_ n1_ n2_;clear ho hb hg hat))
    go_roundg k1
    case measure=>have:=HK1.out;omega
    case rel=>exact⟨(y910),(wrap64 (x8_1+1)),eq_,H',⟨by have:=HK1.out;omega⟩,⟨kdR_ HO912.out⟩,(bl_ HB)⟩
   ·rw[if_neg c2] at H
    have c2b0:=decide_eq_false c2
    clear c2
    replace H:=Option.bind_eq_some_iff.mp H
    obtain⟨t913,A110,H⟩:=H
    have A11:=Aside0.mk A110
    clear A110
    obtain rfl:=Option.some.inj H
    obtain⟨Ao12,co12,eo12⟩:=Kd.R_slice HO_3.out
    subst eo12
    go_wp2_with (first|((with_reducible refine gate_callee (f:=16) rfl ?_);refine gl_ (some 19) Tryd.func16 #[.slice Ao12 x3_1.length co12,.string (⟨#[59,32]⟩:ByteArray)] ?_;(with_reducible refine(strings_Join.calls _ _ _ _ _ _ ?side1 ?side2 A11.out).mono ?_);(case side1=>exact kc_ HO_3);(case side2=>exact kl_ HO_3);rintro e w13 ⟨rfl,hb⟩;refine⟨_,rfl,?_⟩;replace HO_3:=kb_ HO_3 hb;replace HB:=Aside0.mk (below_step (bl_ HB).out hb);(try clear hb);(try clear hi)))
    go_ret
    exact⟨ew_,(bl_ HB).out⟩

/-! ### florinlaw06_head: function 7 -/
def florinlaw06_head.f (k:Nat):Option (Bool):=(rule_Parse.f k (⟨#[111,110,101,58,105,61,49,32,97,110,100,32,118,32,61,32,48,59,111,116,104,101,114,58]⟩:ByteArray)).bind fun bt914=>(if bt914.2.1=0 then (if (bt914.1.length:Int)=2 then (if 0<(bt914.1.length:Int) then (if (((rd_T32 bt914.1 0).f1).length:Int)=1 then (if 0<(((rd_T32 bt914.1 0).f1).length:Int) then (if ((rd_L7 ((rd_T32 bt914.1 0).f1) 0).length:Int)=2 then (if 0<((rd_L7 ((rd_T32 bt914.1 0).f1) 0).length:Int) then (if ((rd_T36 (rd_L7 ((rd_T32 bt914.1 0).f1) 0) 0).f0)=105 then ((rule_Rules_String.f k bt914.1).bind fun t925=>(some (t925.toList==([111,110,101,58,32,105,32,61,32,49,32,97,110,100,32,118,32,61,32,48,59,32,111,116,104,101,114,58]:List UInt8)))) else (none)) else (none)) else (none)) else (none)) else (none)) else (none)) else (none)) else (none))
set_option maxHeartbeats 64000000 in
set_option maxRecDepth 100000 in
theorem florinlaw06_head.calls (k:Nat)  (r:Bool) (w:World) (h:florinlaw06_head.f k=some r) (ht:Lib.TabIs Tryd.prog w "internal/strconv.uint64pow10" .u64 Lib.pow10Tab:=by first|assumption|exact tb_ (by assumption) (bl_ (by assumption)).out) :
  Calls Tryd.prog 7 #[] w fun e w'=>e= .returned (.bool r)∧Below w.heap.size w w':=by
 have HB:=Aside0.mk (Below.refl w.heap.size w)
 have H:((rule_Parse.f k (⟨#[111,110,101,58,105,61,49,32,97,110,100,32,118,32,61,32,48,59,111,116,104,101,114,58]⟩:ByteArray)).bind fun bt914=>(if bt914.2.1=0 then (if (bt914.1.length:Int)=2 then (if 0<(bt914.1.length:Int) then (if (((rd_T32 bt914.1 0).f1).length:Int)=1 then (if 0<(((rd_T32 bt914.1 0).f1).length:Int) then (if ((rd_L7 ((rd_T32 bt914.1 0).f1) 0).length:Int)=2 then (if 0<((rd_L7 ((rd_T32 bt914.1 0).f1) 0).length:Int) then (if ((rd_T36 (rd_L7 ((rd_T32 bt914.1 0).f1) 0) 0).f0)=105 then ((rule_Rules_String.f k bt914.1).bind fun t925=>(some (t925.toList==([111,110,101,58,32,105,32,61,32,49,32,97,110,100,32,118,32,61,32,48,59,32,111,116,104,101,114,58]:List UInt8)))) else (none)) else (none)) else (none)) else (none)) else (none)) else (none)) else (none)) else (none)))=some r:=h
 clear h
 replace H:=Option.bind_eq_some_iff.mp H
 obtain⟨⟨t914,t917,t918⟩,A10,H⟩:=H
 dsimp only at H
 have A1:=Aside0.mk A10
 clear A10
 replace H:=ifn_ H
 obtain⟨c2,H⟩:=H
 have c2b0:(t917==0)=true:=beq_iff_eq.mpr c2
 have c2b1:(t917 !=0)=false:=bne_eq_false_iff_eq.mpr c2
 clear c2
 replace H:=ifn_ H
 obtain⟨c3,H⟩:=H
 have c3b0:((t914.length:Int)==2)=true:=beq_iff_eq.mpr c3
 have c3b1:((t914.length:Int) !=2)=false:=bne_eq_false_iff_eq.mpr c3
 clear c3
 replace H:=ifn_ H
 obtain⟨c4,H⟩:=H
 have c4b0:decide (0<(t914.length:Int))=true:=decide_eq_true c4
 have c4b1:decide (0<t914.length)=true:=decide_eq_true (by omega)
 clear c4
 replace H:=ifn_ H
 obtain⟨c5,H⟩:=H
 have c5b0:((((rd_T32 t914 0).f1).length:Int)==1)=true:=beq_iff_eq.mpr c5
 have c5b1:((((rd_T32 t914 0).f1).length:Int) !=1)=false:=bne_eq_false_iff_eq.mpr c5
 clear c5
 replace H:=ifn_ H
 obtain⟨c6,H⟩:=H
 have c6b0:decide (0<(((rd_T32 t914 0).f1).length:Int))=true:=decide_eq_true c6
 have c6b1:decide (0<((rd_T32 t914 0).f1).length)=true:=decide_eq_true (by omega)
 clear c6
 replace H:=ifn_ H
 obtain⟨c7,H⟩:=H
 have c7b0:(((rd_L7 ((rd_T32 t914 0).f1) 0).length:Int)==2)=true:=beq_iff_eq.mpr c7
 have c7b1:(((rd_L7 ((rd_T32 t914 0).f1) 0).length:Int) !=2)=false:=bne_eq_false_iff_eq.mpr c7
 clear c7
 replace H:=ifn_ H
 obtain⟨c8,H⟩:=H
 have c8b0:decide (0<((rd_L7 ((rd_T32 t914 0).f1) 0).length:Int))=true:=decide_eq_true c8
 have c8b1:decide (0<(rd_L7 ((rd_T32 t914 0).f1) 0).length)=true:=decide_eq_true (by omega)
 clear c8
 replace H:=ifn_ H
 obtain⟨c9,H⟩:=H
 have c9b0:(((rd_T36 (rd_L7 ((rd_T32 t914 0).f1) 0) 0).f0)==105)=true:=beq_iff_eq.mpr c9
 have c9b1:(((rd_T36 (rd_L7 ((rd_T32 t914 0).f1) 0) 0).f0) !=105)=false:=bne_eq_false_iff_eq.mpr c9
 clear c9
 replace H:=Option.bind_eq_some_iff.mp H
 obtain⟨t925,A100,H⟩:=H
 have A10:=Aside0.mk A100
 clear A100
 obtain rfl:=Option.some.inj H
 go_enter Tryd.func7,Tryd.ntmps7
 go_wp2_with (first|((with_reducible refine gate_callee (f:=8) rfl ?_);refine gl_ (some 5) Tryd.func8 #[.string (⟨#[111,110,101,58,105,61,49,32,97,110,100,32,118,32,61,32,48,59,111,116,104,101,114,58]⟩:ByteArray)] ?_;(with_reducible refine(rule_Parse.calls _ _ _ _ _ _ A1.out).mono ?_);rintro e w11 ⟨v915,rfl,ho0,hb⟩;refine⟨_,rfl,?_⟩;have HO916:=Aside0.mk (Kd.N_lower (Kd.N_mono (ok':=fun k_=>True) ho0 (fun k_ hk_=>trivial)) (below_size (bl_ HB).out));replace HB:=Aside0.mk (below_step (bl_ HB).out hb);(try clear hb);(try clear ho0);obtain⟨Ao12,co12,eo12⟩:=Kd.N_slice HO916.out;subst eo12;have p919:0≤(0:Int):=(by omega);have q919:0<(t914.length:Int):=od_;obtain⟨ad919,A919_1,c919_1,e919,hx919_0,hx919_1,hx919_2,hl919_1,hi919_1⟩:=at_T32 (Kd.N_reads' HO916.out).2.2 0 p919 q919;cases e919;obtain⟨ce919,hce919,hMe919,hcc919⟩:=Kd.N_get HO916.out z32 0 p919 (by first|exact q919|exact od_|(have e_:=(Kd.N_reads' HO916.out).1;omega));obtain⟨ua919_1,uc919_1,rfl,ul919_1,ge919_1⟩:=k32_openF hMe919;have hv919_1:=hcc919 1 _ rfl;rw[add_field _ _ 1 (by omega)] at hv919_1;replace hv919_1:=Option.some.inj (hv919_1.symm.trans hx919_1);injection hv919_1 with hva_ hvn_ hvc_;rw[hva_] at ge919_1;rw[hvc_] at ul919_1;have HL919_1:=Aside0.mk (show Kd.V (Kd.slice 36 k36) 33 _ w.heap.size _ _ ((rd_T32 t914 0).f1) from Kd.V_mk ul919_1 ge919_1);clear hva_ hvn_ hvc_ ge919_1 ul919_1;clear hcc919 hce919;have qi919:(0<t914.length)=True:=eq_true (by omega);(try rw[show((0:Int)).toNat=0 from rfl] at hx919_0);(try rw[show 0*3=0 from rfl] at hx919_0);(try rw[Addr.add_zero'] at hx919_0);(try rw[show((0:Int)).toNat=0 from rfl] at hx919_1);(try rw[show 0*3=0 from rfl] at hx919_1);(try rw[Addr.add_zero'] at hx919_1);(try rw[show((0:Int)).toNat=0 from rfl] at hx919_2);(try rw[show 0*3=0 from rfl] at hx919_2);(try rw[Addr.add_zero'] at hx919_2);have HR919_1:=Aside0.mk hi919_1;have HC919_1:=Aside0.mk hl919_1;clear hi919_1 hl919_1;replace p919:=eq_true p919;replace q919:=eq_true q919;have p920:0≤(0:Int):=(by omega);have q920:0<(t914.length:Int):=od_;obtain⟨ad920,A920_1,c920_1,e920,hx920_0,hx920_1,hx920_2,hl920_1,hi920_1⟩:=at_T32 (Kd.N_reads' HO916.out).2.2 0 p920 q920;obtain rfl:ad919=ad920:=(by injection e920);obtain⟨ce920,hce920,hMe920,hcc920⟩:=Kd.N_get HO916.out z32 0 p920 (by first|exact q920|exact od_|(have e_:=(Kd.N_reads' HO916.out).1;omega));obtain⟨ua920_1,uc920_1,rfl,ul920_1,ge920_1⟩:=k32_openF hMe920;have hv920_1:=hcc920 1 _ rfl;rw[add_field _ _ 1 (by omega)] at hv920_1;replace hv920_1:=Option.some.inj (hv920_1.symm.trans hx920_1);injection hv920_1 with hva_ hvn_ hvc_;rw[hva_] at ge920_1;rw[hvc_] at ul920_1;have HL920_1:=Aside0.mk (show Kd.V (Kd.slice 36 k36) 33 _ w.heap.size _ _ ((rd_T32 t914 0).f1) from Kd.V_mk ul920_1 ge920_1);clear hva_ hvn_ hvc_ ge920_1 ul920_1;clear hcc920 hce920;have qi920:(0<t914.length)=True:=eq_true (by omega);(try rw[show((0:Int)).toNat=0 from rfl] at hx920_0);(try rw[show 0*3=0 from rfl] at hx920_0);(try rw[Addr.add_zero'] at hx920_0);(try rw[show((0:Int)).toNat=0 from rfl] at hx920_1);(try rw[show 0*3=0 from rfl] at hx920_1);(try rw[Addr.add_zero'] at hx920_1);(try rw[show((0:Int)).toNat=0 from rfl] at hx920_2);(try rw[show 0*3=0 from rfl] at hx920_2);(try rw[Addr.add_zero'] at hx920_2);have HR920_1:=Aside0.mk hi920_1;have HC920_1:=Aside0.mk hl920_1;clear hi920_1 hl920_1;replace p920:=eq_true p920;replace q920:=eq_true q920;have ea_:=Option.some.inj (hx919_1.symm.trans hx920_1);injection ea_ with ea_ en_ ec_;subst ea_;subst ec_;clear en_;have p921:0≤(0:Int):=(by omega);have q921:0<(((rd_T32 t914 0).f1).length:Int):=od_;obtain⟨ad921,A921_0,c921_0,e921,hx921_0,hl921_0,hi921_0⟩:=at_L7 (by repeat(first|(with_reducible exact HR920_1.out)|(with_reducible refine Kd.C_alloc ?_ _)|(with_reducible refine Kd.C_drewN ?_ _)|(with_reducible refine Kd.C_drew ?_)|exact HR920_1.out)) 0 p921 q921;cases e921;obtain⟨ce921,hce921,hMe921,hcc921⟩:=Kd.V_get HL920_1.out [] 0 p921 (by first|exact q921|exact od_|(have e_:=(Kd.V_reads' HL920_1.out).1;omega));obtain⟨ua921_0,uc921_0,rfl,ul921_0,ge921_0⟩:=Kd.FK_slice_open hMe921;have hv921_0:=hcc921 0 _ rfl;rw[Nat.add_zero,show((Kd.slice 36 k36)).sz=1 from rfl,Nat.mul_one] at hv921_0;replace hv921_0:=Option.some.inj (hv921_0.symm.trans hx921_0);injection hv921_0 with hva_ hvn_ hvc_;rw[hva_] at ge921_0;rw[hvc_] at ul921_0;have HL921_0:=Aside0.mk (show Kd.V k36 36 _ w.heap.size _ _ (rd_L7 ((rd_T32 t914 0).f1) 0) from Kd.V_mk ul921_0 ge921_0);clear hva_ hvn_ hvc_ ge921_0 ul921_0;clear hcc921 hce921;have qi921:(0<((rd_T32 t914 0).f1).length)=True:=eq_true (by omega);(try rw[show((0:Int)).toNat=0 from rfl] at hx921_0);(try rw[Addr.add_zero'] at hx921_0);have HR921_0:=Aside0.mk hi921_0;have HC921_0:=Aside0.mk hl921_0;clear hi921_0 hl921_0;replace p921:=eq_true p921;replace q921:=eq_true q921;have p922:0≤(0:Int):=(by omega);have q922:0<(t914.length:Int):=od_;obtain⟨ad922,A922_1,c922_1,e922,hx922_0,hx922_1,hx922_2,hl922_1,hi922_1⟩:=at_T32 (Kd.N_reads' HO916.out).2.2 0 p922 q922;obtain rfl:ad919=ad922:=(by injection e922);obtain⟨ce922,hce922,hMe922,hcc922⟩:=Kd.N_get HO916.out z32 0 p922 (by first|exact q922|exact od_|(have e_:=(Kd.N_reads' HO916.out).1;omega));obtain⟨ua922_1,uc922_1,rfl,ul922_1,ge922_1⟩:=k32_openF hMe922;have hv922_1:=hcc922 1 _ rfl;rw[add_field _ _ 1 (by omega)] at hv922_1;replace hv922_1:=Option.some.inj (hv922_1.symm.trans hx922_1);injection hv922_1 with hva_ hvn_ hvc_;rw[hva_] at ge922_1;rw[hvc_] at ul922_1;have HL922_1:=Aside0.mk (show Kd.V (Kd.slice 36 k36) 33 _ w.heap.size _ _ ((rd_T32 t914 0).f1) from Kd.V_mk ul922_1 ge922_1);clear hva_ hvn_ hvc_ ge922_1 ul922_1;clear hcc922 hce922;have qi922:(0<t914.length)=True:=eq_true (by omega);(try rw[show((0:Int)).toNat=0 from rfl] at hx922_0);(try rw[show 0*3=0 from rfl] at hx922_0);(try rw[Addr.add_zero'] at hx922_0);(try rw[show((0:Int)).toNat=0 from rfl] at hx922_1);(try rw[show 0*3=0 from rfl] at hx922_1);(try rw[Addr.add_zero'] at hx922_1);(try rw[show((0:Int)).toNat=0 from rfl] at hx922_2);(try rw[show 0*3=0 from rfl] at hx922_2);(try rw[Addr.add_zero'] at hx922_2);have HR922_1:=Aside0.mk hi922_1;have HC922_1:=Aside0.mk hl922_1;clear hi922_1 hl922_1;replace p922:=eq_true p922;replace q922:=eq_true q922;have ea_:=Option.some.inj (hx919_1.symm.trans hx922_1);injection ea_ with ea_ en_ ec_;subst ea_;subst ec_;clear en_;have p923:0≤(0:Int):=(by omega);have q923:0<(((rd_T32 t914 0).f1).length:Int):=od_;obtain⟨ad923,A923_0,c923_0,e923,hx923_0,hl923_0,hi923_0⟩:=at_L7 (by repeat(first|(with_reducible exact HR922_1.out)|(with_reducible refine Kd.C_alloc ?_ _)|(with_reducible refine Kd.C_drewN ?_ _)|(with_reducible refine Kd.C_drew ?_)|exact HR922_1.out)) 0 p923 q923;cases e923;obtain⟨ce923,hce923,hMe923,hcc923⟩:=Kd.V_get HL922_1.out [] 0 p923 (by first|exact q923|exact od_|(have e_:=(Kd.V_reads' HL922_1.out).1;omega));obtain⟨ua923_0,uc923_0,rfl,ul923_0,ge923_0⟩:=Kd.FK_slice_open hMe923;have hv923_0:=hcc923 0 _ rfl;rw[Nat.add_zero,show((Kd.slice 36 k36)).sz=1 from rfl,Nat.mul_one] at hv923_0;replace hv923_0:=Option.some.inj (hv923_0.symm.trans hx923_0);injection hv923_0 with hva_ hvn_ hvc_;rw[hva_] at ge923_0;rw[hvc_] at ul923_0;have HL923_0:=Aside0.mk (show Kd.V k36 36 _ w.heap.size _ _ (rd_L7 ((rd_T32 t914 0).f1) 0) from Kd.V_mk ul923_0 ge923_0);clear hva_ hvn_ hvc_ ge923_0 ul923_0;clear hcc923 hce923;have qi923:(0<((rd_T32 t914 0).f1).length)=True:=eq_true (by omega);(try rw[show((0:Int)).toNat=0 from rfl] at hx923_0);(try rw[Addr.add_zero'] at hx923_0);have HR923_0:=Aside0.mk hi923_0;have HC923_0:=Aside0.mk hl923_0;clear hi923_0 hl923_0;replace p923:=eq_true p923;replace q923:=eq_true q923;have ea_:=Option.some.inj (hx921_0.symm.trans hx923_0);injection ea_ with ea_ en_ ec_;subst ea_;subst ec_;clear en_;have p924:0≤(0:Int):=(by omega);have q924:0<((rd_L7 ((rd_T32 t914 0).f1) 0).length:Int):=od_;obtain⟨ad924,A924_3,c924_3,e924,hx924_0,hx924_1,hx924_2,hx924_3,hl924_3,hi924_3⟩:=at_T36 (by repeat(first|(with_reducible exact HR923_0.out)|(with_reducible refine Kd.C_alloc ?_ _)|(with_reducible refine Kd.C_drewN ?_ _)|(with_reducible refine Kd.C_drew ?_)|exact HR923_0.out)) 0 p924 q924;cases e924;obtain⟨ce924,hce924,hMe924,hcc924⟩:=Kd.V_get HL923_0.out z36 0 p924 (by first|exact q924|exact od_|(have e_:=(Kd.V_reads' HL923_0.out).1;omega));obtain⟨ua924_3,uc924_3,rfl,ul924_3,ge924_3⟩:=k36_openF hMe924;have hv924_3:=hcc924 3 _ rfl;rw[add_field _ _ 3 (by omega)] at hv924_3;replace hv924_3:=Option.some.inj (hv924_3.symm.trans hx924_3);injection hv924_3 with hva_ hvn_ hvc_;rw[hva_] at ge924_3;rw[hvc_] at ul924_3;have HL924_3:=Aside0.mk (show Kd.V k38 38 _ w.heap.size _ _ ((rd_T36 (rd_L7 ((rd_T32 t914 0).f1) 0) 0).f3) from Kd.V_mk ul924_3 ge924_3);clear hva_ hvn_ hvc_ ge924_3 ul924_3;clear hcc924 hce924;have qi924:(0<(rd_L7 ((rd_T32 t914 0).f1) 0).length)=True:=eq_true (by omega);(try rw[show((0:Int)).toNat=0 from rfl] at hx924_0);(try rw[show 0*4=0 from rfl] at hx924_0);(try rw[Addr.add_zero'] at hx924_0);(try rw[show((0:Int)).toNat=0 from rfl] at hx924_1);(try rw[show 0*4=0 from rfl] at hx924_1);(try rw[Addr.add_zero'] at hx924_1);(try rw[show((0:Int)).toNat=0 from rfl] at hx924_2);(try rw[show 0*4=0 from rfl] at hx924_2);(try rw[Addr.add_zero'] at hx924_2);(try rw[show((0:Int)).toNat=0 from rfl] at hx924_3);(try rw[show 0*4=0 from rfl] at hx924_3);(try rw[Addr.add_zero'] at hx924_3);have HR924_3:=Aside0.mk hi924_3;have HC924_3:=Aside0.mk hl924_3;clear hi924_3 hl924_3;replace p924:=eq_true p924;replace q924:=eq_true q924)|(go_at_call 9;(with_reducible refine(rule_Rules_String.calls _ _ _ _ _ _ ?side1 ?side2 A10.out).mono ?_);(case side1=>repeat(first|exact(Kd.N_reads' HO916.out).2.2|(with_reducible refine Kd.C_alloc ?_ _)|(with_reducible refine Kd.C_drewN ?_ _)|(with_reducible refine Kd.C_drew ?_)));(case side2=>exact(Kd.N_reads' HO916.out).2.1);rintro e w13 ⟨rfl,hb⟩;replace HO916:=Aside0.mk (Kd.N_below (krN_ HO916) hb);replace HL919_1:=Aside0.mk (Kd.V_below (krV_ HL919_1) hb);replace HL920_1:=Aside0.mk (Kd.V_below (krV_ HL920_1) hb);replace HL921_0:=Aside0.mk (Kd.V_below (krV_ HL921_0) hb);replace HL922_1:=Aside0.mk (Kd.V_below (krV_ HL922_1) hb);replace HL923_0:=Aside0.mk (Kd.V_below (krV_ HL923_0) hb);replace HL924_3:=Aside0.mk (Kd.V_below (krV_ HL924_3) hb);replace HR919_1:=Aside0.mk (Kd.C_below (by repeat(first|(with_reducible exact HR919_1.out)|(with_reducible refine Kd.C_alloc ?_ _)|(with_reducible refine Kd.C_drewN ?_ _)|(with_reducible refine Kd.C_drew ?_)|exact HR919_1.out)) hb);replace HR920_1:=Aside0.mk (Kd.C_below (by repeat(first|(with_reducible exact HR920_1.out)|(with_reducible refine Kd.C_alloc ?_ _)|(with_reducible refine Kd.C_drewN ?_ _)|(with_reducible refine Kd.C_drew ?_)|exact HR920_1.out)) hb);replace HR921_0:=Aside0.mk (Kd.C_below (by repeat(first|(with_reducible exact HR921_0.out)|(with_reducible refine Kd.C_alloc ?_ _)|(with_reducible refine Kd.C_drewN ?_ _)|(with_reducible refine Kd.C_drew ?_)|exact HR921_0.out)) hb);replace HR922_1:=Aside0.mk (Kd.C_below (by repeat(first|(with_reducible exact HR922_1.out)|(with_reducible refine Kd.C_alloc ?_ _)|(with_reducible refine Kd.C_drewN ?_ _)|(with_reducible refine Kd.C_drew ?_)|exact HR922_1.out)) hb);replace HR923_0:=Aside0.mk (Kd.C_below (by repeat(first|(with_reducible exact HR923_0.out)|(with_reducible refine Kd.C_alloc ?_ _)|(with_reducible refine Kd.C_drewN ?_ _)|(with_reducible refine Kd.C_drew ?_)|exact HR923_0.out)) hb);replace HR924_3:=Aside0.mk (Kd.C_below (by repeat(first|(with_reducible exact HR924_3.out)|(with_reducible refine Kd.C_alloc ?_ _)|(with_reducible refine Kd.C_drewN ?_ _)|(with_reducible refine Kd.C_drew ?_)|exact HR924_3.out)) hb);replace HB:=Aside0.mk (below_step (bl_ HB).out hb);(try clear hb);(try clear hi)))
 go_ret
 exact⟨ew_,(bl_ HB).out⟩

/-! ### florinlaw06_sameRel: function 17 -/
mutual
def florinlaw06_sameRel.j0:Nat→Bool→Int→Int→Bool→List (S38)→Int→Int→Bool→List (S38)→Option (Bool)
 | 0,_,_,_,_,_,_,_,_,_=>none
 | k+1,x33,x927000,x927001,x927002,x927003,x928000,x928001,x928002,x928003=>if x33=true then (some false) else (florinlaw06_sameRel.l0 k (x927003.length:Int) 0 x927000 x927001 x927002 x927003 x928000 x928001 x928002 x928003)
def florinlaw06_sameRel.l0:Nat→Int→Int→Int→Int→Bool→List (S38)→Int→Int→Bool→List (S38)→Option (Bool)
 | 0,_,_,_,_,_,_,_,_,_,_=>none
 | k+1,x36,x37,x927000,x927001,x927002,x927003,x928000,x928001,x928002,x928003=>if x37<x36 then (if 0≤x37 then (if x37<(x927003.length:Int) then (if x37<(x928003.length:Int) then (if (!(((rd_T38 x927003 x37).f0)==((rd_T38 x928003 x37).f0))||(!(((rd_T38 x927003 x37).f1)==((rd_T38 x928003 x37).f1))))=true then (some false) else (florinlaw06_sameRel.l0 k x36 (wrap64 (x37+1)) x927000 x927001 x927002 x927003 x928000 x928001 x928002 x928003)) else (none)) else (none)) else (none)) else (some true)
end
def florinlaw06_sameRel.f (k:Nat) (a0_0:Int) (a0_1:Int) (a0_2:Bool) (l0_3:List (S38)) (a1_0:Int) (a1_1:Int) (a1_2:Bool) (l1_3:List (S38)):Option (Bool):=if a0_0=a1_0 then (if a0_1=a1_1 then (if (a0_2 !=a1_2)=true then (florinlaw06_sameRel.j0 k true a0_0 a0_1 a0_2 l0_3 a1_0 a1_1 a1_2 l1_3) else (florinlaw06_sameRel.j0 k ((l0_3.length:Int) !=(l1_3.length:Int)) a0_0 a0_1 a0_2 l0_3 a1_0 a1_1 a1_2 l1_3)) else (florinlaw06_sameRel.j0 k true a0_0 a0_1 a0_2 l0_3 a1_0 a1_1 a1_2 l1_3)) else (florinlaw06_sameRel.j0 k true a0_0 a0_1 a0_2 l0_3 a1_0 a1_1 a1_2 l1_3)
set_option maxHeartbeats 64000000 in
set_option maxRecDepth 100000 in
theorem florinlaw06_sameRel.calls (k:Nat) (a0_0:Int) (a0_1:Int) (a0_2:Bool) (A0_3:Option Addr) (c0_3:Nat) (l0_3:List (S38)) (a1_0:Int) (a1_1:Int) (a1_2:Bool) (A1_3:Option Addr) (c1_3:Nat) (l1_3:List (S38)) (r:Bool) (w:World) (hr0_3:Kd.C k38 w A0_3 l0_3.length l0_3) (hc0_3:l0_3.length≤c0_3) (hr1_3:Kd.C k38 w A1_3 l1_3.length l1_3) (hc1_3:l1_3.length≤c1_3) (h:florinlaw06_sameRel.f k a0_0 a0_1 a0_2 l0_3 a1_0 a1_1 a1_2 l1_3=some r) :
  Calls Tryd.prog 17 #[.agg #[.int .u8 a0_0,.int .i64 a0_1,.bool a0_2,.slice A0_3 l0_3.length c0_3],.agg #[.int .u8 a1_0,.int .i64 a1_1,.bool a1_2,.slice A1_3 l1_3.length c1_3]] w fun e w'=>e= .returned (.bool r)∧Below w.heap.size w w':=by
 have hu36:=Tryd.underlying36
 have hu38:=Tryd.underlying38
 have HR0_3:=Aside0.mk hr0_3
 have HC0_3:=Aside0.mk hc0_3
 clear hr0_3 hc0_3
 have HR1_3:=Aside0.mk hr1_3
 have HC1_3:=Aside0.mk hc1_3
 clear hr1_3 hc1_3
 have HB:=Aside0.mk (Below.refl w.heap.size w)
 have H:(if a0_0=a1_0 then (if a0_1=a1_1 then (if (a0_2 !=a1_2)=true then (florinlaw06_sameRel.j0 k true a0_0 a0_1 a0_2 l0_3 a1_0 a1_1 a1_2 l1_3) else (florinlaw06_sameRel.j0 k ((l0_3.length:Int) !=(l1_3.length:Int)) a0_0 a0_1 a0_2 l0_3 a1_0 a1_1 a1_2 l1_3)) else (florinlaw06_sameRel.j0 k true a0_0 a0_1 a0_2 l0_3 a1_0 a1_1 a1_2 l1_3)) else (florinlaw06_sameRel.j0 k true a0_0 a0_1 a0_2 l0_3 a1_0 a1_1 a1_2 l1_3))=some r:=h
 clear h
 have HC3:=Aside0.mk H
 clear H
 go_enter Tryd.func17,Tryd.ntmps17
 go_upto_region 1 with (first|((with_reducible refine gate_dst (N:=2) rfl ?_);(try (refine gate_guard (by rfl) ?_;dsimp only));refine be_ 2 #[.int .u8 a0_0,.int .i64 a0_1,.bool a0_2,.slice A0_3 l0_3.length c0_3] 36 ?_;intro gb926 hg w4 hbox hb;have BK926:=Aside0.mk (hbox);have GW926:=sz_ HB hg;have GE926:=sz_ HB hg;replace HB:=Aside0.mk (below_step (bl_ HB).out hb);clear hb hbox hg)|((with_reducible refine gate_dst (N:=3) rfl ?_);(try (refine gate_guard (by rfl) ?_;dsimp only));refine be_ 3 #[.int .u8 a1_0,.int .i64 a1_1,.bool a1_2,.slice A1_3 l1_3.length c1_3] 36 ?_;intro gb927 hg w5 hbox hb;have BK927:=Aside0.mk (hbox);have GW927:=sz_ HB hg;have GE927:=sz_ HB hg;have NB926_927:=na_ BK926 hg;have NB927_926:=nb_ BK926 hg;replace BK926:=bb_ BK926 hb;replace HB:=Aside0.mk (below_step (bl_ HB).out hb);clear hb hbox hg))
 repeat(go_quiet (first|((with_reducible refine gate_dst (N:=2) rfl ?_);(try (refine gate_guard (by rfl) ?_;dsimp only));refine be_ 2 #[.int .u8 a0_0,.int .i64 a0_1,.bool a0_2,.slice A0_3 l0_3.length c0_3] 36 ?_;intro gb926 hg w4 hbox hb;have BK926:=Aside0.mk (hbox);have GW926:=sz_ HB hg;have GE926:=sz_ HB hg;replace HB:=Aside0.mk (below_step (bl_ HB).out hb);clear hb hbox hg)|((with_reducible refine gate_dst (N:=3) rfl ?_);(try (refine gate_guard (by rfl) ?_;dsimp only));refine be_ 3 #[.int .u8 a1_0,.int .i64 a1_1,.bool a1_2,.slice A1_3 l1_3.length c1_3] 36 ?_;intro gb927 hg w5 hbox hb;have BK927:=Aside0.mk (hbox);have GW927:=sz_ HB hg;have GE927:=sz_ HB hg;have NB926_927:=na_ BK926 hg;have NB927_926:=nb_ BK926 hg;replace BK926:=bb_ BK926 hb;replace HB:=Aside0.mk (below_step (bl_ HB).out hb);clear hb hbox hg));go_upto_region 1 with (first|((with_reducible refine gate_dst (N:=2) rfl ?_);(try (refine gate_guard (by rfl) ?_;dsimp only));refine be_ 2 #[.int .u8 a0_0,.int .i64 a0_1,.bool a0_2,.slice A0_3 l0_3.length c0_3] 36 ?_;intro gb926 hg w4 hbox hb;have BK926:=Aside0.mk (hbox);have GW926:=sz_ HB hg;have GE926:=sz_ HB hg;replace HB:=Aside0.mk (below_step (bl_ HB).out hb);clear hb hbox hg)|((with_reducible refine gate_dst (N:=3) rfl ?_);(try (refine gate_guard (by rfl) ?_;dsimp only));refine be_ 3 #[.int .u8 a1_0,.int .i64 a1_1,.bool a1_2,.slice A1_3 l1_3.length c1_3] 36 ?_;intro gb927 hg w5 hbox hb;have BK927:=Aside0.mk (hbox);have GW927:=sz_ HB hg;have GE927:=sz_ HB hg;have NB926_927:=na_ BK926 hg;have NB927_926:=nb_ BK926 hg;replace BK926:=bb_ BK926 hb;replace HB:=Aside0.mk (below_step (bl_ HB).out hb);clear hb hbox hg)))
 (try simp only[Act.put,List.setIfInBounds_toArray,List.set_cons_zero,List.set_cons_succ])
 go_cut [33] (fun v33 wc=>∃(kq:Nat) (x33_2:Bool),v33= .bool x33_2∧Aside0 (florinlaw06_sameRel.j0 kq x33_2 a0_0 a0_1 a0_2 l0_3 a1_0 a1_1 a1_2 l1_3=some r)∧Aside0 (kq≤k)∧Aside0 (wc.heap[gb926]? = some (.cells #[.int .u8 a0_0,.int .i64 a0_1,.bool a0_2,(.slice A0_3 l0_3.length c0_3)] 36 (0,0)))∧Aside0 (wc.heap[gb927]? = some (.cells #[.int .u8 a1_0,.int .i64 a1_1,.bool a1_2,(.slice A1_3 l1_3.length c1_3)] 36 (0,0)))∧Aside0 (Below w.heap.size w wc))
 case first =>
  have H:=HC3.out
  clear HC3
  by_cases c6:a0_0=a1_0
  ·rw[if_pos c6] at H
   have c6b0:(a0_0==a1_0)=true:=beq_iff_eq.mpr c6
   have c6b1:(a0_0 !=a1_0)=false:=bne_eq_false_iff_eq.mpr c6
   clear c6
   (first|rw[c6b0]|(simp only[i64_w,i32_w];rw[c6b0])|skip)
   by_cases c7:a0_1=a1_1
   ·rw[if_pos c7] at H
    have c7b0:(a0_1==a1_1)=true:=beq_iff_eq.mpr c7
    have c7b1:(a0_1 !=a1_1)=false:=bne_eq_false_iff_eq.mpr c7
    clear c7
    by_cases c8:(a0_2 !=a1_2)=true
    ·rw[if_pos c8] at H
     have c8b0:(a0_2 !=a1_2)=true:=c8
     (try (have c8b1:decide (a0_2=a1_2)=false:=by simpa using c8))
     (try (have c8b2:(a0_2==a1_2)=false:=by simpa using c8))
     (try (have c8b3:¬(a0_2=a1_2):=by simpa using c8))
     clear c8
     have H':=Aside0.mk H
     clear H
     have hnb9:=NB926_927.out
     have hnc9:=NB927_926.out
     obtain⟨hcz10_0,hcz10_1,hcz10_2,hcz10_3,hfz10_0,hfz10_1,hfz10_2,hfz10_3⟩:=bo4_ BK926
     obtain⟨hcz11_0,hcz11_1,hcz11_2,hcz11_3,hfz11_0,hfz11_1,hfz11_2,hfz11_3⟩:=bo4_ BK927
     go_wp2
     repeat(go_quiet (fail);try go_wp2)
     go_meet
     case rel=>exact⟨_,(true),eq_,H',⟨by first|omega|exact Nat.le_refl _⟩,(bk_ BK926),(bk_ BK927),(bl_ HB)⟩
    ·rw[if_neg c8] at H
     have c8b0:(a0_2 !=a1_2)=false:=by simpa using c8
     (try (have c8b1:decide (a0_2=a1_2)=true:=by simpa using c8))
     (try (have c8b2:(a0_2==a1_2)=true:=by simpa using c8))
     (try (have c8b3:(a0_2=a1_2)=True:=eq_true (by simpa using c8)))
     clear c8
     have H':=Aside0.mk H
     clear H
     have hnb12:=NB926_927.out
     have hnc12:=NB927_926.out
     obtain⟨hcz13_0,hcz13_1,hcz13_2,hcz13_3,hfz13_0,hfz13_1,hfz13_2,hfz13_3⟩:=bo4_ BK926
     obtain⟨hcz14_0,hcz14_1,hcz14_2,hcz14_3,hfz14_0,hfz14_1,hfz14_2,hfz14_3⟩:=bo4_ BK927
     go_wp2
     repeat(go_quiet (fail);try go_wp2)
     go_meet
     case rel=>exact⟨_,(((l0_3.length:Int) !=(l1_3.length:Int))),eq_,H',⟨by first|omega|exact Nat.le_refl _⟩,(bk_ BK926),(bk_ BK927),(bl_ HB)⟩
   ·rw[if_neg c7] at H
    have c7b0:(a0_1==a1_1)=false:=beq_eq_false_iff_ne.mpr c7
    have c7b1:(a0_1 !=a1_1)=true:=bne_iff_ne.mpr c7
    have H':=Aside0.mk H
    clear H
    have hnb15:=NB926_927.out
    have hnc15:=NB927_926.out
    obtain⟨hcz16_0,hcz16_1,hcz16_2,hcz16_3,hfz16_0,hfz16_1,hfz16_2,hfz16_3⟩:=bo4_ BK926
    obtain⟨hcz17_0,hcz17_1,hcz17_2,hcz17_3,hfz17_0,hfz17_1,hfz17_2,hfz17_3⟩:=bo4_ BK927
    go_wp2
    repeat(go_quiet (fail);try go_wp2)
    go_meet
    case rel=>exact⟨_,(true),eq_,H',⟨by first|omega|exact Nat.le_refl _⟩,(bk_ BK926),(bk_ BK927),(bl_ HB)⟩
  ·rw[if_neg c6] at H
   have c6b0:(a0_0==a1_0)=false:=beq_eq_false_iff_ne.mpr c6
   have c6b1:(a0_0 !=a1_0)=true:=bne_iff_ne.mpr c6
   (first|rw[c6b0]|(simp only[i64_w,i32_w];rw[c6b0])|skip)
   have H':=Aside0.mk H
   clear H
   have hnb18:=NB926_927.out
   have hnc18:=NB927_926.out
   obtain⟨hcz19_0,hcz19_1,hcz19_2,hcz19_3,hfz19_0,hfz19_1,hfz19_2,hfz19_3⟩:=bo4_ BK926
   obtain⟨hcz20_0,hcz20_1,hcz20_2,hcz20_3,hfz20_0,hfz20_1,hfz20_2,hfz20_3⟩:=bo4_ BK927
   go_wp2
   repeat(go_quiet (fail);try go_wp2)
   go_meet
   case rel=>exact⟨_,(true),eq_,H',⟨by first|omega|exact Nat.le_refl _⟩,(bk_ BK926),(bk_ BK927),(bl_ HB)⟩
 case rest =>
  clear HC3
  obtain⟨kq,x33_2,rfl,HA,HJ2,BK926,BK927,HB⟩:=hcut
  cases kq with
  | zero=>exact absurd HA.out (by simp[florinlaw06_sameRel.j0])
  | succ kj2 =>
   have H:=HA.out
   clear HA
   simp only[florinlaw06_sameRel.j0] at H
   by_cases c21:x33_2=true
   ·subst c21
    have H1:(some false)=some r:=by rw[if_pos rfl] at H;exact H
    clear H
    have H:=H1
    clear H1
    obtain rfl:=Option.some.inj H
    go_wp2
    repeat(go_quiet (fail);try go_wp2)
    go_ret
    exact⟨ew_,(bl_ HB).out⟩
   ·replace c21:=Bool.eq_false_iff.mpr c21
    subst c21
    have H1:(florinlaw06_sameRel.l0 kj2 (l0_3.length:Int) 0 a0_0 a0_1 a0_2 l0_3 a1_0 a1_1 a1_2 l1_3)=some r:=by rw[if_neg (show ¬(false=true) by decide)] at H;exact H
    clear H
    have H:=H1
    clear H1
    have H':=Aside0.mk H
    clear H
    have hnb22:=NB926_927.out
    have hnc22:=NB927_926.out
    obtain⟨hcz23_0,hcz23_1,hcz23_2,hcz23_3,hfz23_0,hfz23_1,hfz23_2,hfz23_3⟩:=bo4_ BK926
    go_wp2
    repeat(go_quiet (fail);try go_wp2)
    go_loopg [37] kj2 (fun kq v37 w'=>∃(x37_2:Int),v37= .int .i64 x37_2∧Aside0 (florinlaw06_sameRel.l0 kq (l0_3.length:Int) x37_2 a0_0 a0_1 a0_2 l0_3 a1_0 a1_1 a1_2 l1_3=some r)∧Aside0 (kq≤kj2)∧Aside0 (w'.heap[gb926]? = some (.cells #[.int .u8 a0_0,.int .i64 a0_1,.bool a0_2,(.slice A0_3 l0_3.length c0_3)] 36 (0,0)))∧Aside0 (w'.heap[gb927]? = some (.cells #[.int .u8 a1_0,.int .i64 a1_1,.bool a1_2,(.slice A1_3 l1_3.length c1_3)] 36 (0,0)))∧Aside0 (Below w.heap.size w w'))
    case atStart=>exact⟨(0),eq_,H',⟨Nat.le_refl _⟩,(bk_ BK926),(bk_ BK927),(bl_ HB)⟩
    case round =>
     clear H'
     obtain⟨x37_2,rfl,HA,HK2,BK926,BK927,HB⟩:=hrel
     cases gk with
     | zero=>exact absurd HA.out (by simp[florinlaw06_sameRel.l0])
     | succ k2 =>
      have H:=HA.out
      clear HA
      simp only[florinlaw06_sameRel.l0] at H
      by_cases c24:x37_2<(l0_3.length:Int)
      ·rw[if_pos c24] at H
       have c24b0:=decide_eq_true c24
       clear c24
       replace H:=ifn_ H
       obtain⟨c25,H⟩:=H
       have c25b0:decide (0≤x37_2)=true:=decide_eq_true c25
       clear c25
       replace H:=ifn_ H
       obtain⟨c26,H⟩:=H
       have c26b0:decide (x37_2<(l0_3.length:Int))=true:=decide_eq_true c26
       clear c26
       replace H:=ifn_ H
       obtain⟨c27,H⟩:=H
       have c27b0:decide (x37_2<(l1_3.length:Int))=true:=decide_eq_true c27
       clear c27
       by_cases c28:(!(((rd_T38 l0_3 x37_2).f0)==((rd_T38 l1_3 x37_2).f0))||(!(((rd_T38 l0_3 x37_2).f1)==((rd_T38 l1_3 x37_2).f1))))=true
       ·rw[if_pos c28] at H
        have c28b0:(!(((rd_T38 l0_3 x37_2).f0)==((rd_T38 l1_3 x37_2).f0))||(!(((rd_T38 l0_3 x37_2).f1)==((rd_T38 l1_3 x37_2).f1))))=true:=c28
        clear c28
        obtain rfl:=Option.some.inj H
        have hnb29:=NB926_927.out
        have hnc29:=NB927_926.out
        obtain⟨hcz30_0,hcz30_1,hcz30_2,hcz30_3,hfz30_0,hfz30_1,hfz30_2,hfz30_3⟩:=bo4_ BK926
        have p928:0≤(x37_2:Int):=od_
        have q928:x37_2<(l0_3.length:Int):=od_
        obtain⟨ad928,e928,hx928_0,hx928_1⟩:=at_T38 HR0_3.out x37_2 p928 q928
        cases e928
        replace hx928_0:=hbc_ HB hx928_0
        replace hx928_1:=hbc_ HB hx928_1
        replace p928:=eq_true p928
        replace q928:=eq_true q928
        obtain⟨hcz31_0,hcz31_1,hcz31_2,hcz31_3,hfz31_0,hfz31_1,hfz31_2,hfz31_3⟩:=bo4_ BK927
        have p929:0≤(x37_2:Int):=od_
        have q929:x37_2<(l1_3.length:Int):=od_
        obtain⟨ad929,e929,hx929_0,hx929_1⟩:=at_T38 HR1_3.out x37_2 p929 q929
        cases e929
        replace hx929_0:=hbc_ HB hx929_0
        replace hx929_1:=hbc_ HB hx929_1
        replace p929:=eq_true p929
        replace q929:=eq_true q929
        go_wp2
        repeat(go_quiet (fail);try go_wp2)
        go_ret
        exact⟨ew_,(bl_ HB).out⟩
       ·rw[if_neg c28] at H
        have c28b0:(!(((rd_T38 l0_3 x37_2).f0)==((rd_T38 l1_3 x37_2).f0))||(!(((rd_T38 l0_3 x37_2).f1)==((rd_T38 l1_3 x37_2).f1))))=false:=by simpa using c28
        clear c28
        have H':=Aside0.mk H
        clear H
        have hnb32:=NB926_927.out
        have hnc32:=NB927_926.out
        obtain⟨hcz33_0,hcz33_1,hcz33_2,hcz33_3,hfz33_0,hfz33_1,hfz33_2,hfz33_3⟩:=bo4_ BK926
        have p928:0≤(x37_2:Int):=od_
        have q928:x37_2<(l0_3.length:Int):=od_
        obtain⟨ad928,e928,hx928_0,hx928_1⟩:=at_T38 HR0_3.out x37_2 p928 q928
        cases e928
        replace hx928_0:=hbc_ HB hx928_0
        replace hx928_1:=hbc_ HB hx928_1
        replace p928:=eq_true p928
        replace q928:=eq_true q928
        obtain⟨hcz34_0,hcz34_1,hcz34_2,hcz34_3,hfz34_0,hfz34_1,hfz34_2,hfz34_3⟩:=bo4_ BK927
        have p929:0≤(x37_2:Int):=od_
        have q929:x37_2<(l1_3.length:Int):=od_
        obtain⟨ad929,e929,hx929_0,hx929_1⟩:=at_T38 HR1_3.out x37_2 p929 q929
        cases e929
        replace hx929_0:=hbc_ HB hx929_0
        replace hx929_1:=hbc_ HB hx929_1
        replace p929:=eq_true p929
        replace q929:=eq_true q929
        go_wp2
        repeat(go_quiet (fail);try go_wp2)
        go_roundg k2
        case measure=>have:=HJ2.out;have:=HK2.out;omega
        case rel=>exact⟨(wrap64 (x37_2+1)),eq_,H',⟨by have:=HJ2.out;have:=HK2.out;omega⟩,(bk_ BK926),(bk_ BK927),(bl_ HB)⟩
      ·rw[if_neg c24] at H
       have c24b0:=decide_eq_false c24
       clear c24
       obtain rfl:=Option.some.inj H
       go_wp2
       repeat(go_quiet (fail);try go_wp2)
       go_ret
       exact⟨ew_,(bl_ HB).out⟩

end Go.Proofs.YtcokjmnkieakiaaDoor.P
