-- written by a program of this session (wip/p2)
import Derived.Test.YtcokjmnkieakiaaGreatDoorPx0
import Derived.Test.YtcokjmnkieakiaaGreatDoorPx4
import Derived.Test.YtcokjmnkieakiaaGreatDoorPx5
import Derived.Test.YtcokjmnkieakiaaGreatDoorPx6
import Derived.Test.YtcokjmnkieakiaaGreatDoorPx10
import Derived.Test.YtcokjmnkieakiaaGreatDoorPx12
namespace Go.Proofs.YtcokjmnkieakiaaGreatDoor.P
open Go.RowKit Go.Proofs.YtcokjmnkieakiaaGreatDoorW.PrintWords Go.Proofs.YtcokjmnkieakiaaGreatDoorW.PrintLast Go.Proofs.YtcokjmnkieakiaaGreatDoorW.PrintMore
attribute [local go_sem] max2_int min2_int max_two min_two max_three min_three max_four min_four   -- for this text's walks alone
set_option linter.unusedVariables false
set_option linter.unusedSimpArgs false

/-! ### florinlaw06_RuleOrders: function 5 -/
def florinlaw06_RuleOrders.l0:Nat→List (S39)→Int→Int→List (S39)→ByteArray→Int→Int→Option (Bool)
 | 0,_,_,_,_,_,_,_=>none
 | k+1,x5,x7,x8,x9,x10,x37,x38=>if x38<x37 then (if x7=0 then (none) else (if 0≤(Int.tmod (wrap64 (x38+x8)) x7) then (if (Int.tmod (wrap64 (x38+x8)) x7)<(x5.length:Int) then (if x9.length<2932031007402 then ((some (x9++[(⟨(rd_T39 x5 (Int.tmod (wrap64 (x38+x8)) x7)).f0,(rd_T39 x5 (Int.tmod (wrap64 (x38+x8)) x7)).f1,(rd_T39 x5 (Int.tmod (wrap64 (x38+x8)) x7)).f2⟩:S39)]:List (S39))).bind fun y733=>(if x38>0 then (if x10.size+1≤9223372036854775807 then ((rule_Rule_String.f k ((rd_T39 x5 (Int.tmod (wrap64 (x38+x8)) x7)).f0) ((rd_T39 x5 (Int.tmod (wrap64 (x38+x8)) x7)).f1) ((rd_T39 x5 (Int.tmod (wrap64 (x38+x8)) x7)).f2)).bind fun t736=>(if (x10++(⟨#[59]⟩:ByteArray)).size+t736.size≤9223372036854775807 then (florinlaw06_RuleOrders.l0 k x5 x7 x8 y733 ((x10++(⟨#[59]⟩:ByteArray))++t736) x37 (wrap64 (x38+1))) else (none))) else (none)) else ((rule_Rule_String.f k ((rd_T39 x5 (Int.tmod (wrap64 (x38+x8)) x7)).f0) ((rd_T39 x5 (Int.tmod (wrap64 (x38+x8)) x7)).f1) ((rd_T39 x5 (Int.tmod (wrap64 (x38+x8)) x7)).f2)).bind fun t737=>(if x10.size+t737.size≤9223372036854775807 then (florinlaw06_RuleOrders.l0 k x5 x7 x8 y733 (x10++t737) x37 (wrap64 (x38+1))) else (none))))) else (none)) else (none)) else (none))) else (if (x10.size:Int)>4000 then (some true) else ((rule_Parse.f k x10).bind fun bt738=>(if bt738.2.1=0 then ((florinlaw06_Same.f k bt738.1 x9).bind fun t743=>(some t743)) else (none))))
def florinlaw06_RuleOrders.f (k:Nat) (l0:List (S46)) (a1:Int):Option (Bool):=(florinlaw06_head.f k).bind fun t722=>(if t722=true then ((florinlaw06_Few.f k l0).bind fun t723=>(if t723=true then ((florinlaw06_All.f k l0 0).bind fun bt724=>(if (IntKind.u64.wrap (mx (bt724.1.length:Int) 1))=0 then (none) else (florinlaw06_RuleOrders.l0 k bt724.1 (mx (bt724.1.length:Int) 1) (wrap64 (Int.tmod (IntKind.u64.wrap (a1)) (IntKind.u64.wrap (mx (bt724.1.length:Int) 1)))) (([]:List (S39))) (⟨#[]⟩:ByteArray) (bt724.1.length:Int) 0))) else (some true))) else (none))
set_option maxHeartbeats 64000000 in
set_option maxRecDepth 100000 in
theorem florinlaw06_RuleOrders.calls (k:Nat) (A0:Option Addr) (c0:Nat) (l0:List (S46)) (a1:Int) (r:Bool) (w:World) (hr0:Kd.C k46 w A0 l0.length l0) (hc0:l0.length≤c0) (h:florinlaw06_RuleOrders.f k l0 a1=some r) (ht:Lib.TabIs Tryz.prog w "internal/strconv.uint64pow10" .u64 Lib.pow10Tab:=by first|assumption|exact tb_ (by assumption) (bl_ (by assumption)).out) :
  Calls Tryz.prog 5 #[.slice A0 l0.length c0,.int .i64 a1] w fun e w'=>e= .returned (.bool r)∧Below w.heap.size w w':=by
 have hu39:=Tryz.underlying39
 have HR0:=Aside0.mk hr0
 have HC0:=Aside0.mk hc0
 clear hr0 hc0
 have HB:=Aside0.mk (Below.refl w.heap.size w)
 have H:((florinlaw06_head.f k).bind fun t722=>(if t722=true then ((florinlaw06_Few.f k l0).bind fun t723=>(if t723=true then ((florinlaw06_All.f k l0 0).bind fun bt724=>(if (IntKind.u64.wrap (mx (bt724.1.length:Int) 1))=0 then (none) else (florinlaw06_RuleOrders.l0 k bt724.1 (mx (bt724.1.length:Int) 1) (wrap64 (Int.tmod (IntKind.u64.wrap (a1)) (IntKind.u64.wrap (mx (bt724.1.length:Int) 1)))) (([]:List (S39))) (⟨#[]⟩:ByteArray) (bt724.1.length:Int) 0))) else (some true))) else (none)))=some r:=h
 clear h
 replace H:=Option.bind_eq_some_iff.mp H
 obtain⟨t722,A30,H⟩:=H
 replace H:(if t722=true then ((florinlaw06_Few.f k l0).bind fun t723=>(if t723=true then ((florinlaw06_All.f k l0 0).bind fun bt724=>(if (IntKind.u64.wrap (mx (bt724.1.length:Int) 1))=0 then (none) else (florinlaw06_RuleOrders.l0 k bt724.1 (mx (bt724.1.length:Int) 1) (wrap64 (Int.tmod (IntKind.u64.wrap (a1)) (IntKind.u64.wrap (mx (bt724.1.length:Int) 1)))) (([]:List (S39))) (⟨#[]⟩:ByteArray) (bt724.1.length:Int) 0))) else (some true))) else (none))=some r:=H
 have A3:=Aside0.mk A30
 clear A30
 by_cases c4:t722=true
 ·subst c4
  have H1:((florinlaw06_Few.f k l0).bind fun t723=>(if t723=true then ((florinlaw06_All.f k l0 0).bind fun bt724=>(if (IntKind.u64.wrap (mx (bt724.1.length:Int) 1))=0 then (none) else (florinlaw06_RuleOrders.l0 k bt724.1 (mx (bt724.1.length:Int) 1) (wrap64 (Int.tmod (IntKind.u64.wrap (a1)) (IntKind.u64.wrap (mx (bt724.1.length:Int) 1)))) (([]:List (S39))) (⟨#[]⟩:ByteArray) (bt724.1.length:Int) 0))) else (some true)))=some r:=by rw[if_pos rfl] at H;exact H
  clear H
  have H:=H1
  clear H1
  replace H:=Option.bind_eq_some_iff.mp H
  obtain⟨t723,A50,H⟩:=H
  replace H:(if t723=true then ((florinlaw06_All.f k l0 0).bind fun bt724=>(if (IntKind.u64.wrap (mx (bt724.1.length:Int) 1))=0 then (none) else (florinlaw06_RuleOrders.l0 k bt724.1 (mx (bt724.1.length:Int) 1) (wrap64 (Int.tmod (IntKind.u64.wrap (a1)) (IntKind.u64.wrap (mx (bt724.1.length:Int) 1)))) (([]:List (S39))) (⟨#[]⟩:ByteArray) (bt724.1.length:Int) 0))) else (some true))=some r:=H
  have A5:=Aside0.mk A50
  clear A50
  by_cases c6:t723=true
  ·subst c6
   have H1:((florinlaw06_All.f k l0 0).bind fun bt724=>(if (IntKind.u64.wrap (mx (bt724.1.length:Int) 1))=0 then (none) else (florinlaw06_RuleOrders.l0 k bt724.1 (mx (bt724.1.length:Int) 1) (wrap64 (Int.tmod (IntKind.u64.wrap (a1)) (IntKind.u64.wrap (mx (bt724.1.length:Int) 1)))) (([]:List (S39))) (⟨#[]⟩:ByteArray) (bt724.1.length:Int) 0)))=some r:=by rw[if_pos rfl] at H;exact H
   clear H
   have H:=H1
   clear H1
   replace H:=Option.bind_eq_some_iff.mp H
   obtain⟨⟨t724,t727⟩,A70,H⟩:=H
   dsimp only at H
   have A7:=Aside0.mk A70
   clear A70
   obtain⟨ji8,hji8⟩:∃j_:Int,(mx (t724.length:Int) 1)=j_:=⟨_,rfl⟩
   replace H:(if (IntKind.u64.wrap (ji8))=0 then (none) else (florinlaw06_RuleOrders.l0 k t724 ji8 (wrap64 (Int.tmod (IntKind.u64.wrap (a1)) (IntKind.u64.wrap (ji8)))) (([]:List (S39))) (⟨#[]⟩:ByteArray) (t724.length:Int) 0))=some r:=by first|(rw[hji8] at H;exact H)|(simp only[hji8] at H ⊢;exact H)
   (try rw[hji8] at A3)
   (try rw[hji8] at A5)
   (try rw[hji8] at A7)
   (try (have hji8l:1≤ji8:=by (rw[← hji8];unfold mx;(repeat' split) <;> omega)))
   (try (have hji8m:0≤ji8:=by omega))
   have hji8_:(if (t724.length:Int)<1 then 1 else (t724.length:Int))=ji8:=hji8
   replace H:=ifp_ H
   obtain⟨c9,H⟩:=H
   have c9b0:((IntKind.u64.wrap (ji8))==0)=false:=beq_eq_false_iff_ne.mpr c9
   have c9b1:((IntKind.u64.wrap (ji8)) !=0)=true:=bne_iff_ne.mpr c9
   obtain⟨y728,hy728⟩:∃y_:List (S39),y_=(([]:List (S39))):=⟨_,rfl⟩
   replace H:(florinlaw06_RuleOrders.l0 k t724 ji8 (wrap64 (Int.tmod (IntKind.u64.wrap (a1)) (IntKind.u64.wrap (ji8)))) y728 (⟨#[]⟩:ByteArray) (t724.length:Int) 0)=some r:=by first|(rw[hy728];with_reducible exact H)|(have H2_:=(Option.bind_some _ _).symm.trans H;rw[hy728];with_reducible exact H2_)|(have H2_:=(Option.bind_some _ _).symm.trans H;with_reducible exact H2_)|with_reducible exact H|(rw[hy728];exact H)|exact H
   have Ny728:=Aside0.mk hy728
   clear hy728
   have H':=Aside0.mk H
   clear H
   go_enter Tryz.func5,Tryz.ntmps5
   go_wp2_with (first|((with_reducible refine gate_callee (f:=6) rfl ?_);refine gl_ (some 16) Tryz.func6 #[] ?_;(with_reducible refine(florinlaw06_head.calls _ _ _ A3.out).mono ?_);rintro e w10 ⟨rfl,hb⟩;refine⟨_,rfl,?_⟩;replace HB:=Aside0.mk (below_step (bl_ HB).out hb);(try clear hb);(try clear hi))|((with_reducible refine gate_callee (f:=7) rfl ?_);refine gl_ (some 19) Tryz.func7 #[.slice A0 l0.length c0] ?_;(with_reducible refine(florinlaw06_Few.calls _ _ _ _ _ _ ?side1 ?side2 A5.out).mono ?_);(case side1=>repeat(first|exact(Kd.C_below HR0.out HB.out)|(with_reducible refine Kd.C_alloc ?_ _)|(with_reducible refine Kd.C_drewN ?_ _)|(with_reducible refine Kd.C_drew ?_)));(case side2=>exact HC0.out);rintro e w11 ⟨rfl,hb⟩;refine⟨_,rfl,?_⟩;replace HB:=Aside0.mk (below_step (bl_ HB).out hb);(try clear hb);(try clear hi))|((with_reducible refine gate_callee (f:=8) rfl ?_);refine gl_ (some 23) Tryz.func8 #[.slice A0 l0.length c0,.int .i64 0] ?_;(with_reducible refine(florinlaw06_All.calls _ (fun k_=>k_<w.heap.size) _ _ _ _ _ _ _ ?side1 A7.out).mono ?_);(case side1=>exact Kd.V_mk HC0.out (Kd.F_below (Kd.C_F k46_heap HR0.out) (bl_ HB).out));rintro e w12 ⟨v725,rfl,ho0,hb⟩;refine⟨_,rfl,?_⟩;have HO726:=Aside0.mk (Kd.N_lower (Kd.N_mono (ok':=fun k_=>True) ho0 (fun k_ hk_=>trivial)) (below_size (bl_ HB).out));replace HB:=Aside0.mk (below_step (bl_ HB).out hb);(try clear hb);(try clear ho0);obtain⟨Ao13,co13,eo13⟩:=Kd.N_slice HO726.out;subst eo13)|((with_reducible refine gate_dst (N:=35) rfl ?_);refine Kd.N_lit k39 _ 39 ?hg (N':=35) ?hd (xs:=([]:List (S39))) (inner:=[]) (ok:=(fun k_=>some k_≠(.slice Ao13 t724.length co13:Value).ownBlock)) (okp:=(fun k_=>some k_≠(.slice Ao13 t724.length co13:Value).ownBlock)) ?hr ?hp (fun _ hk=>hk) ((show ∀k_,w12.heap.size≤k_→(fun k_=>some k_≠(.slice Ao13 t724.length co13:Value).ownBlock) k_ from fun k_ hk=>Kd.fresh' (Kd.N_lt (krN_ HO726)) k_ hk) _ (Nat.le_refl _)) (Below.refl _ _) (Nat.le_refl _) (by simp) ?_;(case hd=>rfl);(case hg=>rfl);(case hr=>first|(go_simp;done)|(go_simp;rfl));(case hp=>exact(Reps.none _ _));intro v729 w14 ho15 hb hg_ hnew_;clear hg_ hnew_;(first|rw[← Ny728.out] at ho15|(simp only[Int.reduceToNat] at ho15;rw[← Ny728.out] at ho15));have HO730:=Aside0.mk (Kd.N_lower ho15 (below_size (bl_ HB).out));replace HO726:=Aside0.mk (Kd.N_elder' (krN_ HO726) (Kd.N_base ho15) hb);replace HB:=Aside0.mk (below_step (bl_ HB).out hb);clear hb ho15))
   go_loopg [9,10,38] k (fun kq v9 v10 v38 w'=>∃(x9_1:List (S39)) (x10_1:ByteArray) (x38_1:Int),v10= .string x10_1∧v38= .int .i64 x38_1∧Aside0 (florinlaw06_RuleOrders.l0 kq t724 ji8 (wrap64 (Int.tmod (IntKind.u64.wrap (a1)) (IntKind.u64.wrap (ji8)))) x9_1 x10_1 (t724.length:Int) x38_1=some r)∧Aside0 (kq≤k)∧Aside0 (Kd.N k39 39 w' w.heap.size (fun k_=>some k_≠(v9:Value).ownBlock) (.slice Ao13 t724.length co13) t724)∧Aside0 (Kd.N k39 39 w' w.heap.size (fun k_=>some k_≠((.slice Ao13 t724.length co13):Value).ownBlock) v9 x9_1)∧Aside0 (Below w.heap.size w w'))
   case atStart=>exact⟨(y728),((⟨#[]⟩:ByteArray)),(0),eq_,eq_,H',⟨Nat.le_refl _⟩,⟨by (with_reducible repeat(first|apply Kd.N_alloc|apply Kd.N_drewN|apply Kd.N_drew));exact Kd.N_mono HO726.out (fun _ hk=>hk.2)⟩,⟨by (with_reducible repeat(first|apply Kd.N_alloc|apply Kd.N_drewN|apply Kd.N_drew));exact HO730.out⟩,(bl_ HB)⟩
   case round =>
    clear H'
    obtain⟨x9_1,x10_1,x38_1,rfl,rfl,HA,HK1,HO_5,HO_9,HB⟩:=hrel
    cases gk with
    | zero=>exact absurd HA.out (by simp[florinlaw06_RuleOrders.l0])
    | succ k1 =>
     have H:=HA.out
     clear HA
     simp only[florinlaw06_RuleOrders.l0] at H
     by_cases c16:x38_1<(t724.length:Int)
     ·rw[if_pos c16] at H
      have c16b0:=decide_eq_true c16
      clear c16
      replace H:=ifp_ H
      obtain⟨c17,H⟩:=H
      have c17b0:(ji8==0)=false:=beq_eq_false_iff_ne.mpr c17
      have c17b1:(ji8 !=0)=true:=bne_iff_ne.mpr c17
      obtain⟨ji18,hji18⟩:∃j_:Int,(Int.tmod (wrap64 (x38_1+(wrap64 (Int.tmod (IntKind.u64.wrap (a1)) (IntKind.u64.wrap (ji8)))))) ji8)=j_:=⟨_,rfl⟩
      replace H:(if 0≤(ji18) then (if (ji18)<(t724.length:Int) then (if x9_1.length<2932031007402 then ((some (x9_1++[(⟨(rd_T39 t724 (ji18)).f0,(rd_T39 t724 (ji18)).f1,(rd_T39 t724 (ji18)).f2⟩:S39)]:List (S39))).bind fun y733=>(if x38_1>0 then (if x10_1.size+1≤9223372036854775807 then ((rule_Rule_String.f k1 ((rd_T39 t724 (ji18)).f0) ((rd_T39 t724 (ji18)).f1) ((rd_T39 t724 (ji18)).f2)).bind fun t736=>(if (x10_1++(⟨#[59]⟩:ByteArray)).size+t736.size≤9223372036854775807 then (florinlaw06_RuleOrders.l0 k1 t724 ji8 (wrap64 (Int.tmod (IntKind.u64.wrap (a1)) (IntKind.u64.wrap (ji8)))) y733 ((x10_1++(⟨#[59]⟩:ByteArray))++t736) (t724.length:Int) (wrap64 (x38_1+1))) else (none))) else (none)) else ((rule_Rule_String.f k1 ((rd_T39 t724 (ji18)).f0) ((rd_T39 t724 (ji18)).f1) ((rd_T39 t724 (ji18)).f2)).bind fun t737=>(if x10_1.size+t737.size≤9223372036854775807 then (florinlaw06_RuleOrders.l0 k1 t724 ji8 (wrap64 (Int.tmod (IntKind.u64.wrap (a1)) (IntKind.u64.wrap (ji8)))) y733 (x10_1++t737) (t724.length:Int) (wrap64 (x38_1+1))) else (none))))) else (none)) else (none)) else (none))=some r:=by first|(rw[hji18] at H;exact H)|(simp only[hji18] at H ⊢;exact H)
      replace H:=ifn_ H
      obtain⟨c19,H⟩:=H
      have c19b0:decide (0≤(ji18))=true:=decide_eq_true c19
      clear c19
      replace H:=ifn_ H
      obtain⟨c20,H⟩:=H
      have c20b0:decide ((ji18)<(t724.length:Int))=true:=decide_eq_true c20
      clear c20
      replace H:=ifn_ H
      obtain⟨c21,H⟩:=H
      have LMc21:=Aside0.mk c21
      clear c21
      obtain⟨y733,hy733⟩:∃y_:List (S39),y_=(x9_1++[(⟨(rd_T39 t724 (ji18)).f0,(rd_T39 t724 (ji18)).f1,(rd_T39 t724 (ji18)).f2⟩:S39)]):=⟨_,rfl⟩
      replace H:(if x38_1>0 then (if x10_1.size+1≤9223372036854775807 then ((rule_Rule_String.f k1 ((rd_T39 t724 (ji18)).f0) ((rd_T39 t724 (ji18)).f1) ((rd_T39 t724 (ji18)).f2)).bind fun t736=>(if (x10_1++(⟨#[59]⟩:ByteArray)).size+t736.size≤9223372036854775807 then (florinlaw06_RuleOrders.l0 k1 t724 ji8 (wrap64 (Int.tmod (IntKind.u64.wrap (a1)) (IntKind.u64.wrap (ji8)))) y733 ((x10_1++(⟨#[59]⟩:ByteArray))++t736) (t724.length:Int) (wrap64 (x38_1+1))) else (none))) else (none)) else ((rule_Rule_String.f k1 ((rd_T39 t724 (ji18)).f0) ((rd_T39 t724 (ji18)).f1) ((rd_T39 t724 (ji18)).f2)).bind fun t737=>(if x10_1.size+t737.size≤9223372036854775807 then (florinlaw06_RuleOrders.l0 k1 t724 ji8 (wrap64 (Int.tmod (IntKind.u64.wrap (a1)) (IntKind.u64.wrap (ji8)))) y733 (x10_1++t737) (t724.length:Int) (wrap64 (x38_1+1))) else (none))))=some r:=by first|(rw[hy733];with_reducible exact H)|(have H2_:=(Option.bind_some _ _).symm.trans H;rw[hy733];with_reducible exact H2_)|(have H2_:=(Option.bind_some _ _).symm.trans H;with_reducible exact H2_)|with_reducible exact H|(rw[hy733];exact H)|exact H
      have Ny733:=Aside0.mk hy733
      clear hy733
      by_cases c22:x38_1>0
      ·rw[if_pos c22] at H
       have c22b0:decide (0<x38_1)=true:=decide_eq_true c22
       clear c22
       replace H:=ifn_ H
       obtain⟨c23,H⟩:=H
       have c23b0:=eq_true c23
       have c23b1:decide (x10_1.size+1≤9223372036854775807)=true:=decide_eq_true c23
       try have c23b2:=eq_false (Nat.not_lt.2 c23)
       replace H:=Option.bind_eq_some_iff.mp H
       obtain⟨t736,A240,H⟩:=H
       replace H:(if (x10_1++(⟨#[59]⟩:ByteArray)).size+t736.size≤9223372036854775807 then (florinlaw06_RuleOrders.l0 k1 t724 ji8 (wrap64 (Int.tmod (IntKind.u64.wrap (a1)) (IntKind.u64.wrap (ji8)))) y733 ((x10_1++(⟨#[59]⟩:ByteArray))++t736) (t724.length:Int) (wrap64 (x38_1+1))) else (none))=some r:=H
       have A24:=Aside0.mk A240
       clear A240
       replace H:=ifn_ H
       obtain⟨c25,H⟩:=H
       have c25b0:=eq_true c25
       have c25b1:decide ((x10_1++(⟨#[59]⟩:ByteArray)).size+t736.size≤9223372036854775807)=true:=decide_eq_true c25
       try (have c25b5:=c25b0;simp only[ByteArray.size_append,Int.natCast_add] at c25b5)
       try have c25b2:=eq_false (Nat.not_lt.2 c25)
       try have c25b3:(9223372036854775807<x10_1.size+1+t736.size)=False:=eq_false (Nat.not_lt.2 (by have h_:=c25;simp only[ByteArray.size_append] at h_;exact h_))
       try have c25b4:(x10_1.size+1+t736.size≤9223372036854775807)=True:=eq_true (by have h_:=c25;simp only[ByteArray.size_append] at h_;exact h_)
       have H':=Aside0.mk H
       clear H
       have p731:0≤((ji18):Int):=od_
       have q731:(ji18)<(t724.length:Int):=od_
       obtain⟨ad731,A731_1,c731_1,e731,hx731_0,hx731_1,hx731_2,hl731_1,hi731_1⟩:=at_T39 (Kd.N_reads' HO_5.out).2.2 (ji18) p731 q731
       cases e731
       obtain⟨ce731,hce731,hMe731,hcc731⟩:=Kd.N_get HO_5.out z39 (ji18) p731 (by first|exact q731|exact od_|(have e_:=(Kd.N_reads' HO_5.out).1;omega))
       obtain⟨ua731_1,uc731_1,rfl,ul731_1,ge731_1⟩:=k39_openF hMe731
       have hv731_1:=hcc731 1 _ rfl
       rw[add_field _ _ 1 (by omega)] at hv731_1
       replace hv731_1:=Option.some.inj (hv731_1.symm.trans hx731_1)
       injection hv731_1 with hva_ hvn_ hvc_
       rw[hva_] at ge731_1
       rw[hvc_] at ul731_1
       have HL731_1:=Aside0.mk (show Kd.V (Kd.slice 43 k43) 40 _ w.heap.size _ _ ((rd_T39 t724 (ji18)).f1) from Kd.V_mk ul731_1 ge731_1)
       clear hva_ hvn_ hvc_ ge731_1 ul731_1
       clear hcc731 hce731
       have HR731_1:=Aside0.mk hi731_1
       have HC731_1:=Aside0.mk hl731_1
       clear hi731_1 hl731_1
       replace p731:=eq_true p731
       replace q731:=eq_true q731
       go_wp2_with (first|((with_reducible refine gate_dst (N:=12) rfl ?_);refine be_ 12 #[.int .i64 0,.slice none 0 0,.string (⟨#[]⟩:ByteArray)] 39 ?_;intro gb732 hg w26 hbox hb;have BK732:=Aside0.mk (hbox);have GW732:=sz_ HB hg;have GE732:=sz_ HB hg;replace HO_5:=Aside0.mk (Kd.N_below (Kd.N_elderB (krN_ HO_5) gb732 (Nat.le_of_eq hg.symm)) hb);replace HO_9:=Aside0.mk (Kd.N_below (Kd.N_elderB (krN_ HO_9) gb732 (Nat.le_of_eq hg.symm)) hb);replace HL731_1:=Aside0.mk (Kd.V_below (Kd.V_elderB (krV_ HL731_1) gb732 (Nat.le_of_eq hg.symm)) hb);replace HR731_1:=Aside0.mk (Kd.C_below (by repeat(first|(with_reducible exact HR731_1.out)|(with_reducible refine Kd.C_alloc ?_ _)|(with_reducible refine Kd.C_drewN ?_ _)|(with_reducible refine Kd.C_drew ?_)|exact HR731_1.out)) hb);replace HB:=Aside0.mk (below_step (bl_ HB).out hb);clear hb hbox hg;obtain⟨hcz27_0,hcz27_1,hcz27_2,hfz27_0,hfz27_1,hfz27_2⟩:=bo3_ BK732)|((with_reducible refine gate_store (t:=39) (p:=12) rfl ?_);refine store_event (t:=39) (p:=12) (v:=?vo_w28) (w1:=(((w26.setCell ⟨gb732,0,none⟩ (.int .i64 ((rd_T39 t724 (ji18)).f0))).setCell ⟨gb732,1,none⟩ (.slice A731_1 ((rd_T39 t724 (ji18)).f1).length c731_1)).setCell ⟨gb732,2,none⟩ (.string ((rd_T39 t724 (ji18)).f2)))) ?hg ?ho ?hn ?hr ?_;(case ho=>rfl);(case hg=>rfl);(case hn=>rfl);(case hr=>first|(go_simp;done)|(go_simp;rfl));intro w28 hw;have n0_:Aside0 (Kd.N k39 39 w28 w.heap.size (fun k_=>some k_≠(u9:Value).ownBlock∧k_≠gb732) (.slice (some ad731) t724.length co13) t724):=⟨(by rw[hw];exact(by (with_reducible repeat(first|apply Kd.N_alloc|apply Kd.N_drewN|apply Kd.N_drew));exact Kd.N_mono (Kd.N_far (Kd.N_far (Kd.N_far (Kd.N_mono HO_5.out (fun k_ hk=>(⟨hk,hk.2⟩:_∧k_≠gb732))) (fun _ hk=>hk.2) _) (fun _ hk=>hk.2) _) (fun _ hk=>hk.2) _) (fun _ hk=>⟨hk.1.1,hk.1.2⟩)))⟩;have n1_:Aside0 (Kd.N k39 39 w28 w.heap.size (fun k_=>some k_≠(.slice (some ad731) t724.length co13:Value).ownBlock∧k_≠gb732) u9 x9_1):=⟨(by rw[hw];exact(by (with_reducible repeat(first|apply Kd.N_alloc|apply Kd.N_drewN|apply Kd.N_drew));exact Kd.N_mono (Kd.N_far (Kd.N_far (Kd.N_far (Kd.N_mono HO_9.out (fun k_ hk=>(⟨hk,hk.2⟩:_∧k_≠gb732))) (fun _ hk=>hk.2) _) (fun _ hk=>hk.2) _) (fun _ hk=>hk.2) _) (fun _ hk=>⟨hk.1.1,hk.1.2⟩)))⟩;have n2_:Aside0 (Kd.V (Kd.slice 43 k43) 40 w28 w.heap.size (fun k_=>some k_≠(.slice (some ad731) t724.length co13:Value).ownBlock∧some k_≠(u9:Value).ownBlock∧k_≠gb732) (.slice A731_1 ((rd_T39 t724 (ji18)).f1).length c731_1) ((rd_T39 t724 (ji18)).f1)):=⟨(by rw[hw];exact(by (with_reducible repeat(first|apply Kd.V_alloc|apply Kd.V_drewN|apply Kd.V_drew));exact Kd.V_mono (Kd.V_far (Kd.V_far (Kd.V_far (Kd.V_mono HL731_1.out (fun k_ hk=>(⟨hk,hk.2⟩:_∧k_≠gb732))) (fun _ hk=>hk.2) _) (fun _ hk=>hk.2) _) (fun _ hk=>hk.2) _) (fun _ hk=>⟨hk.1.1.2,⟨hk.1.1.1,hk.1.2⟩⟩)))⟩;have n3_:Aside0 (w28.heap[gb732]? = some (.cells #[.int .i64 ((rd_T39 t724 (ji18)).f0),.slice A731_1 ((rd_T39 t724 (ji18)).f1).length c731_1,.string ((rd_T39 t724 (ji18)).f2)] 39 (0,0))):=⟨(by rw[hw];exact(by (with_reducible repeat(first|refine blk_drewN ?_ _|refine blk_drew ?_|refine blk_alloc ?_ _));refine blk_put (cs:= #[.int .i64 ((rd_T39 t724 (ji18)).f0),.slice A731_1 ((rd_T39 t724 (ji18)).f1).length c731_1,.string (⟨#[]⟩:ByteArray)]) ?_ 2 _ rfl;(with_reducible repeat(first|refine blk_drewN ?_ _|refine blk_drew ?_|refine blk_alloc ?_ _));refine blk_put (cs:= #[.int .i64 ((rd_T39 t724 (ji18)).f0),.slice none 0 0,.string (⟨#[]⟩:ByteArray)]) ?_ 1 _ rfl;(with_reducible repeat(first|refine blk_drewN ?_ _|refine blk_drew ?_|refine blk_alloc ?_ _));refine blk_put (cs:= #[.int .i64 0,.slice none 0 0,.string (⟨#[]⟩:ByteArray)]) ?_ 0 _ rfl;(with_reducible repeat(first|refine blk_drewN ?_ _|refine blk_drew ?_|refine blk_alloc ?_ _));exact BK732.out))⟩;have n4_:Aside0 (Below w.heap.size w w28):=⟨(by rw[hw];exact(bl_ HB).out)⟩;clear hw;clear HO_5;clear HO_9;clear HL731_1;clear BK732;clear HB;have HO_5:=n0_;have HO_9:=n1_;have HL731_1:=n2_;have BK732:=n3_;have HB:=n4_;clear n0_ n1_ n2_ n3_ n4_;obtain⟨hcz29_0,hcz29_1,hcz29_2,hfz29_0,hfz29_1,hfz29_2⟩:=bo3_ BK732)|((with_reducible refine gate_builtin (b:= .append) (xs:= #[.tmp 49,.tmp 51]) rfl ?_);at_builtin;refine Kd.N_append k39 (w0:=w) w.heap.size rfl (.tmp 49) (.tmp 51) 26 39 (.agg #[(.int .i64 0),(.slice none 0 0),(.string ⟨#[]⟩)]) 48 rfl Tryz.underlying26 info39 rfl (by decide) (by omega) u9 x9_1 (⟨(rd_T39 t724 (ji18)).f0,(rd_T39 t724 (ji18)).f1,(rd_T39 t724 (ji18)).f2⟩:S39) [.int .i64 ((rd_T39 t724 (ji18)).f0),.slice A731_1 ((rd_T39 t724 (ji18)).f1).length c731_1,.string ((rd_T39 t724 (ji18)).f2)] (fun k_=>some k_≠(.slice (some ad731) t724.length co13:Value).ownBlock∧k_≠gb732) (fun k_=>((fun k_=>some k_≠(.slice (some ad731) t724.length co13:Value).ownBlock∧k_≠gb732)) k_∧some k_≠(u9:Value).ownBlock) rfl rfl ?aP (fun _ hk=>hk) ?aF ?aO ?aB ?aS ?aL ?_;(case aP=>exact(k39_mkF _ _ (⟨(rd_T39 t724 (ji18)).f0,(rd_T39 t724 (ji18)).f1,(rd_T39 t724 (ji18)).f2⟩:S39) (Kd.V_reads' (Kd.V_mono (ok':=(fun k_=>((fun k_=>some k_≠(.slice (some ad731) t724.length co13:Value).ownBlock∧k_≠gb732)) k_∧some k_≠(u9:Value).ownBlock)) (HL731_1.out) (fun k_ hk=>⟨⟨hk.1,hk.2.2⟩,hk.2.1⟩))).2.1 (Kd.V_F (Kd.V_mono (ok':=(fun k_=>((fun k_=>some k_≠(.slice (some ad731) t724.length co13:Value).ownBlock∧k_≠gb732)) k_∧some k_≠(u9:Value).ownBlock)) (HL731_1.out) (fun k_ hk=>⟨⟨hk.1,hk.2.2⟩,hk.2.1⟩)))));(case aB=>exact(bl_ HB).out);(case aF=>exact(fun k_ hk=>⟨Kd.fresh' (Kd.N_lt (krN_ HO_5)) k_ hk,Kd.freshB (bk_ BK732).out k_ hk⟩));(case aO=>exact(krN_ HO_9));(case aS=>exact(below_size (bl_ HB).out));(case aL=>have:=LMc21.out;omega);intro v734 w30 ho hb hg hat;rw[← Ny733.out] at ho;have n0_:=Aside0.mk (Kd.N_afterv (ok:=(fun k_=>k_≠gb732)) (by (with_reducible repeat(first|apply Kd.N_alloc|apply Kd.N_drewN|apply Kd.N_drew));exact Kd.N_mono HO_5.out (fun _ hk=>⟨hk.2,hk.1⟩)) hg hat);have n1_:=Aside0.mk (Kd.V_afterv (ok:=(fun k_=>some k_≠(.slice (some ad731) t724.length co13:Value).ownBlock∧k_≠gb732)) (by (with_reducible repeat(first|apply Kd.V_alloc|apply Kd.V_drewN|apply Kd.V_drew));exact Kd.V_mono HL731_1.out (fun _ hk=>⟨⟨hk.1,hk.2.2⟩,hk.2.1⟩)) hg hat);have n2_:=Aside0.mk (blk_grown (bk_ BK732).out hg (Kd.N_away HO_9.out (fun _ hk=>hk.2)));have n3_:=Aside0.mk (hb);have n4_:=Aside0.mk (ho);clear HO_5;clear HL731_1;clear BK732;clear HB;clear HO_9;have HO_5:=n0_;have HL731_1:=n1_;have BK732:=n2_;have HB:=n3_;have HO735:=n4_;clear n0_ n1_ n2_ n3_ n4_;clear ho hb hg hat;obtain⟨hcz31_0,hcz31_1,hcz31_2,hfz31_0,hfz31_1,hfz31_2⟩:=bo3_ BK732)|((with_reducible refine gate_callee (f:=12) rfl ?_);refine goesL_ (some 59) rfl rfl Tryz.func12 (by kernel_rfl) rfl #[.agg #[.int .i64 ((rd_T39 t724 (ji18)).f0),.slice A731_1 ((rd_T39 t724 (ji18)).f1).length c731_1,.string ((rd_T39 t724 (ji18)).f2)]] rfl (by (try simp only[List.map_toArray,List.map_cons,List.map_nil]);first|done|(simp only[hji18];rfl)|rfl|(simp only[List.length_drop,List.length_take];rfl)|(have z_:∀s_:ByteArray,s_.size≤9223372036854775807→ -(s_.size:Int)=wrap64 (-(s_.size:Int)):=(fun s_ h_=>by unfold wrap64;omega);rw[← z_ _ (by omega)];rfl)|(simp only[ByteArray.size_append];rfl)) ?_;(with_reducible refine(rule_Rule_String.calls _ _ _ _ _ _ _ _ ?side1 ?side2 A24.out).mono ?_);(case side1=>repeat(first|exact((Kd.V_reads' (krV_ HL731_1)).2.2)|(with_reducible refine Kd.C_alloc ?_ _)|(with_reducible refine Kd.C_drewN ?_ _)|(with_reducible refine Kd.C_drew ?_)));(case side2=>exact HC731_1.out);rintro e w32 ⟨rfl,hb⟩;refine⟨_,rfl,?_⟩;replace HO_5:=Aside0.mk (Kd.N_below (krN_ HO_5) hb);replace HL731_1:=Aside0.mk (Kd.V_below (krV_ HL731_1) hb);replace HO735:=Aside0.mk (Kd.N_below (krN_ HO735) hb);replace BK732:=bb_ BK732 hb;replace HB:=Aside0.mk (below_step (bl_ HB).out hb);(try clear hb);(try clear hi)))
       go_roundg k1
       case measure=>have:=HK1.out;omega
       case rel=>exact⟨(y733),((x10_1++(⟨#[59]⟩:ByteArray))++t736),(wrap64 (x38_1+1)),eq_,eq_,H',⟨by have:=HK1.out;omega⟩,⟨by (with_reducible repeat(first|apply Kd.N_alloc|apply Kd.N_drewN|apply Kd.N_drew));exact Kd.N_mono HO_5.out (fun _ hk=>hk.2)⟩,⟨by (with_reducible repeat(first|apply Kd.N_alloc|apply Kd.N_drewN|apply Kd.N_drew));exact Kd.N_mono HO735.out (fun _ hk=>hk.1)⟩,(bl_ HB)⟩
      ·rw[if_neg c22] at H
       have c22b0:decide (0<x38_1)=false:=decide_eq_false c22
       clear c22
       replace H:=Option.bind_eq_some_iff.mp H
       obtain⟨t737,A330,H⟩:=H
       replace H:(if x10_1.size+t737.size≤9223372036854775807 then (florinlaw06_RuleOrders.l0 k1 t724 ji8 (wrap64 (Int.tmod (IntKind.u64.wrap (a1)) (IntKind.u64.wrap (ji8)))) y733 (x10_1++t737) (t724.length:Int) (wrap64 (x38_1+1))) else (none))=some r:=H
       have A33:=Aside0.mk A330
       clear A330
       replace H:=ifn_ H
       obtain⟨c34,H⟩:=H
       have c34b0:=eq_true c34
       have c34b1:decide (x10_1.size+t737.size≤9223372036854775807)=true:=decide_eq_true c34
       try have c34b2:=eq_false (Nat.not_lt.2 c34)
       have H':=Aside0.mk H
       clear H
       have p731:0≤((ji18):Int):=od_
       have q731:(ji18)<(t724.length:Int):=od_
       obtain⟨ad731,A731_1,c731_1,e731,hx731_0,hx731_1,hx731_2,hl731_1,hi731_1⟩:=at_T39 (Kd.N_reads' HO_5.out).2.2 (ji18) p731 q731
       cases e731
       obtain⟨ce731,hce731,hMe731,hcc731⟩:=Kd.N_get HO_5.out z39 (ji18) p731 (by first|exact q731|exact od_|(have e_:=(Kd.N_reads' HO_5.out).1;omega))
       obtain⟨ua731_1,uc731_1,rfl,ul731_1,ge731_1⟩:=k39_openF hMe731
       have hv731_1:=hcc731 1 _ rfl
       rw[add_field _ _ 1 (by omega)] at hv731_1
       replace hv731_1:=Option.some.inj (hv731_1.symm.trans hx731_1)
       injection hv731_1 with hva_ hvn_ hvc_
       rw[hva_] at ge731_1
       rw[hvc_] at ul731_1
       have HL731_1:=Aside0.mk (show Kd.V (Kd.slice 43 k43) 40 _ w.heap.size _ _ ((rd_T39 t724 (ji18)).f1) from Kd.V_mk ul731_1 ge731_1)
       clear hva_ hvn_ hvc_ ge731_1 ul731_1
       clear hcc731 hce731
       have HR731_1:=Aside0.mk hi731_1
       have HC731_1:=Aside0.mk hl731_1
       clear hi731_1 hl731_1
       replace p731:=eq_true p731
       replace q731:=eq_true q731
       go_wp2_with (first|((with_reducible refine gate_dst (N:=12) rfl ?_);refine be_ 12 #[.int .i64 0,.slice none 0 0,.string (⟨#[]⟩:ByteArray)] 39 ?_;intro gb732 hg w35 hbox hb;have BK732:=Aside0.mk (hbox);have GW732:=sz_ HB hg;have GE732:=sz_ HB hg;replace HO_5:=Aside0.mk (Kd.N_below (Kd.N_elderB (krN_ HO_5) gb732 (Nat.le_of_eq hg.symm)) hb);replace HO_9:=Aside0.mk (Kd.N_below (Kd.N_elderB (krN_ HO_9) gb732 (Nat.le_of_eq hg.symm)) hb);replace HL731_1:=Aside0.mk (Kd.V_below (Kd.V_elderB (krV_ HL731_1) gb732 (Nat.le_of_eq hg.symm)) hb);replace HR731_1:=Aside0.mk (Kd.C_below (by repeat(first|(with_reducible exact HR731_1.out)|(with_reducible refine Kd.C_alloc ?_ _)|(with_reducible refine Kd.C_drewN ?_ _)|(with_reducible refine Kd.C_drew ?_)|exact HR731_1.out)) hb);replace HB:=Aside0.mk (below_step (bl_ HB).out hb);clear hb hbox hg;obtain⟨hcz36_0,hcz36_1,hcz36_2,hfz36_0,hfz36_1,hfz36_2⟩:=bo3_ BK732)|((with_reducible refine gate_store (t:=39) (p:=12) rfl ?_);refine store_event (t:=39) (p:=12) (v:=?vo_w37) (w1:=(((w35.setCell ⟨gb732,0,none⟩ (.int .i64 ((rd_T39 t724 (ji18)).f0))).setCell ⟨gb732,1,none⟩ (.slice A731_1 ((rd_T39 t724 (ji18)).f1).length c731_1)).setCell ⟨gb732,2,none⟩ (.string ((rd_T39 t724 (ji18)).f2)))) ?hg ?ho ?hn ?hr ?_;(case ho=>rfl);(case hg=>rfl);(case hn=>rfl);(case hr=>first|(go_simp;done)|(go_simp;rfl));intro w37 hw;have n0_:Aside0 (Kd.N k39 39 w37 w.heap.size (fun k_=>some k_≠(u9:Value).ownBlock∧k_≠gb732) (.slice (some ad731) t724.length co13) t724):=⟨(by rw[hw];exact(by (with_reducible repeat(first|apply Kd.N_alloc|apply Kd.N_drewN|apply Kd.N_drew));exact Kd.N_mono (Kd.N_far (Kd.N_far (Kd.N_far (Kd.N_mono HO_5.out (fun k_ hk=>(⟨hk,hk.2⟩:_∧k_≠gb732))) (fun _ hk=>hk.2) _) (fun _ hk=>hk.2) _) (fun _ hk=>hk.2) _) (fun _ hk=>⟨hk.1.1,hk.1.2⟩)))⟩;have n1_:Aside0 (Kd.N k39 39 w37 w.heap.size (fun k_=>some k_≠(.slice (some ad731) t724.length co13:Value).ownBlock∧k_≠gb732) u9 x9_1):=⟨(by rw[hw];exact(by (with_reducible repeat(first|apply Kd.N_alloc|apply Kd.N_drewN|apply Kd.N_drew));exact Kd.N_mono (Kd.N_far (Kd.N_far (Kd.N_far (Kd.N_mono HO_9.out (fun k_ hk=>(⟨hk,hk.2⟩:_∧k_≠gb732))) (fun _ hk=>hk.2) _) (fun _ hk=>hk.2) _) (fun _ hk=>hk.2) _) (fun _ hk=>⟨hk.1.1,hk.1.2⟩)))⟩;have n2_:Aside0 (Kd.V (Kd.slice 43 k43) 40 w37 w.heap.size (fun k_=>some k_≠(.slice (some ad731) t724.length co13:Value).ownBlock∧some k_≠(u9:Value).ownBlock∧k_≠gb732) (.slice A731_1 ((rd_T39 t724 (ji18)).f1).length c731_1) ((rd_T39 t724 (ji18)).f1)):=⟨(by rw[hw];exact(by (with_reducible repeat(first|apply Kd.V_alloc|apply Kd.V_drewN|apply Kd.V_drew));exact Kd.V_mono (Kd.V_far (Kd.V_far (Kd.V_far (Kd.V_mono HL731_1.out (fun k_ hk=>(⟨hk,hk.2⟩:_∧k_≠gb732))) (fun _ hk=>hk.2) _) (fun _ hk=>hk.2) _) (fun _ hk=>hk.2) _) (fun _ hk=>⟨hk.1.1.2,⟨hk.1.1.1,hk.1.2⟩⟩)))⟩;have n3_:Aside0 (w37.heap[gb732]? = some (.cells #[.int .i64 ((rd_T39 t724 (ji18)).f0),.slice A731_1 ((rd_T39 t724 (ji18)).f1).length c731_1,.string ((rd_T39 t724 (ji18)).f2)] 39 (0,0))):=⟨(by rw[hw];exact(by (with_reducible repeat(first|refine blk_drewN ?_ _|refine blk_drew ?_|refine blk_alloc ?_ _));refine blk_put (cs:= #[.int .i64 ((rd_T39 t724 (ji18)).f0),.slice A731_1 ((rd_T39 t724 (ji18)).f1).length c731_1,.string (⟨#[]⟩:ByteArray)]) ?_ 2 _ rfl;(with_reducible repeat(first|refine blk_drewN ?_ _|refine blk_drew ?_|refine blk_alloc ?_ _));refine blk_put (cs:= #[.int .i64 ((rd_T39 t724 (ji18)).f0),.slice none 0 0,.string (⟨#[]⟩:ByteArray)]) ?_ 1 _ rfl;(with_reducible repeat(first|refine blk_drewN ?_ _|refine blk_drew ?_|refine blk_alloc ?_ _));refine blk_put (cs:= #[.int .i64 0,.slice none 0 0,.string (⟨#[]⟩:ByteArray)]) ?_ 0 _ rfl;(with_reducible repeat(first|refine blk_drewN ?_ _|refine blk_drew ?_|refine blk_alloc ?_ _));exact BK732.out))⟩;have n4_:Aside0 (Below w.heap.size w w37):=⟨(by rw[hw];exact(bl_ HB).out)⟩;clear hw;clear HO_5;clear HO_9;clear HL731_1;clear BK732;clear HB;have HO_5:=n0_;have HO_9:=n1_;have HL731_1:=n2_;have BK732:=n3_;have HB:=n4_;clear n0_ n1_ n2_ n3_ n4_;obtain⟨hcz38_0,hcz38_1,hcz38_2,hfz38_0,hfz38_1,hfz38_2⟩:=bo3_ BK732)|((with_reducible refine gate_builtin (b:= .append) (xs:= #[.tmp 49,.tmp 51]) rfl ?_);at_builtin;refine Kd.N_append k39 (w0:=w) w.heap.size rfl (.tmp 49) (.tmp 51) 26 39 (.agg #[(.int .i64 0),(.slice none 0 0),(.string ⟨#[]⟩)]) 48 rfl Tryz.underlying26 info39 rfl (by decide) (by omega) u9 x9_1 (⟨(rd_T39 t724 (ji18)).f0,(rd_T39 t724 (ji18)).f1,(rd_T39 t724 (ji18)).f2⟩:S39) [.int .i64 ((rd_T39 t724 (ji18)).f0),.slice A731_1 ((rd_T39 t724 (ji18)).f1).length c731_1,.string ((rd_T39 t724 (ji18)).f2)] (fun k_=>some k_≠(.slice (some ad731) t724.length co13:Value).ownBlock∧k_≠gb732) (fun k_=>((fun k_=>some k_≠(.slice (some ad731) t724.length co13:Value).ownBlock∧k_≠gb732)) k_∧some k_≠(u9:Value).ownBlock) rfl rfl ?aP (fun _ hk=>hk) ?aF ?aO ?aB ?aS ?aL ?_;(case aP=>exact(k39_mkF _ _ (⟨(rd_T39 t724 (ji18)).f0,(rd_T39 t724 (ji18)).f1,(rd_T39 t724 (ji18)).f2⟩:S39) (Kd.V_reads' (Kd.V_mono (ok':=(fun k_=>((fun k_=>some k_≠(.slice (some ad731) t724.length co13:Value).ownBlock∧k_≠gb732)) k_∧some k_≠(u9:Value).ownBlock)) (HL731_1.out) (fun k_ hk=>⟨⟨hk.1,hk.2.2⟩,hk.2.1⟩))).2.1 (Kd.V_F (Kd.V_mono (ok':=(fun k_=>((fun k_=>some k_≠(.slice (some ad731) t724.length co13:Value).ownBlock∧k_≠gb732)) k_∧some k_≠(u9:Value).ownBlock)) (HL731_1.out) (fun k_ hk=>⟨⟨hk.1,hk.2.2⟩,hk.2.1⟩)))));(case aB=>exact(bl_ HB).out);(case aF=>exact(fun k_ hk=>⟨Kd.fresh' (Kd.N_lt (krN_ HO_5)) k_ hk,Kd.freshB (bk_ BK732).out k_ hk⟩));(case aO=>exact(krN_ HO_9));(case aS=>exact(below_size (bl_ HB).out));(case aL=>have:=LMc21.out;omega);intro v734 w39 ho hb hg hat;rw[← Ny733.out] at ho;have n0_:=Aside0.mk (Kd.N_afterv (ok:=(fun k_=>k_≠gb732)) (by (with_reducible repeat(first|apply Kd.N_alloc|apply Kd.N_drewN|apply Kd.N_drew));exact Kd.N_mono HO_5.out (fun _ hk=>⟨hk.2,hk.1⟩)) hg hat);have n1_:=Aside0.mk (Kd.V_afterv (ok:=(fun k_=>some k_≠(.slice (some ad731) t724.length co13:Value).ownBlock∧k_≠gb732)) (by (with_reducible repeat(first|apply Kd.V_alloc|apply Kd.V_drewN|apply Kd.V_drew));exact Kd.V_mono HL731_1.out (fun _ hk=>⟨⟨hk.1,hk.2.2⟩,hk.2.1⟩)) hg hat);have n2_:=Aside0.mk (blk_grown (bk_ BK732).out hg (Kd.N_away HO_9.out (fun _ hk=>hk.2)));have n3_:=Aside0.mk (hb);have n4_:=Aside0.mk (ho);clear HO_5;clear HL731_1;clear BK732;clear HB;clear HO_9;have HO_5:=n0_;have HL731_1:=n1_;have BK732:=n2_;have HB:=n3_;have HO735:=n4_;clear n0_ n1_ n2_ n3_ n4_;clear ho hb hg hat;obtain⟨hcz40_0,hcz40_1,hcz40_2,hfz40_0,hfz40_1,hfz40_2⟩:=bo3_ BK732)|((with_reducible refine gate_callee (f:=12) rfl ?_);refine goesL_ (some 59) rfl rfl Tryz.func12 (by kernel_rfl) rfl #[.agg #[.int .i64 ((rd_T39 t724 (ji18)).f0),.slice A731_1 ((rd_T39 t724 (ji18)).f1).length c731_1,.string ((rd_T39 t724 (ji18)).f2)]] rfl (by (try simp only[List.map_toArray,List.map_cons,List.map_nil]);first|done|(simp only[hji18];rfl)|rfl|(simp only[List.length_drop,List.length_take];rfl)|(have z_:∀s_:ByteArray,s_.size≤9223372036854775807→ -(s_.size:Int)=wrap64 (-(s_.size:Int)):=(fun s_ h_=>by unfold wrap64;omega);rw[← z_ _ (by omega)];rfl)|(simp only[ByteArray.size_append];rfl)) ?_;(with_reducible refine(rule_Rule_String.calls _ _ _ _ _ _ _ _ ?side1 ?side2 A33.out).mono ?_);(case side1=>repeat(first|exact((Kd.V_reads' (krV_ HL731_1)).2.2)|(with_reducible refine Kd.C_alloc ?_ _)|(with_reducible refine Kd.C_drewN ?_ _)|(with_reducible refine Kd.C_drew ?_)));(case side2=>exact HC731_1.out);rintro e w41 ⟨rfl,hb⟩;refine⟨_,rfl,?_⟩;replace HO_5:=Aside0.mk (Kd.N_below (krN_ HO_5) hb);replace HL731_1:=Aside0.mk (Kd.V_below (krV_ HL731_1) hb);replace HO735:=Aside0.mk (Kd.N_below (krN_ HO735) hb);replace BK732:=bb_ BK732 hb;replace HB:=Aside0.mk (below_step (bl_ HB).out hb);(try clear hb);(try clear hi)))
       go_roundg k1
       case measure=>have:=HK1.out;omega
       case rel=>exact⟨(y733),(x10_1++t737),(wrap64 (x38_1+1)),eq_,eq_,H',⟨by have:=HK1.out;omega⟩,⟨by (with_reducible repeat(first|apply Kd.N_alloc|apply Kd.N_drewN|apply Kd.N_drew));exact Kd.N_mono HO_5.out (fun _ hk=>hk.2)⟩,⟨by (with_reducible repeat(first|apply Kd.N_alloc|apply Kd.N_drewN|apply Kd.N_drew));exact Kd.N_mono HO735.out (fun _ hk=>hk.1)⟩,(bl_ HB)⟩
     ·rw[if_neg c16] at H
      have c16b0:=decide_eq_false c16
      clear c16
      by_cases c42:(x10_1.size:Int)>4000
      ·rw[if_pos c42] at H
       have c42b0:decide (4000<(x10_1.size:Int))=true:=decide_eq_true c42
       have c42b1:decide (4000<x10_1.size)=true:=decide_eq_true (by omega)
       clear c42
       obtain rfl:=Option.some.inj H
       go_wp2
       go_ret
       exact⟨by first|rfl|(simp[errW_none,errW_some] <;> rfl)|(simp only[← hji8];first|rfl|(simp[errW_none,errW_some] <;> rfl))|(simp[*,errW_none,errW_some] <;> first|rfl|exact given_isEmpty _|exact(given_isEmpty _).symm),by repeat(first|(with_reducible first|exact HB.out|apply below_alloc|apply pw_below_drewN|apply below_drew1)|exact HB.out)⟩
      ·rw[if_neg c42] at H
       have c42b0:decide (4000<(x10_1.size:Int))=false:=decide_eq_false c42
       have c42b1:decide (4000<x10_1.size)=false:=decide_eq_false (by omega)
       clear c42
       replace H:=Option.bind_eq_some_iff.mp H
       obtain⟨⟨t738,t741,t742⟩,A430,H⟩:=H
       dsimp only at H
       have A43:=Aside0.mk A430
       clear A430
       replace H:=ifn_ H
       obtain⟨c44,H⟩:=H
       have c44b0:(t741==0)=true:=beq_iff_eq.mpr c44
       have c44b1:(t741 !=0)=false:=bne_eq_false_iff_eq.mpr c44
       clear c44
       replace H:=Option.bind_eq_some_iff.mp H
       obtain⟨t743,A450,H⟩:=H
       replace H:(some t743)=some r:=H
       have A45:=Aside0.mk A450
       clear A450
       obtain rfl:=Option.some.inj H
       go_wp2_with (first|((with_reducible refine gate_callee (f:=9) rfl ?_);refine gl_ (some 67) Tryz.func9 #[.string x10_1] ?_;(with_reducible refine(rule_Parse.calls _ _ _ _ _ _ A43.out).mono ?_);rintro e w46 ⟨v739,rfl,ho0,hb⟩;refine⟨_,rfl,?_⟩;have HO740:=Aside0.mk (Kd.N_lower (Kd.N_mono (ok':=fun k_=>some k_≠(.slice Ao13 t724.length co13:Value).ownBlock∧some k_≠(u9:Value).ownBlock) ho0 (fun k_ hk_=>⟨(Kd.fresh' (Kd.N_lt (krN_ HO_5)) k_ hk_),(Kd.fresh' (Kd.N_lt (krN_ HO_9)) k_ hk_)⟩)) (below_size (bl_ HB).out));replace HO_5:=Aside0.mk (Kd.N_elder' (krN_ HO_5) (Kd.N_base ho0) hb);replace HO_9:=Aside0.mk (Kd.N_elder' (krN_ HO_9) (Kd.N_base ho0) hb);replace HB:=Aside0.mk (below_step (bl_ HB).out hb);(try clear hb);(try clear ho0);obtain⟨Ao47,co47,eo47⟩:=Kd.N_slice HO740.out;subst eo47;obtain⟨Ao48,co48,eo48⟩:=Kd.N_slice HO_9.out;subst eo48)|(go_at_call 10;(with_reducible refine(florinlaw06_Same.calls _ _ _ _ _ _ _ _ _ ?side1 ?side2 ?side3 ?side4 A45.out).mono ?_);(case side1=>repeat(first|exact(Kd.N_reads' HO740.out).2.2|(with_reducible refine Kd.C_alloc ?_ _)|(with_reducible refine Kd.C_drewN ?_ _)|(with_reducible refine Kd.C_drew ?_)));(case side2=>exact(Kd.N_reads' HO740.out).2.1);(case side3=>repeat(first|exact(Kd.N_reads' HO_9.out).2.2|(with_reducible refine Kd.C_alloc ?_ _)|(with_reducible refine Kd.C_drewN ?_ _)|(with_reducible refine Kd.C_drew ?_)));(case side4=>exact(Kd.N_reads' HO_9.out).2.1);rintro e w49 ⟨rfl,hb⟩;replace HO_5:=Aside0.mk (Kd.N_below (krN_ HO_5) hb);replace HO_9:=Aside0.mk (Kd.N_below (krN_ HO_9) hb);replace HO740:=Aside0.mk (Kd.N_below (krN_ HO740) hb);replace HB:=Aside0.mk (below_step (bl_ HB).out hb);(try clear hb);(try clear hi)))
       go_ret
       exact⟨by first|rfl|(simp[errW_none,errW_some] <;> rfl)|(simp only[← hji8];first|rfl|(simp[errW_none,errW_some] <;> rfl))|(simp[*,errW_none,errW_some] <;> first|rfl|exact given_isEmpty _|exact(given_isEmpty _).symm),by repeat(first|(with_reducible first|exact HB.out|apply below_alloc|apply pw_below_drewN|apply below_drew1)|exact HB.out)⟩
  ·replace c6:=Bool.eq_false_iff.mpr c6
   subst c6
   have H1:(some true)=some r:=by rw[if_neg (show ¬(false=true) by decide)] at H;exact H
   clear H
   have H:=H1
   clear H1
   obtain rfl:=Option.some.inj H
   go_enter Tryz.func5,Tryz.ntmps5
   go_wp2_with (first|((with_reducible refine gate_callee (f:=6) rfl ?_);refine gl_ (some 16) Tryz.func6 #[] ?_;(with_reducible refine(florinlaw06_head.calls _ _ _ A3.out).mono ?_);rintro e w50 ⟨rfl,hb⟩;refine⟨_,rfl,?_⟩;replace HB:=Aside0.mk (below_step (bl_ HB).out hb);(try clear hb);(try clear hi))|((with_reducible refine gate_callee (f:=7) rfl ?_);refine gl_ (some 19) Tryz.func7 #[.slice A0 l0.length c0] ?_;(with_reducible refine(florinlaw06_Few.calls _ _ _ _ _ _ ?side1 ?side2 A5.out).mono ?_);(case side1=>repeat(first|exact(Kd.C_below HR0.out HB.out)|(with_reducible refine Kd.C_alloc ?_ _)|(with_reducible refine Kd.C_drewN ?_ _)|(with_reducible refine Kd.C_drew ?_)));(case side2=>exact HC0.out);rintro e w51 ⟨rfl,hb⟩;refine⟨_,rfl,?_⟩;replace HB:=Aside0.mk (below_step (bl_ HB).out hb);(try clear hb);(try clear hi)))
   go_ret
   exact⟨ew_,(bl_ HB).out⟩
 ·replace c4:=Bool.eq_false_iff.mpr c4
  subst c4
  have H1:(none)=some r:=by rw[if_neg (show ¬(false=true) by decide)] at H;exact H
  clear H
  have H:=H1
  clear H1
  exact absurd H (by simp)

end Go.Proofs.YtcokjmnkieakiaaGreatDoor.P
