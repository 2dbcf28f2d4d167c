-- written by a program of this session (wip/p2)
import Derived.Test.YtcokjmnkieakiaaDoorPx0
import Derived.Test.YtcokjmnkieakiaaDoorPx7
import Derived.Test.YtcokjmnkieakiaaDoorPx8
namespace Go.Proofs.YtcokjmnkieakiaaDoor.P
open Go.RowKit Go.Proofs.YtcokjmnkieakiaaDoorW.PrintWords Go.Proofs.YtcokjmnkieakiaaDoorW.PrintLast Go.Proofs.YtcokjmnkieakiaaDoorW.PrintMore
attribute [local go_sem] max2_int min2_int max_two min_two max_three min_three max_four min_four   -- for this text's walks alone
set_option linter.unusedVariables false
set_option linter.unusedSimpArgs false

/-! ### florinlaw06_RuleMany: function 5 -/
mutual
def florinlaw06_RuleMany.l0:Nat→Int→Int→ByteArray→Int→Option (Bool)
 | 0,_,_,_,_=>none
 | k+1,x0,x1,x5,x6=>if x6<x0 then (if x5.size+7≤9223372036854775807 then (florinlaw06_RuleMany.l0 k x0 x1 (x5++(⟨#[32,111,114,32,110,61,49]⟩:ByteArray)) (wrap64 (x6+1))) else (none)) else ((rule_Parse.f k x5).bind fun bt938=>(if x0≤200 then (if bt938.2.1=0 then (if (bt938.1.length:Int)=1 then (if 0<(bt938.1.length:Int) then (if (((rd_T32 bt938.1 0).f1).length:Int)=x0 then (if x0>200 then (if bt938.2.1=4 then (florinlaw06_RuleMany.j1 k x1 (bt938.2.2 !=1405)) else (none)) else (florinlaw06_RuleMany.j1 k x1 false)) else (none)) else (none)) else (none)) else (none)) else (if x0>200 then (if bt938.2.1=4 then (florinlaw06_RuleMany.j1 k x1 (bt938.2.2 !=1405)) else (none)) else (florinlaw06_RuleMany.j1 k x1 false))))
def florinlaw06_RuleMany.j1:Nat→Int→Bool→Option (Bool)
 | 0,_,_=>none
 | k+1,x1,x64=>if x64=true then (none) else (if 0≤(wrap64 (3996+(Go.bits .and .i64 x1 7))) then (if (wrap64 (3996+(Go.bits .and .i64 x1 7)):Int).toNat≤281474976710656 then ((some (List.replicate (wrap64 (3996+(Go.bits .and .i64 x1 7)):Int).toNat 0:List Int)).bind fun y944=>(florinlaw06_RuleMany.l1 k (wrap64 (3996+(Go.bits .and .i64 x1 7))) y944 (y944.length:Int) 0)) else (none)) else (none))
def florinlaw06_RuleMany.l1:Nat→Int→List Int→Int→Int→Option (Bool)
 | 0,_,_,_,_=>none
 | k+1,x1,x10,x71,x72=>if x72<x71 then (if 0≤x72 then (if x72<(x10.length:Int) then (florinlaw06_RuleMany.l1 k x1 (x10.set (x72:Int).toNat 32) x71 (wrap64 (x72+1))) else (none)) else (none)) else ((rule_Parse.f k (strOfNums x10)).bind fun bt948=>(if (bt948.1.length:Int)=0 then (if bt948.2.2=0 then (if x1≤4000 then (if bt948.2.1=0 then (some true) else (if x1>4000 then (some (bt948.2.1==4)) else (none))) else (if x1>4000 then (some (bt948.2.1==4)) else (none))) else (none)) else (none)))
end
def florinlaw06_RuleMany.f (k:Nat) (a0:Int) (a1:Int):Option (Bool):=(florinlaw06_head.f k).bind fun t937=>(if t937=true then (florinlaw06_RuleMany.l0 k (wrap64 (197+(Go.bits .and .i64 a0 7))) a1 (⟨#[111,110,101,58,32,110,61,49]⟩:ByteArray) 1) else (none))
set_option maxHeartbeats 64000000 in
set_option maxRecDepth 100000 in
theorem florinlaw06_RuleMany.calls (k:Nat) (a0:Int) (a1:Int) (r:Bool) (w:World) (h:florinlaw06_RuleMany.f k a0 a1=some r) (ht:Lib.TabIs Tryd.prog w "internal/strconv.uint64pow10" .u64 Lib.pow10Tab:=by first|assumption|exact tb_ (by assumption) (bl_ (by assumption)).out) :
  Calls Tryd.prog 5 #[.int .i64 a0,.int .i64 a1] w fun e w'=>e= .returned (.bool r)∧Below w.heap.size w w':=by
 have HB:=Aside0.mk (Below.refl w.heap.size w)
 have H:((florinlaw06_head.f k).bind fun t937=>(if t937=true then (florinlaw06_RuleMany.l0 k (wrap64 (197+(Go.bits .and .i64 a0 7))) a1 (⟨#[111,110,101,58,32,110,61,49]⟩:ByteArray) 1) else (none)))=some r:=h
 clear h
 replace H:=Option.bind_eq_some_iff.mp H
 obtain⟨t937,A30,H⟩:=H
 have A3:=Aside0.mk A30
 clear A30
 by_cases c4:t937=true
 ·subst c4
  have H1:(florinlaw06_RuleMany.l0 k (wrap64 (197+(Go.bits .and .i64 a0 7))) a1 (⟨#[111,110,101,58,32,110,61,49]⟩:ByteArray) 1)=some r:=by rw[if_pos rfl] at H;exact H
  clear H
  have H:=H1
  clear H1
  have H':=Aside0.mk H
  clear H
  go_enter Tryd.func5,Tryd.ntmps5
  go_wp2_with (first|((with_reducible refine gate_callee (f:=7) rfl ?_);refine gl_ (some 15) Tryd.func7 #[] ?_;(with_reducible refine(florinlaw06_head.calls _ _ _ A3.out).mono ?_);rintro e w5 ⟨rfl,hb⟩;refine⟨_,rfl,?_⟩;replace HB:=Aside0.mk (below_step (bl_ HB).out hb);(try clear hb);(try clear hi)))
  go_loopg [5,6] k (fun kq v5 v6 w'=>∃(x5_1:ByteArray) (x6_1:Int),v5= .string x5_1∧v6= .int .i64 x6_1∧Aside0 (florinlaw06_RuleMany.l0 kq (wrap64 (197+(Go.bits .and .i64 a0 7))) a1 x5_1 x6_1=some r)∧Aside0 (kq≤k)∧Aside0 (Below w.heap.size w w'))
  case atStart=>exact⟨((⟨#[111,110,101,58,32,110,61,49]⟩:ByteArray)),(1),eq_,eq_,H',⟨Nat.le_refl _⟩,(bl_ HB)⟩
  case round =>
   clear H'
   obtain⟨x5_1,x6_1,rfl,rfl,HA,HK1,HB⟩:=hrel
   cases gk with
   | zero=>exact absurd HA.out (by simp[florinlaw06_RuleMany.l0])
   | succ k1 =>
    have H:=HA.out
    clear HA
    simp only[florinlaw06_RuleMany.l0] at H
    by_cases c6:x6_1<(wrap64 (197+(Go.bits .and .i64 a0 7)))
    ·rw[if_pos c6] at H
     have c6b0:=decide_eq_true c6
     clear c6
     replace H:=ifn_ H
     obtain⟨c7,H⟩:=H
     have c7b0:=eq_true c7
     have c7b1:decide (x5_1.size+7≤9223372036854775807)=true:=decide_eq_true c7
     try have c7b2:=eq_false (Nat.not_lt.2 c7)
     have H':=Aside0.mk H
     clear H
     go_wp2
     go_roundg k1
     case measure=>have:=HK1.out;omega
     case rel=>exact⟨(x5_1++(⟨#[32,111,114,32,110,61,49]⟩:ByteArray)),(wrap64 (x6_1+1)),eq_,eq_,H',⟨by have:=HK1.out;omega⟩,(bl_ HB)⟩
    ·rw[if_neg c6] at H
     have c6b0:=decide_eq_false c6
     clear c6
     replace H:=Option.bind_eq_some_iff.mp H
     obtain⟨⟨t938,t941,t942⟩,A80,H⟩:=H
     dsimp only at H
     have A8:=Aside0.mk A80
     clear A80
     have HC9:=Aside0.mk H
     clear H
     go_upto_region 10 with (first|((with_reducible refine gate_callee (f:=8) rfl ?_);refine gl_ (some 29) Tryd.func8 #[.string x5_1] ?_;(with_reducible refine(rule_Parse.calls _ _ _ _ _ _ A8.out).mono ?_);rintro e w10 ⟨v939,rfl,ho0,hb⟩;refine⟨_,rfl,?_⟩;have HO940:=Aside0.mk (Kd.N_lower (Kd.N_mono (ok':=fun k_=>True) ho0 (fun k_ hk_=>trivial)) (below_size (bl_ HB).out));replace HB:=Aside0.mk (below_step (bl_ HB).out hb);(try clear hb);(try clear ho0)))
     (try simp only[Act.put,List.setIfInBounds_toArray,List.set_cons_zero,List.set_cons_succ])
     go_cut [64] (fun v64 wc=>∃(kq:Nat) (x64_8:Bool),v64= .bool x64_8∧Aside0 (florinlaw06_RuleMany.j1 kq a1 x64_8=some r)∧Aside0 (kq≤k1)∧Aside0 (Below w.heap.size w wc))
     case first =>
      have H:=HC9.out
      clear HC9
      by_cases c11:(wrap64 (197+(Go.bits .and .i64 a0 7)))≤200
      ·rw[if_pos c11] at H
       have c11b0:=decide_eq_true c11
       clear c11
       (first|rw[c11b0]|(simp only[i64_w,i32_w];rw[c11b0])|skip)
       replace H:=ifn_ H
       obtain⟨c12,H⟩:=H
       have c12b0:(t941==0)=true:=beq_iff_eq.mpr c12
       have c12b1:(t941 !=0)=false:=bne_eq_false_iff_eq.mpr c12
       clear c12
       replace H:=ifn_ H
       obtain⟨c13,H⟩:=H
       have c13b0:((t938.length:Int)==1)=true:=beq_iff_eq.mpr c13
       have c13b1:((t938.length:Int) !=1)=false:=bne_eq_false_iff_eq.mpr c13
       clear c13
       replace H:=ifn_ H
       obtain⟨c14,H⟩:=H
       have c14b0:decide (0<(t938.length:Int))=true:=decide_eq_true c14
       have c14b1:decide (0<t938.length)=true:=decide_eq_true (by omega)
       clear c14
       replace H:=ifn_ H
       obtain⟨c15,H⟩:=H
       have c15b0:((((rd_T32 t938 0).f1).length:Int)==(wrap64 (197+(Go.bits .and .i64 a0 7))))=true:=beq_iff_eq.mpr c15
       have c15b1:((((rd_T32 t938 0).f1).length:Int) !=(wrap64 (197+(Go.bits .and .i64 a0 7))))=false:=bne_eq_false_iff_eq.mpr c15
       clear c15
       by_cases c16:(wrap64 (197+(Go.bits .and .i64 a0 7)))>200
       ·rw[if_pos c16] at H
        have c16b0:decide (200<(wrap64 (197+(Go.bits .and .i64 a0 7))))=true:=decide_eq_true c16
        clear c16
        replace H:=ifn_ H
        obtain⟨c17,H⟩:=H
        have c17b0:(t941==4)=true:=beq_iff_eq.mpr c17
        have c17b1:(t941 !=4)=false:=bne_eq_false_iff_eq.mpr c17
        clear c17
        have H':=Aside0.mk H
        clear H
        obtain⟨Ao18,co18,eo18⟩:=Kd.N_slice HO940.out
        subst eo18
        have p943:0≤(0:Int):=(by omega)
        have q943:0<(t938.length:Int):=od_
        obtain⟨ad943,A943_1,c943_1,e943,hx943_0,hx943_1,hx943_2,hl943_1,hi943_1⟩:=at_T32 (Kd.N_reads' HO940.out).2.2 0 p943 q943
        cases e943
        obtain⟨ce943,hce943,hMe943,hcc943⟩:=Kd.N_get HO940.out z32 0 p943 (by first|exact q943|exact od_|(have e_:=(Kd.N_reads' HO940.out).1;omega))
        obtain⟨ua943_1,uc943_1,rfl,ul943_1,ge943_1⟩:=k32_openF hMe943
        have hv943_1:=hcc943 1 _ rfl
        rw[add_field _ _ 1 (by omega)] at hv943_1
        replace hv943_1:=Option.some.inj (hv943_1.symm.trans hx943_1)
        injection hv943_1 with hva_ hvn_ hvc_
        rw[hva_] at ge943_1
        rw[hvc_] at ul943_1
        have HL943_1:=Aside0.mk (show Kd.V (Kd.slice 36 k36) 33 _ w.heap.size _ _ ((rd_T32 t938 0).f1) from Kd.V_mk ul943_1 ge943_1)
        clear hva_ hvn_ hvc_ ge943_1 ul943_1
        clear hcc943 hce943
        have qi943:(0<t938.length)=True:=eq_true (by omega)
        (try rw[show((0:Int)).toNat=0 from rfl] at hx943_0)
        (try rw[show 0*3=0 from rfl] at hx943_0)
        (try rw[Addr.add_zero'] at hx943_0)
        (try rw[show((0:Int)).toNat=0 from rfl] at hx943_1)
        (try rw[show 0*3=0 from rfl] at hx943_1)
        (try rw[Addr.add_zero'] at hx943_1)
        (try rw[show((0:Int)).toNat=0 from rfl] at hx943_2)
        (try rw[show 0*3=0 from rfl] at hx943_2)
        (try rw[Addr.add_zero'] at hx943_2)
        have HR943_1:=Aside0.mk hi943_1
        have HC943_1:=Aside0.mk hl943_1
        clear hi943_1 hl943_1
        replace p943:=eq_true p943
        replace q943:=eq_true q943
        go_wp2
        go_meet
        case rel=>exact⟨_,((t942 !=1405)),eq_,H',⟨by have:=HK1.out;first|omega|exact Nat.le_refl _⟩,(bl_ HB)⟩
       ·rw[if_neg c16] at H
        have c16b0:decide (200<(wrap64 (197+(Go.bits .and .i64 a0 7))))=false:=decide_eq_false c16
        clear c16
        have H':=Aside0.mk H
        clear H
        obtain⟨Ao19,co19,eo19⟩:=Kd.N_slice HO940.out
        subst eo19
        have p943:0≤(0:Int):=(by omega)
        have q943:0<(t938.length:Int):=od_
        obtain⟨ad943,A943_1,c943_1,e943,hx943_0,hx943_1,hx943_2,hl943_1,hi943_1⟩:=at_T32 (Kd.N_reads' HO940.out).2.2 0 p943 q943
        cases e943
        obtain⟨ce943,hce943,hMe943,hcc943⟩:=Kd.N_get HO940.out z32 0 p943 (by first|exact q943|exact od_|(have e_:=(Kd.N_reads' HO940.out).1;omega))
        obtain⟨ua943_1,uc943_1,rfl,ul943_1,ge943_1⟩:=k32_openF hMe943
        have hv943_1:=hcc943 1 _ rfl
        rw[add_field _ _ 1 (by omega)] at hv943_1
        replace hv943_1:=Option.some.inj (hv943_1.symm.trans hx943_1)
        injection hv943_1 with hva_ hvn_ hvc_
        rw[hva_] at ge943_1
        rw[hvc_] at ul943_1
        have HL943_1:=Aside0.mk (show Kd.V (Kd.slice 36 k36) 33 _ w.heap.size _ _ ((rd_T32 t938 0).f1) from Kd.V_mk ul943_1 ge943_1)
        clear hva_ hvn_ hvc_ ge943_1 ul943_1
        clear hcc943 hce943
        have qi943:(0<t938.length)=True:=eq_true (by omega)
        (try rw[show((0:Int)).toNat=0 from rfl] at hx943_0)
        (try rw[show 0*3=0 from rfl] at hx943_0)
        (try rw[Addr.add_zero'] at hx943_0)
        (try rw[show((0:Int)).toNat=0 from rfl] at hx943_1)
        (try rw[show 0*3=0 from rfl] at hx943_1)
        (try rw[Addr.add_zero'] at hx943_1)
        (try rw[show((0:Int)).toNat=0 from rfl] at hx943_2)
        (try rw[show 0*3=0 from rfl] at hx943_2)
        (try rw[Addr.add_zero'] at hx943_2)
        have HR943_1:=Aside0.mk hi943_1
        have HC943_1:=Aside0.mk hl943_1
        clear hi943_1 hl943_1
        replace p943:=eq_true p943
        replace q943:=eq_true q943
        go_wp2
        go_meet
        case rel=>exact⟨_,(false),eq_,H',⟨by have:=HK1.out;first|omega|exact Nat.le_refl _⟩,(bl_ HB)⟩
      ·rw[if_neg c11] at H
       have c11b0:=decide_eq_false c11
       clear c11
       (first|rw[c11b0]|(simp only[i64_w,i32_w];rw[c11b0])|skip)
       by_cases c20:(wrap64 (197+(Go.bits .and .i64 a0 7)))>200
       ·rw[if_pos c20] at H
        have c20b0:decide (200<(wrap64 (197+(Go.bits .and .i64 a0 7))))=true:=decide_eq_true c20
        clear c20
        replace H:=ifn_ H
        obtain⟨c21,H⟩:=H
        have c21b0:(t941==4)=true:=beq_iff_eq.mpr c21
        have c21b1:(t941 !=4)=false:=bne_eq_false_iff_eq.mpr c21
        clear c21
        have H':=Aside0.mk H
        clear H
        go_wp2
        go_meet
        case rel=>exact⟨_,((t942 !=1405)),eq_,H',⟨by have:=HK1.out;first|omega|exact Nat.le_refl _⟩,(bl_ HB)⟩
       ·rw[if_neg c20] at H
        have c20b0:decide (200<(wrap64 (197+(Go.bits .and .i64 a0 7))))=false:=decide_eq_false c20
        clear c20
        have H':=Aside0.mk H
        clear H
        go_wp2
        go_meet
        case rel=>exact⟨_,(false),eq_,H',⟨by have:=HK1.out;first|omega|exact Nat.le_refl _⟩,(bl_ HB)⟩
     case rest =>
      clear HC9
      obtain⟨kq,x64_8,rfl,HA,HJ8,HB⟩:=hcut
      cases kq with
      | zero=>exact absurd HA.out (by simp[florinlaw06_RuleMany.j1])
      | succ kj8 =>
       have H:=HA.out
       clear HA
       simp only[florinlaw06_RuleMany.j1] at H
       by_cases c22:x64_8=true
       ·subst c22
        have H1:(none)=some r:=by rw[if_pos rfl] at H;exact H
        clear H
        have H:=H1
        clear H1
        exact absurd H (by simp)
       ·replace c22:=Bool.eq_false_iff.mpr c22
        subst c22
        have H1:(if 0≤(wrap64 (3996+(Go.bits .and .i64 a1 7))) then (if (wrap64 (3996+(Go.bits .and .i64 a1 7)):Int).toNat≤281474976710656 then ((some (List.replicate (wrap64 (3996+(Go.bits .and .i64 a1 7)):Int).toNat 0:List Int)).bind fun y944=>(florinlaw06_RuleMany.l1 kj8 (wrap64 (3996+(Go.bits .and .i64 a1 7))) y944 (y944.length:Int) 0)) else (none)) else (none))=some r:=by rw[if_neg (show ¬(false=true) by decide)] at H;exact H
        clear H
        have H:=H1
        clear H1
        obtain⟨ji23,hji23⟩:∃j_:Int,(wrap64 (3996+(Go.bits .and .i64 a1 7)))=j_:=⟨_,rfl⟩
        replace H:(if 0≤(ji23) then (if (ji23:Int).toNat≤281474976710656 then ((some (List.replicate (ji23:Int).toNat 0:List Int)).bind fun y944=>(florinlaw06_RuleMany.l1 kj8 ji23 y944 (y944.length:Int) 0)) else (none)) else (none))=some r:=by first|(rw[hji23] at H;exact H)|(simp only[hji23] at H ⊢;exact H)
        have hji23w:(IntKind.i64.wrap (3996+(Go.bits .and .i64 a1 7)))=ji23:=(i64_w _).trans hji23
        replace H:=ifn_ H
        obtain⟨c24,H⟩:=H
        have c24b0:=eq_true c24
        have c24b1:decide (0≤(ji23))=true:=decide_eq_true c24
        clear c24
        replace H:=ifn_ H
        obtain⟨c25,H⟩:=H
        have c25b0:=eq_true c25
        have c25b1:decide ((ji23:Int).toNat≤281474976710656)=true:=decide_eq_true c25
        clear c25
        obtain⟨y944,hy944⟩:∃y_:List Int,y_=(List.replicate (ji23:Int).toNat 0):=⟨_,rfl⟩
        replace H:(florinlaw06_RuleMany.l1 kj8 ji23 y944 (y944.length:Int) 0)=some r:=by first|(rw[hy944];with_reducible exact H)|(have H2_:=(Option.bind_some _ _).symm.trans H;rw[hy944];with_reducible exact H2_)|(have H2_:=(Option.bind_some _ _).symm.trans H;with_reducible exact H2_)|with_reducible exact H|(rw[hy944];exact H)|exact H
        have Ny944:=Aside0.mk hy944
        clear hy944
        have H':=Aside0.mk H
        clear H
        go_wp2_with (first|((with_reducible refine gate_dst (N:=69) rfl ?_);(try (refine gate_guard (by rfl) ?_;dsimp only));refine Kd.R_make (Kd.int .u8) _ 5 rfl (N:=69) rfl 46 _ _ rfl ji23 rfl rfl Tryd.underlying46 (.int .u8 0) 1 info5 rfl (by decide) (by omega) 0 (ok:=fun _=>True) (okp:=fun _=>True) rfl (fun _ hk=>hk) trivial (od_) (Nat.le_trans (Nat.mul_le_mul_right _ (od_:ji23.toNat≤281474976710656)) (by omega)) (Below.refl _ _) (Nat.le_refl _) ?_;intro v945 w26 ho27 hb hg_ hnew_;clear hg_ hnew_;(first|rw[← Ny944.out] at ho27|(simp only[Int.reduceToNat] at ho27;rw[← Ny944.out] at ho27));have HO946:=Aside0.mk (Kd.R_lower ho27 (below_size (bl_ HB).out));replace HB:=Aside0.mk (below_step (bl_ HB).out hb);clear hb ho27;obtain⟨Ao28,co28,eo28⟩:=Kd.R_slice HO946.out;subst eo28))
        go_loopg [72] kj8 (fun kq v72 w'=>∃(x10_3:List Int) (x72_3:Int),v72= .int .i64 x72_3∧Aside0 (florinlaw06_RuleMany.l1 kq ji23 x10_3 (y944.length:Int) x72_3=some r)∧Aside0 (kq≤kj8)∧Aside0 (Kd.R (Kd.int .u8) 5 w' w.heap.size (fun _=>True) (.slice Ao28 y944.length co28) x10_3)∧Aside0 (Below w.heap.size w w'))
        case atStart=>exact⟨(y944),(0),eq_,H',⟨Nat.le_refl _⟩,⟨kdR_ HO946.out⟩,(bl_ HB)⟩
        case round =>
         clear H'
         obtain⟨x10_3,x72_3,rfl,HA,HK3,HO_10,HB⟩:=hrel
         have hl10_3:=(Kd.R_reads' HO_10.out).1
         rw[hl10_3] at HO_10
         (try simp only[hl10_3])
         cases gk with
         | zero=>exact absurd HA.out (by simp[florinlaw06_RuleMany.l1])
         | succ k3 =>
          have H:=HA.out
          clear HA
          simp only[florinlaw06_RuleMany.l1] at H
          by_cases c29:x72_3<(y944.length:Int)
          ·rw[if_pos c29] at H
           have c29b0:=decide_eq_true c29
           clear c29
           (try (have c29y0_0:=c29b0;simp only[hl10_3] at c29y0_0))
           replace H:=ifn_ H
           obtain⟨c30,H⟩:=H
           have c30b0:decide (0≤x72_3)=true:=decide_eq_true c30
           clear c30
           replace H:=ifn_ H
           obtain⟨c31,H⟩:=H
           have c31b0:decide (x72_3<(x10_3.length:Int))=true:=decide_eq_true c31
           clear c31
           (try (have c31y0_0:=c31b0;simp only[hl10_3] at c31y0_0))
           obtain⟨y947,hy947⟩:∃y_:List Int,y_=(x10_3.set (x72_3:Int).toNat 32):=⟨_,rfl⟩
           replace H:(florinlaw06_RuleMany.l1 k3 ji23 y947 (y944.length:Int) (wrap64 (x72_3+1)))=some r:=by first|(rw[hy947];with_reducible exact H)|(have H2_:=(Option.bind_some _ _).symm.trans H;rw[hy947];with_reducible exact H2_)|(have H2_:=(Option.bind_some _ _).symm.trans H;with_reducible exact H2_)|with_reducible exact H|(rw[hy947];exact H)|exact H
           have Ny947:=Aside0.mk hy947
           clear hy947
           have H':=Aside0.mk H
           clear H
           have p32:0≤(x72_3:Int):=od_
           have q32:(x72_3:Int)<((x10_3.length:Int):Int):=od_
           obtain⟨go32,co32,eo32,gb32,gl32,cl32,HG32⟩:=Kd.R_form HO_10.out (by omega)
           (first|cases eo32|(injection eo32 with ea_ en_ ec_;(first|subst ea_|(injection ea_ with ea_;subst ea_));subst ec_;clear en_))
           have GB32:=Aside0.mk gb32
           have GG32:=Aside0.mk HG32
           clear gb32 gl32 HG32
           obtain⟨hx32_0,hf32_0⟩:=Kd.R_celln 0 HO_10.out (x72_3:Int) p32 q32
           replace p32:=eq_true p32
           replace q32:=eq_true q32
           have HP33:=Kd.R_putg HO_10.out (x72_3:Int) 32
           go_wp2_with (first|((with_reducible refine gate_store (t:=5) (p:=77) rfl ?_);refine store_event (t:=5) (p:=77) (v:=?vo_w34) (w1:=(wr.setCell ⟨go32,(x72_3:Int).toNat,none⟩ (.int .u8 32))) ?hg ?ho ?hn ?hr ?_;(case ho=>rfl);(case hg=>rfl);(case hn=>rfl);(case hr=>first|(go_simp;done)|(go_simp;rfl));intro w34 hw;have hg:wr.grownBy w34 (some go32):=(by rw[hw];exact HP33.2);have hp_:Kd.R (Kd.int .u8) 5 w34 w.heap.size (fun _=>True) (.slice (some ⟨go32,0,none⟩) x10_3.length co28) y947:=(by rw[hw,Ny947.out];exact HP33.1);clear HP33;have n0_:=Aside0.mk (hp_);have n1_:=Aside0.mk ((by rw[hw];exact below_set (HB.out) GB32.out:Below w.heap.size w w34));clear HO_10;clear HB;have HO_10:=n0_;have HB:=n1_;clear n0_ n1_;clear hg hw hp_))
           (try simp only[← hl10_3])
           go_roundg k3
           case measure=>have:=HK1.out;have:=HJ8.out;have:=HK3.out;omega
           case rel=>exact⟨(y947),(wrap64 (x72_3+1)),eq_,H',⟨by have:=HK1.out;have:=HJ8.out;have:=HK3.out;omega⟩,⟨by (try simp only[hl10_3]);(with_reducible repeat(first|apply Kd.R_alloc|apply Kd.R_drewN|apply Kd.R_drew));exact HO_10.out⟩,(bl_ HB)⟩
          ·rw[if_neg c29] at H
           have c29b0:=decide_eq_false c29
           clear c29
           (try (have c29y0_0:=c29b0;simp only[hl10_3] at c29y0_0))
           replace H:=Option.bind_eq_some_iff.mp H
           obtain⟨⟨t948,t951,t952⟩,A350,H⟩:=H
           dsimp only at H
           have A35:=Aside0.mk A350
           clear A350
           replace H:=ifn_ H
           obtain⟨c36,H⟩:=H
           have c36b0:((t948.length:Int)==0)=true:=beq_iff_eq.mpr c36
           have c36b1:((t948.length:Int) !=0)=false:=bne_eq_false_iff_eq.mpr c36
           clear c36
           (try (have c36y0_0:=c36b0;simp only[hl10_3] at c36y0_0))
           (try (have c36y1_0:=c36b1;simp only[hl10_3] at c36y1_0))
           replace H:=ifn_ H
           obtain⟨c37,H⟩:=H
           have c37b0:(t952==0)=true:=beq_iff_eq.mpr c37
           have c37b1:(t952 !=0)=false:=bne_eq_false_iff_eq.mpr c37
           clear c37
           by_cases c38:ji23≤4000
           ·rw[if_pos c38] at H
            have c38b0:=decide_eq_true c38
            clear c38
            by_cases c39:t951=0
            ·rw[if_pos c39] at H
             have c39b0:(t951==0)=true:=beq_iff_eq.mpr c39
             have c39b1:(t951 !=0)=false:=bne_eq_false_iff_eq.mpr c39
             clear c39
             obtain rfl:=Option.some.inj H
             have hcv40:=own_string (P:=Tryd.prog) Tryd.underlying46 Tryd.underlying5 Tryd.underlying9 (Kd.own_of_R HO_10.out)
             go_wp2_with (first|((with_reducible refine gate_callee (f:=8) rfl ?_);refine gl_ (some 82) Tryd.func8 #[.string (strOfNums x10_3)] ?_;(with_reducible refine(rule_Parse.calls _ _ _ _ _ _ A35.out).mono ?_);rintro e w41 ⟨v949,rfl,ho0,hb⟩;refine⟨_,rfl,?_⟩;have HO950:=Aside0.mk (Kd.N_lower (Kd.N_mono (ok':=fun k_=>some k_≠(.slice Ao28 x10_3.length co28:Value).ownBlock) ho0 (fun k_ hk_=>(Kd.fresh' (kx_ HO_10) k_ hk_))) (below_size (bl_ HB).out));replace HO_10:=kb_ HO_10 hb;replace HB:=Aside0.mk (below_step (bl_ HB).out hb);(try clear hb);(try clear ho0);obtain⟨Ao42,co42,eo42⟩:=Kd.N_slice HO950.out;subst eo42))
             go_ret
             exact⟨by first|rfl|(simp[errW_none,errW_some] <;> rfl)|(simp only[← hji23];first|rfl|(simp[errW_none,errW_some] <;> rfl))|(simp[*,errW_none,errW_some] <;> first|rfl|exact given_isEmpty _|exact(given_isEmpty _).symm),by repeat(first|(with_reducible first|exact HB.out|apply below_alloc|apply pw_below_drewN|apply below_drew1)|exact HB.out)⟩
            ·rw[if_neg c39] at H
             have c39b0:(t951==0)=false:=beq_eq_false_iff_ne.mpr c39
             have c39b1:(t951 !=0)=true:=bne_iff_ne.mpr c39
             replace H:=ifn_ H
             obtain⟨c43,H⟩:=H
             have c43b0:decide (4000<ji23)=true:=decide_eq_true c43
             clear c43
             obtain rfl:=Option.some.inj H
             have hcv44:=own_string (P:=Tryd.prog) Tryd.underlying46 Tryd.underlying5 Tryd.underlying9 (Kd.own_of_R HO_10.out)
             go_wp2_with (first|((with_reducible refine gate_callee (f:=8) rfl ?_);refine gl_ (some 82) Tryd.func8 #[.string (strOfNums x10_3)] ?_;(with_reducible refine(rule_Parse.calls _ _ _ _ _ _ A35.out).mono ?_);rintro e w45 ⟨v949,rfl,ho0,hb⟩;refine⟨_,rfl,?_⟩;have HO950:=Aside0.mk (Kd.N_lower (Kd.N_mono (ok':=fun k_=>some k_≠(.slice Ao28 x10_3.length co28:Value).ownBlock) ho0 (fun k_ hk_=>(Kd.fresh' (kx_ HO_10) k_ hk_))) (below_size (bl_ HB).out));replace HO_10:=kb_ HO_10 hb;replace HB:=Aside0.mk (below_step (bl_ HB).out hb);(try clear hb);(try clear ho0);obtain⟨Ao46,co46,eo46⟩:=Kd.N_slice HO950.out;subst eo46))
             go_ret
             exact⟨by first|rfl|(simp[errW_none,errW_some] <;> rfl)|(simp only[← hji23];first|rfl|(simp[errW_none,errW_some] <;> rfl))|(simp[*,errW_none,errW_some] <;> first|rfl|exact given_isEmpty _|exact(given_isEmpty _).symm),by repeat(first|(with_reducible first|exact HB.out|apply below_alloc|apply pw_below_drewN|apply below_drew1)|exact HB.out)⟩
           ·rw[if_neg c38] at H
            have c38b0:=decide_eq_false c38
            clear c38
            replace H:=ifn_ H
            obtain⟨c47,H⟩:=H
            have c47b0:decide (4000<ji23)=true:=decide_eq_true c47
            clear c47
            obtain rfl:=Option.some.inj H
            have hcv48:=own_string (P:=Tryd.prog) Tryd.underlying46 Tryd.underlying5 Tryd.underlying9 (Kd.own_of_R HO_10.out)
            go_wp2_with (first|((with_reducible refine gate_callee (f:=8) rfl ?_);refine gl_ (some 82) Tryd.func8 #[.string (strOfNums x10_3)] ?_;(with_reducible refine(rule_Parse.calls _ _ _ _ _ _ A35.out).mono ?_);rintro e w49 ⟨v949,rfl,ho0,hb⟩;refine⟨_,rfl,?_⟩;have HO950:=Aside0.mk (Kd.N_lower (Kd.N_mono (ok':=fun k_=>some k_≠(.slice Ao28 x10_3.length co28:Value).ownBlock) ho0 (fun k_ hk_=>(Kd.fresh' (kx_ HO_10) k_ hk_))) (below_size (bl_ HB).out));replace HO_10:=kb_ HO_10 hb;replace HB:=Aside0.mk (below_step (bl_ HB).out hb);(try clear hb);(try clear ho0);obtain⟨Ao50,co50,eo50⟩:=Kd.N_slice HO950.out;subst eo50))
            go_ret
            exact⟨by first|rfl|(simp[errW_none,errW_some] <;> rfl)|(simp only[← hji23];first|rfl|(simp[errW_none,errW_some] <;> rfl))|(simp[*,errW_none,errW_some] <;> first|rfl|exact given_isEmpty _|exact(given_isEmpty _).symm),by repeat(first|(with_reducible first|exact HB.out|apply below_alloc|apply pw_below_drewN|apply below_drew1)|exact HB.out)⟩
 ·replace c4:=Bool.eq_false_iff.mpr c4
  subst c4
  have H1:(none)=some r:=by rw[if_neg (show ¬(false=true) by decide)] at H;exact H
  clear H
  have H:=H1
  clear H1
  exact absurd H (by simp)

/-- THE ONE PURE STATEMENT of florinlaw06_RuleMany: yours. -/
def florinlaw06_RuleMany.Pure:Prop:=∀(a0:Int) (a1:Int),(Lit.int .i64 a0).wf=true→(Lit.int .i64 a1).wf=true→∃k,florinlaw06_RuleMany.f k a0 a1=some true
theorem florinlaw06_RuleMany.walk (P:florinlaw06_RuleMany.Pure) (a0:Int) (a1:Int) (w:World) (w0:(Lit.int .i64 a0).wf=true) (w1:(Lit.int .i64 a1).wf=true) (ht:Lib.TabIs Tryd.prog w "internal/strconv.uint64pow10" .u64 Lib.pow10Tab) :
  Calls Tryd.prog 5 #[.int .i64 a0,.int .i64 a1] w fun e w'=>e= .returned (.bool true)∧Below w.heap.size w w':=by
 obtain⟨k,h⟩:=P a0 a1 w0 w1
 refine(florinlaw06_RuleMany.calls _ _ _ _ _ h).mono ?_
 rintro e w' ⟨rfl,hd⟩
 exact⟨rfl,hd⟩

end Go.Proofs.YtcokjmnkieakiaaDoor.P
