-- written by a program of this session (wip/p2)
import Derived.Test.YtcokjmnkieakiaaDoorPx0
import Derived.Test.YtcokjmnkieakiaaDoorPx2
import Derived.Test.YtcokjmnkieakiaaDoorPx6
import Derived.Test.YtcokjmnkieakiaaDoorPx7
namespace Go.Proofs.YtcokjmnkieakiaaDoor.P
open Go.RowKit Go.Proofs.YtcokjmnkieakiaaDoorW.PrintWords Go.Proofs.YtcokjmnkieakiaaDoorW.PrintLast Go.Proofs.YtcokjmnkieakiaaDoorW.PrintMore
attribute [local go_sem] max2_int min2_int max_two min_two max_three min_three max_four min_four   -- for this text's walks alone
set_option linter.unusedVariables false
set_option linter.unusedSimpArgs false

/-! ### rule_reader_rules_g: function 14 -/
mutual
def rule_reader_rules_g.j2:Nat→ByteArray→Int→Int→Bool→Bool→Bool→Bool→Bool→Bool→Option (Int × Int)
 | 0,_,_,_,_,_,_,_,_,_=>none
 | k+1,x1000,x1001,x1002,x1003,x1004,x1005,x1006,x1007,x1008=>(rule_reader_peek.f k x1000 x1001 x1002 x1003 x1004 x1005 x1006 x1007 x1008).bind fun bt866=>(if bt866.1=0 then (if bt866.2.2.1<(bt866.2.1.size:Int) then ((rule_fail_g.f 1 bt866.2.2.1).bind fun bt876=>(some (bt876.1,bt876.2))) else (none)) else ((rule_fail_g.f 1 bt866.2.2.1).bind fun bt878=>(some (bt878.1,bt878.2))))
def rule_reader_rules_g.l0:Nat→List (S32)→ByteArray→Int→Int→Bool→Bool→Bool→Bool→Bool→Bool→Option (Int × Int)
 | 0,_,_,_,_,_,_,_,_,_,_=>none
 | k+1,x3,x1000,x1001,x1002,x1003,x1004,x1005,x1006,x1007,x1008=>(rule_reader_peek.f k x1000 x1001 x1002 x1003 x1004 x1005 x1006 x1007 x1008).bind fun bt827=>(if bt827.1=0 then (rule_reader_rules_g.j2 k bt827.2.1 bt827.2.2.1 bt827.2.2.2.1 bt827.2.2.2.2.1 bt827.2.2.2.2.2.1 bt827.2.2.2.2.2.2.1 bt827.2.2.2.2.2.2.2.1 bt827.2.2.2.2.2.2.2.2.1 bt827.2.2.2.2.2.2.2.2.2) else (orf_ ((rule_reader_rule_g.f k bt827.2.1 bt827.2.2.1 bt827.2.2.2.1 bt827.2.2.2.2.1 bt827.2.2.2.2.2.1 bt827.2.2.2.2.2.2.1 bt827.2.2.2.2.2.2.2.1 bt827.2.2.2.2.2.2.2.2.1 bt827.2.2.2.2.2.2.2.2.2).bind fun bt854=>(some (bt854.1,bt854.2))) ((rule_reader_rule.f k bt827.2.1 bt827.2.2.1 bt827.2.2.2.1 bt827.2.2.2.2.1 bt827.2.2.2.2.2.1 bt827.2.2.2.2.2.2.1 bt827.2.2.2.2.2.2.2.1 bt827.2.2.2.2.2.2.2.2.1 bt827.2.2.2.2.2.2.2.2.2).bind fun bt837=>(if x3.length<2932031007402 then (rule_reader_rules_g.j1 k (x3++[(⟨bt837.1,bt837.2.1,bt837.2.2.1⟩:S32)]) bt837.2.2.2.1 bt837.2.2.2.2.1 bt837.2.2.2.2.2.1 bt837.2.2.2.2.2.2.1 bt837.2.2.2.2.2.2.2.1 bt837.2.2.2.2.2.2.2.2.1 bt837.2.2.2.2.2.2.2.2.2.1 bt837.2.2.2.2.2.2.2.2.2.2.1 bt837.2.2.2.2.2.2.2.2.2.2.2) else (none)))))
def rule_reader_rules_g.j1:Nat→List (S32)→ByteArray→Int→Int→Bool→Bool→Bool→Bool→Bool→Bool→Option (Int × Int)
 | 0,_,_,_,_,_,_,_,_,_,_=>none
 | k+1,x3,x1000,x1001,x1002,x1003,x1004,x1005,x1006,x1007,x1008=>(rule_reader_take.f k x1000 x1001 x1002 x1003 x1004 x1005 x1006 x1007 x1008 (⟨#[59]⟩:ByteArray)).bind fun bt856=>(if bt856.1=true then (rule_reader_rules_g.l0 k x3 bt856.2.1 bt856.2.2.1 bt856.2.2.2.1 bt856.2.2.2.2.1 bt856.2.2.2.2.2.1 bt856.2.2.2.2.2.2.1 bt856.2.2.2.2.2.2.2.1 bt856.2.2.2.2.2.2.2.2.1 bt856.2.2.2.2.2.2.2.2.2) else (rule_reader_rules_g.j2 k bt856.2.1 bt856.2.2.1 bt856.2.2.2.1 bt856.2.2.2.2.1 bt856.2.2.2.2.2.1 bt856.2.2.2.2.2.2.1 bt856.2.2.2.2.2.2.2.1 bt856.2.2.2.2.2.2.2.2.1 bt856.2.2.2.2.2.2.2.2.2))
end
def rule_reader_rules_g.f (k:Nat) (s0_0:ByteArray) (s0_1:Int) (s0_2:Int) (s0_3:Bool) (s0_4:Bool) (s0_5:Bool) (s0_6:Bool) (s0_7:Bool) (s0_8:Bool):Option (Int × Int):=rule_reader_rules_g.l0 k ([]:List (S32)) s0_0 s0_1 s0_2 s0_3 s0_4 s0_5 s0_6 s0_7 s0_8
def rule_reader_rules_g.T5:Bool × List (List Nat × List Nat):=(true,[([],[]),([0],[0]),([1],[1]),([2,1],[2]),([3],[3]),([4,3],[3,4]),([5,3],[3,5]),([6,3],[3,6]),([3],[3]),([8,3],[3,8]),([9,3],[3,9]),([10,3],[3,10]),([11,3],[3,11]),([7,12,3],[3,7,12]),([3,13],[3,13])])
def rule_reader_rules_g.B5:List Nat:=[0,1,3,7,15,31,63,127,15,271,783,1807,3855,8191,16383]
theorem rule_reader_rules_g.tab5:rtab .any (opsOf Tryd.f14 5)=rule_reader_rules_g.T5:=by kernel_rfl
theorem rule_reader_rules_g.bits5:waitsOk rule_reader_rules_g.T5.2 rule_reader_rules_g.B5=true:=by kernel_rfl
set_option maxHeartbeats 64000000 in
set_option maxRecDepth 100000 in
theorem rule_reader_rules_g.calls (k:Nat) (g:Nat) (s0_0:ByteArray) (s0_1:Int) (s0_2:Int) (s0_3:Bool) (s0_4:Bool) (s0_5:Bool) (s0_6:Bool) (s0_7:Bool) (s0_8:Bool) (r1:Int) (r2:Int) (w0 w:World) (hI:IsS56 w0 w g s0_0 s0_1 s0_2 s0_3 s0_4 s0_5 s0_6 s0_7 s0_8) (hB:Below w0.heap.size w0 w) (h:rule_reader_rules_g.f k s0_0 s0_1 s0_2 s0_3 s0_4 s0_5 s0_6 s0_7 s0_8=some (r1,r2)) :
  Calls Tryd.prog 14 #[.pointer (some ⟨g,0,none⟩)] w fun e w'=>e= .panicked [{v:= .iface 52 (.agg #[.int .i64 r1,.int .i64 r2]),recovered:=false}]∧Below w0.heap.size w0 w':=by
 have HI0:=Aside0.mk hI
 have HK:=Aside0.mk (KeepBut.refl w g none)
 have HL:=Aside0.mk hB.size
 clear hI
 have HW0:=Aside0.mk hB.size
 have HB:=Aside0.mk hB
 clear hB
 have H:(rule_reader_rules_g.l0 k ([]:List (S32)) s0_0 s0_1 s0_2 s0_3 s0_4 s0_5 s0_6 s0_7 s0_8)=some (r1,r2):=h
 clear h
 have HC2:=Aside0.mk H
 clear H
 go_enter Tryd.func14,Tryd.ntmps14
 go_upto_block 0 with (fail)
 go_cut [] (fun wc=>∃(kq:Nat) (x1000_1:ByteArray) (x1001_1:Int) (x1002_1:Int) (x1003_1:Bool) (x1004_1:Bool) (x1005_1:Bool) (x1006_1:Bool) (x1007_1:Bool) (x1008_1:Bool),Aside0 (rule_reader_rules_g.j2 kq x1000_1 x1001_1 x1002_1 x1003_1 x1004_1 x1005_1 x1006_1 x1007_1 x1008_1=some (r1,r2))∧Aside0 (kq≤k)∧Aside0 (IsS56 w0 wc g x1000_1 x1001_1 x1002_1 x1003_1 x1004_1 x1005_1 x1006_1 x1007_1 x1008_1)∧Aside0 (KeepBut w wc g none)∧Aside0 (Below w0.heap.size w0 wc))
 case first =>
  have H:=HC2.out
  clear HC2
  have H':=Aside0.mk H
  clear H
  go_wp2
  go_loopg [3] k (fun kq v3 w'=>∃(x3_1:List (S32)) (x1000_1:ByteArray) (x1001_1:Int) (x1002_1:Int) (x1003_1:Bool) (x1004_1:Bool) (x1005_1:Bool) (x1006_1:Bool) (x1007_1:Bool) (x1008_1:Bool),Aside0 (rule_reader_rules_g.l0 kq x3_1 x1000_1 x1001_1 x1002_1 x1003_1 x1004_1 x1005_1 x1006_1 x1007_1 x1008_1=some (r1,r2))∧Aside0 (kq≤k)∧Aside0 (Kd.N k32 32 w' w.heap.size (fun k_=>k_≠g) v3 x3_1)∧Aside0 (IsS56 w0 w' g x1000_1 x1001_1 x1002_1 x1003_1 x1004_1 x1005_1 x1006_1 x1007_1 x1008_1)∧Aside0 (KeepBut w w' g none)∧Aside0 (Below w0.heap.size w0 w'))
  case atStart=>exact⟨(([]:List (S32))),(s0_0),(s0_1),(s0_2),(s0_3),(s0_4),(s0_5),(s0_6),(s0_7),(s0_8),H',⟨Nat.le_refl _⟩,⟨by first|exact Kd.R_nil _ _ _ _ _|exact Kd.N_nil _ _ _ _ _|exact Kd.V_nil _ _ _ _ _|exact Kd.Q_nil _ _ _ _ _|exact Kd.S_nil _ _ _ _ _⟩,⟨is56_ HI0⟩,⟨kp_ HK⟩,⟨bs56_ HB HI0⟩⟩
  case round =>
   clear H'
   obtain⟨x3_1,x1000_1,x1001_1,x1002_1,x1003_1,x1004_1,x1005_1,x1006_1,x1007_1,x1008_1,HA,HK1,HO_3,HI0,HK,HB⟩:=hrel
   cases gk with
   | zero=>exact absurd HA.out (by simp[rule_reader_rules_g.l0])
   | succ k1 =>
    have H:=HA.out
    clear HA
    simp only[rule_reader_rules_g.l0] at H
    replace H:=Option.bind_eq_some_iff.mp H
    obtain⟨⟨t827,t828,t829,t830,t831,t832,t833,t834,t835,t836⟩,A30,H⟩:=H
    dsimp only at H
    have A3:=Aside0.mk A30
    clear A30
    by_cases c4:t827=0
    ·rw[if_pos c4] at H
     have c4b0:(t827==0)=true:=beq_iff_eq.mpr c4
     have c4b1:(t827 !=0)=false:=bne_eq_false_iff_eq.mpr c4
     clear c4
     (first|rw[c4b0]|(simp only[i64_w,i32_w];rw[c4b0])|skip)
     have H':=Aside0.mk H
     clear H
     go_wp2_with (first|((with_reducible refine gate_callee (f:=18) rfl ?_);refine gl_ (some 5) Tryd.func18 #[.pointer (some ⟨g,0,none⟩)] ?_;(with_reducible refine(rule_reader_peek.calls _ _ _ _ _ _ _ _ _ _ _ _ _ _ _ _ _ _ _ _ _ w0 _ ?side1 ?side2 A3.out).mono ?_);(case side1=>exact is56_ HI0);(case side2=>exact bs56_ HB HI0);rintro e w5 ⟨rfl,hi,hb,hk⟩;refine⟨_,rfl,?_⟩;replace HO_3:=Aside0.mk (Kd.N_mono (Kd.N_keep (Kd.N_mono (ok:=fun k_=>k_≠g) (krN_ HO_3) (fun k_ hk_=>(⟨hk_,hk_⟩:_∧k_≠g))) hk (fun _ h=>h.2)) (fun _ h=>h.1));replace HK:=Aside0.mk (KeepBut.trans (kp_ HK) hk (.inl rfl));replace HB:=Aside0.mk (hb);replace HI0:=Aside0.mk (hi);(try clear hb);(try clear hk);(try clear hi)))
     go_meet
     case rel=>exact⟨_,(t828),(t829),(t830),(t831),(t832),(t833),(t834),(t835),(t836),H',⟨by have:=HK1.out;first|omega|exact Nat.le_refl _⟩,⟨is56_ HI0⟩,⟨kp_ HK⟩,⟨bs56_ HB HI0⟩⟩
    ·rw[if_neg c4] at H
     have c4b0:(t827==0)=false:=beq_eq_false_iff_ne.mpr c4
     have c4b1:(t827 !=0)=true:=bne_iff_ne.mpr c4
     (first|rw[c4b0]|(simp only[i64_w,i32_w];rw[c4b0])|skip)
     have HC6:=Aside0.mk H
     clear H
     go_upto_region 3 with (first|((with_reducible refine gate_callee (f:=18) rfl ?_);refine gl_ (some 5) Tryd.func18 #[.pointer (some ⟨g,0,none⟩)] ?_;(with_reducible refine(rule_reader_peek.calls _ _ _ _ _ _ _ _ _ _ _ _ _ _ _ _ _ _ _ _ _ w0 _ ?side1 ?side2 A3.out).mono ?_);(case side1=>exact is56_ HI0);(case side2=>exact bs56_ HB HI0);rintro e w7 ⟨rfl,hi,hb,hk⟩;refine⟨_,rfl,?_⟩;replace HO_3:=Aside0.mk (Kd.N_mono (Kd.N_keep (Kd.N_mono (ok:=fun k_=>k_≠g) (krN_ HO_3) (fun k_ hk_=>(⟨hk_,hk_⟩:_∧k_≠g))) hk (fun _ h=>h.2)) (fun _ h=>h.1));replace HK:=Aside0.mk (KeepBut.trans (kp_ HK) hk (.inl rfl));replace HB:=Aside0.mk (hb);replace HI0:=Aside0.mk (hi);(try clear hb);(try clear hk);(try clear hi)))
     (try simp only[Act.put,List.setIfInBounds_toArray,List.set_cons_zero,List.set_cons_succ])
     go_cut [3] (fun v3 wc=>∃(kq:Nat) (x3_5:List (S32)) (x1000_5:ByteArray) (x1001_5:Int) (x1002_5:Int) (x1003_5:Bool) (x1004_5:Bool) (x1005_5:Bool) (x1006_5:Bool) (x1007_5:Bool) (x1008_5:Bool),Aside0 (rule_reader_rules_g.j1 kq x3_5 x1000_5 x1001_5 x1002_5 x1003_5 x1004_5 x1005_5 x1006_5 x1007_5 x1008_5=some (r1,r2))∧Aside0 (kq≤k1)∧Aside0 (Kd.N k32 32 wc w.heap.size (fun k_=>k_≠g) v3 x3_5)∧Aside0 (IsS56 w0 wc g x1000_5 x1001_5 x1002_5 x1003_5 x1004_5 x1005_5 x1006_5 x1007_5 x1008_5)∧Aside0 (KeepBut w wc g none)∧Aside0 (Below w0.heap.size w0 wc))
     case first =>
      have H:=HC6.out
      clear HC6
      rcases orf_or H with H|H
      ·skip
       replace H:=Option.bind_eq_some_iff.mp H
       obtain⟨⟨t854,t855⟩,A80,H⟩:=H
       dsimp only at H
       have A8:=Aside0.mk A80
       clear A80
       simp only[Option.some.injEq,Prod.mk.injEq] at H
       obtain⟨rfl,rfl⟩:=H
       go_wp2_with (first|(go_at_call 19;(with_reducible refine(rule_reader_rule_g.calls _ _ _ _ _ _ _ _ _ _ _ _ _ w0 _ ?side1 ?side2 A8.out).mono ?_);(case side1=>exact is56_ HI0);(case side2=>exact bs56_ HB HI0);rintro e w' ⟨rfl,hb⟩;exact And.intro rfl (And.intro rfl hb)))
      ·skip
       replace H:=Option.bind_eq_some_iff.mp H
       obtain⟨⟨t837,t838,t841,t842,t843,t844,t845,t846,t847,t848,t849,t850⟩,A90,H⟩:=H
       dsimp only at H
       have A9:=Aside0.mk A90
       clear A90
       replace H:=ifn_ H
       obtain⟨c10,H⟩:=H
       have LMc10:=Aside0.mk c10
       clear c10
       obtain⟨y851,hy851⟩:∃y_:List (S32),y_=(x3_1++[(⟨t837,t838,t841⟩:S32)]):=⟨_,rfl⟩
       replace H:(rule_reader_rules_g.j1 k1 y851 t842 t843 t844 t845 t846 t847 t848 t849 t850)=some (r1,r2):=by first|(rw[hy851];with_reducible exact H)|(have H2_:=(Option.bind_some _ _).symm.trans H;rw[hy851];with_reducible exact H2_)|(have H2_:=(Option.bind_some _ _).symm.trans H;with_reducible exact H2_)|with_reducible exact H|(rw[hy851];exact H)|exact H
       have Ny851:=Aside0.mk hy851
       clear hy851
       have H':=Aside0.mk H
       clear H
       go_wp2_with (first|((with_reducible refine gate_callee (f:=19) rfl ?_);refine gl_ (some 9) Tryd.func19 #[.pointer (some ⟨g,0,none⟩)] ?_;(with_reducible refine(rule_reader_rule.calls _ _ _ _ _ _ _ _ _ _ _ _ _ _ _ _ _ _ _ _ _ _ _ w0 _ ?side1 ?side2 A9.out).mono ?_);(case side1=>exact is56_ HI0);(case side2=>exact bs56_ HB HI0);rintro e w11 ⟨v839,rfl,ho0,hi,hb,hk⟩;refine⟨_,rfl,?_⟩;have HO840:=Aside0.mk (Kd.N_lower (Kd.N_mono (ok':=fun k_=>some k_≠(u3:Value).ownBlock∧k_≠g) ho0 (fun k_ hk_=>⟨(Kd.fresh' (Kd.N_lt (krN_ HO_3)) k_ hk_),(IsS56.fresh (is56_ HI0) k_ hk_)⟩)) (keep_size (w:=w) (g:=g) (row:=none) (kp_ HK)));replace HO_3:=Aside0.mk (Kd.N_mono (Kd.N_told (Kd.N_oldK (Kd.N_mono (ok:=fun k_=>k_≠g) (krN_ HO_3) (fun k_ hk_=>(⟨hk_,hk_⟩:_∧k_≠g))) hk) (Kd.N_base ho0)) (fun _ h_=>h_.1));replace HK:=Aside0.mk (KeepBut.trans (kp_ HK) hk (.inl rfl));replace HB:=Aside0.mk (hb);replace HI0:=Aside0.mk (hi);(try clear hb);(try clear hk);(try clear hi);(try clear ho0);obtain⟨Ao13,co13,eo13⟩:=Kd.N_slice HO840.out;subst eo13)|((with_reducible refine gate_builtin (b:= .append) (xs:= #[.tmp 7,.tmp 10]) rfl ?_);(try (refine gate_guard (by rfl) ?_;dsimp only));at_builtin;refine Kd.N_append k32 w.heap.size rfl (.tmp 7) (.tmp 10) 24 32 (.agg #[(.int .i64 0),(.slice none 0 0),(.string ⟨#[]⟩)]) 48 rfl Tryd.underlying24 info32 rfl (by decide) (by omega) u3 x3_1 (⟨t837,t838,t841⟩:S32) [.int .i64 t837,.slice Ao13 t838.length co13,.string t841] (fun k_=>k_≠g) (fun k_=>((fun k_=>k_≠g)) k_∧some k_≠(u3:Value).ownBlock) rfl rfl ?aP (fun _ hk=>hk) ?aF ?aO (Below.refl _ _) ?aS ?aL ?_;(case aP=>exact(k32_mkF _ _ (⟨t837,t838,t841⟩:S32) (Kd.N_reads' (Kd.N_mono (ok':=(fun k_=>((fun k_=>k_≠g)) k_∧some k_≠(u3:Value).ownBlock)) (HO840.out) (fun k_ hk=>⟨hk.2,hk.1⟩))).2.1 (Kd.N_F (Kd.N_mono (ok':=(fun k_=>((fun k_=>k_≠g)) k_∧some k_≠(u3:Value).ownBlock)) (HO840.out) (fun k_ hk=>⟨hk.2,hk.1⟩)))));(case aF=>exact(fun k_ hk=>IsS56.fresh (is56_ HI0) k_ hk));(case aO=>exact(kdN_ (Kd.N_mono HO_3.out (fun _ hk=>hk.1))));(case aS=>exact(keep_size (w:=w) (g:=g) (row:=none) (kp_ HK)));(case aL=>have:=LMc10.out;omega);intro v852 w12 ho hb hg hat;rw[← Ny851.out] at ho;have n0_:=Aside0.mk (IsS56.grown (is56_ HI0) hg (IsS56.own_neN HI0.out HO_3.out (by decide)));have n1_:=Aside0.mk (below_weaken (bs56_ HB HI0) HL.out hb);have n2_:=Aside0.mk (KeepBut.trans (kp_ HK) (KeepBut.of_grown hg g) (Kd.N_base2 HO_3.out));have n3_:=Aside0.mk (ho);clear HI0;clear HB;clear HK;clear HO_3;clear HO840;have HI0:=n0_;have HB:=n1_;have HK:=n2_;have HO853:=n3_;clear n0_ n1_ n2_ n3_;clear ho hb hg hat))
       go_meet
       case rel=>exact⟨_,(y851),(t842),(t843),(t844),(t845),(t846),(t847),(t848),(t849),(t850),H',⟨by have:=HK1.out;first|omega|exact Nat.le_refl _⟩,⟨kdN_ HO853.out⟩,⟨is56_ HI0⟩,⟨kp_ HK⟩,⟨bs56_ HB HI0⟩⟩
     case rest =>
      clear HC6
      obtain⟨kq,x3_5,x1000_5,x1001_5,x1002_5,x1003_5,x1004_5,x1005_5,x1006_5,x1007_5,x1008_5,HA,HJ5,HO_3,HI0,HK,HB⟩:=hcut
      cases kq with
      | zero=>exact absurd HA.out (by simp[rule_reader_rules_g.j1])
      | succ kj5 =>
       have H:=HA.out
       clear HA
       simp only[rule_reader_rules_g.j1] at H
       replace H:=Option.bind_eq_some_iff.mp H
       obtain⟨⟨t856,t857,t858,t859,t860,t861,t862,t863,t864,t865⟩,A140,H⟩:=H
       dsimp only at H
       have A14:=Aside0.mk A140
       clear A140
       by_cases c15:t856=true
       ·subst c15
        have H1:(rule_reader_rules_g.l0 kj5 x3_5 t857 t858 t859 t860 t861 t862 t863 t864 t865)=some (r1,r2):=by rw[if_pos rfl] at H;exact H
        clear H
        have H:=H1
        clear H1
        have H':=Aside0.mk H
        clear H
        go_wp2_with (first|((with_reducible refine gate_callee (f:=20) rfl ?_);refine gl_ (some 13) Tryd.func20 #[.pointer (some ⟨g,0,none⟩),.string (⟨#[59]⟩:ByteArray)] ?_;(with_reducible refine(rule_reader_take.calls _ _ _ _ _ _ _ _ _ _ _ _ _ _ _ _ _ _ _ _ _ _ w0 _ ?side1 ?side2 A14.out).mono ?_);(case side1=>exact is56_ HI0);(case side2=>exact bs56_ HB HI0);rintro e w16 ⟨rfl,hi,hb,hk⟩;refine⟨_,rfl,?_⟩;replace HO_3:=Aside0.mk (Kd.N_mono (Kd.N_keep (Kd.N_mono (ok:=fun k_=>k_≠g) (krN_ HO_3) (fun k_ hk_=>(⟨hk_,hk_⟩:_∧k_≠g))) hk (fun _ h=>h.2)) (fun _ h=>h.1));replace HK:=Aside0.mk (KeepBut.trans (kp_ HK) hk (.inl rfl));replace HB:=Aside0.mk (hb);replace HI0:=Aside0.mk (hi);(try clear hb);(try clear hk);(try clear hi)))
        go_roundg kj5
        case measure=>have:=HK1.out;have:=HJ5.out;omega
        case rel=>exact⟨(x3_5),(t857),(t858),(t859),(t860),(t861),(t862),(t863),(t864),(t865),H',⟨by have:=HK1.out;have:=HJ5.out;omega⟩,⟨kdN_ HO_3.out⟩,⟨is56_ HI0⟩,⟨kp_ HK⟩,⟨bs56_ HB HI0⟩⟩
       ·replace c15:=Bool.eq_false_iff.mpr c15
        subst c15
        have H1:(rule_reader_rules_g.j2 kj5 t857 t858 t859 t860 t861 t862 t863 t864 t865)=some (r1,r2):=by rw[if_neg (show ¬(false=true) by decide)] at H;exact H
        clear H
        have H:=H1
        clear H1
        have H':=Aside0.mk H
        clear H
        go_wp2_with (first|((with_reducible refine gate_callee (f:=20) rfl ?_);refine gl_ (some 13) Tryd.func20 #[.pointer (some ⟨g,0,none⟩),.string (⟨#[59]⟩:ByteArray)] ?_;(with_reducible refine(rule_reader_take.calls _ _ _ _ _ _ _ _ _ _ _ _ _ _ _ _ _ _ _ _ _ _ w0 _ ?side1 ?side2 A14.out).mono ?_);(case side1=>exact is56_ HI0);(case side2=>exact bs56_ HB HI0);rintro e w17 ⟨rfl,hi,hb,hk⟩;refine⟨_,rfl,?_⟩;replace HO_3:=Aside0.mk (Kd.N_mono (Kd.N_keep (Kd.N_mono (ok:=fun k_=>k_≠g) (krN_ HO_3) (fun k_ hk_=>(⟨hk_,hk_⟩:_∧k_≠g))) hk (fun _ h=>h.2)) (fun _ h=>h.1));replace HK:=Aside0.mk (KeepBut.trans (kp_ HK) hk (.inl rfl));replace HB:=Aside0.mk (hb);replace HI0:=Aside0.mk (hi);(try clear hb);(try clear hk);(try clear hi)))
        go_meet
        case rel=>exact⟨_,(t857),(t858),(t859),(t860),(t861),(t862),(t863),(t864),(t865),H',⟨by have:=HK1.out;have:=HJ5.out;first|omega|exact Nat.le_refl _⟩,⟨is56_ HI0⟩,⟨kp_ HK⟩,⟨bs56_ HB HI0⟩⟩
 case rest =>
  clear HC2
  obtain⟨kq,x1000_1,x1001_1,x1002_1,x1003_1,x1004_1,x1005_1,x1006_1,x1007_1,x1008_1,HA,HJ1,HI0,HK,HB⟩:=hcut
  cases kq with
  | zero=>exact absurd HA.out (by simp[rule_reader_rules_g.j2])
  | succ kj1 =>
   have H:=HA.out
   clear HA
   simp only[rule_reader_rules_g.j2] at H
   replace H:=Option.bind_eq_some_iff.mp H
   obtain⟨⟨t866,t867,t868,t869,t870,t871,t872,t873,t874,t875⟩,A180,H⟩:=H
   dsimp only at H
   have A18:=Aside0.mk A180
   clear A180
   by_cases c19:t866=0
   ·rw[if_pos c19] at H
    have c19b0:(t866==0)=true:=beq_iff_eq.mpr c19
    have c19b1:(t866 !=0)=false:=bne_eq_false_iff_eq.mpr c19
    clear c19
    replace H:=ifn_ H
    obtain⟨c20,H⟩:=H
    have c20b0:decide (t868<(t867.size:Int))=true:=decide_eq_true c20
    clear c20
    replace H:=Option.bind_eq_some_iff.mp H
    obtain⟨⟨t876,t877⟩,A210,H⟩:=H
    dsimp only at H
    have A21:=Aside0.mk A210
    clear A210
    simp only[Option.some.injEq,Prod.mk.injEq] at H
    obtain⟨rfl,rfl⟩:=H
    try go_wp2
    replace HI0:=Aside0.mk (IsS56.drew HI0.out)
    replace HK:=Aside0.mk (keep_drew HK.out)
    replace HB:=Aside0.mk (below_drew1 HB.out)
    refine start_ (n:=15) (S:=fun w'=>True) (ds:=[]) #[false,false,false,false,false,false,false,false,false,false,false,false,false,false,false] (by kernel_rfl) rfl rfl trivial (fun hHeld=>?_);refine with_tabW rule_reader_rules_g.tab5 rule_reader_rules_g.bits5 (fun HT_ HW_=>?_)
    generalize wc.drew=w22 at HI0 HK HB hHeld ⊢
    refine pu_ 0 15 (bm_ 15 1) HT_ ?_
    refine one_ (i:=1) (N:=some 16) (bm_ 15 3) rfl rfl (one_of HT_.out (by kernel_rfl)) (by decide) (fun K hK=>?_)
    refine gs_ Tryd.func18 #[.pointer (some ⟨g,0,none⟩)] ?_
    with_reducible refine(rule_reader_peek.calls _ _ _ _ _ _ _ _ _ _ _ _ _ _ _ _ _ _ _ _ _ w0 _ ?side1 ?side2 A18.out).mono ?_
    (case side1=>exact is56_ HI0)
    (case side2=>exact bs56_ HB HI0)
    rintro e w23 ⟨rfl,hi,hb,hk⟩
    refine⟨_,rfl,?_⟩
    replace HK:=Aside0.mk (KeepBut.trans (kp_ HK) hk (.inl rfl))
    replace HB:=Aside0.mk (hb)
    replace HI0:=Aside0.mk (hi)
    (try clear hb)
    (try clear hb2)
    (try clear hk)
    (try clear hi)
    refine hK.out _ _ trivial (fun hHeld=>?_)
    clear hK K
    refine nm_ 16 ?_
    clear hHeld
    refine restart0_ (S':=fun w'=>w'.cell? ⟨g,0,none⟩=some (.string t867)∧w'.cell? ⟨g,1,none⟩=some (.int .i64 t868)∧w'.cell? ⟨g,2,none⟩=some (.int .i64 t869)∧w'.cell? ⟨g,3,none⟩=some (.bool t870)∧w'.cell? ⟨g,4,none⟩=some (.bool t871)∧w'.cell? ⟨g,5,none⟩=some (.bool t872)∧w'.cell? ⟨g,6,none⟩=some (.bool t873)∧w'.cell? ⟨g,7,none⟩=some (.bool t874)∧w'.cell? ⟨g,8,none⟩=some (.bool t875)) [] ⟨(cellS56_0 HI0.out.1),(cellS56_1 HI0.out.1),(cellS56_2 HI0.out.1),(cellS56_3 HI0.out.1),(cellS56_4 HI0.out.1),(cellS56_5 HI0.out.1),(cellS56_6 HI0.out.1),(cellS56_7 HI0.out.1),(cellS56_8 HI0.out.1)⟩ (fun hHeld=>?_)
    refine pu_ 2 17 (bm_ 15 7) HT_ ?_
    refine pu_ 3 18 (bm_ 15 15) HT_ ?_
    refine pu_ 4 19 (bm_ 15 31) HT_ ?_
    refine pu_ 5 20 (bm_ 15 63) HT_ ?_
    refine pu_ 6 21 (bm_ 15 127) HT_ ?_
    refine pu_ 8 23 (bm_ 15 383) HT_ ?_
    refine pu_ 9 24 (bm_ 15 895) HT_ ?_
    refine pu_ 10 25 (bm_ 15 1919) HT_ ?_
    refine tk_ 7 22 (bm_ 15 2047) HT_ HW_ hHeld rfl (by rintro w' ⟨s0,s1,s2,s3,s4,s5,s6,s7,s8⟩;go_simp;with_reducible rfl) ?_
    refine tk_ 11 26 (bm_ 15 4095) HT_ HW_ hHeld rfl (by rintro w' ⟨s0,s1,s2,s3,s4,s5,s6,s7,s8⟩;go_simp;with_reducible rfl) ?_
    refine pu_ 12 27 (bm_ 15 8191) HT_ ?_
    refine pu_ 13 28 (bm_ 15 16383) HT_ ?_
    refine pu_ 14 29 (bm_ 15 32767) HT_ ?_
    refine done_ (done_of HT_.out (by kernel_rfl)) ?_
    obtain⟨hcz24_0,hcz24_1,hcz24_2,hcz24_3,hcz24_4,hcz24_5,hcz24_6,hcz24_7,hcz24_8,hfz24_0,hfz24_1,hfz24_2,hfz24_3,hfz24_4,hfz24_5,hfz24_6,hfz24_7,hfz24_8⟩:=cs56_ HI0
    try go_wp2_with (first|(go_at_call 21;(with_reducible refine(rule_fail_g.calls _ _ _ _ _ A21.out).mono ?_);rintro e w' ⟨rfl,hb⟩;exact And.intro rfl (And.intro rfl (below_step (bs56_ HB HI0) hb))))
   ·rw[if_neg c19] at H
    have c19b0:(t866==0)=false:=beq_eq_false_iff_ne.mpr c19
    have c19b1:(t866 !=0)=true:=bne_iff_ne.mpr c19
    replace H:=Option.bind_eq_some_iff.mp H
    obtain⟨⟨t878,t879⟩,A250,H⟩:=H
    dsimp only at H
    have A25:=Aside0.mk A250
    clear A250
    simp only[Option.some.injEq,Prod.mk.injEq] at H
    obtain⟨rfl,rfl⟩:=H
    try go_wp2
    replace HI0:=Aside0.mk (IsS56.drew HI0.out)
    replace HK:=Aside0.mk (keep_drew HK.out)
    replace HB:=Aside0.mk (below_drew1 HB.out)
    refine start_ (n:=15) (S:=fun w'=>True) (ds:=[]) #[false,false,false,false,false,false,false,false,false,false,false,false,false,false,false] (by kernel_rfl) rfl rfl trivial (fun hHeld=>?_);refine with_tabW rule_reader_rules_g.tab5 rule_reader_rules_g.bits5 (fun HT_ HW_=>?_)
    generalize wc.drew=w26 at HI0 HK HB hHeld ⊢
    refine pu_ 0 15 (bm_ 15 1) HT_ ?_
    refine one_ (i:=1) (N:=some 16) (bm_ 15 3) rfl rfl (one_of HT_.out (by kernel_rfl)) (by decide) (fun K hK=>?_)
    refine gs_ Tryd.func18 #[.pointer (some ⟨g,0,none⟩)] ?_
    with_reducible refine(rule_reader_peek.calls _ _ _ _ _ _ _ _ _ _ _ _ _ _ _ _ _ _ _ _ _ w0 _ ?side1 ?side2 A18.out).mono ?_
    (case side1=>exact is56_ HI0)
    (case side2=>exact bs56_ HB HI0)
    rintro e w27 ⟨rfl,hi,hb,hk⟩
    refine⟨_,rfl,?_⟩
    replace HK:=Aside0.mk (KeepBut.trans (kp_ HK) hk (.inl rfl))
    replace HB:=Aside0.mk (hb)
    replace HI0:=Aside0.mk (hi)
    (try clear hb)
    (try clear hb2)
    (try clear hk)
    (try clear hi)
    refine hK.out _ _ trivial (fun hHeld=>?_)
    clear hK K
    refine nm_ 16 ?_
    refine pu_ 2 17 (bm_ 15 7) HT_ ?_
    refine pu_ 3 18 (bm_ 15 15) HT_ ?_
    refine pn_ 4 19 (bm_ 15 31) HT_ ?_
    refine pn_ 5 20 (bm_ 15 63) HT_ ?_
    refine pn_ 6 21 (bm_ 15 127) HT_ ?_
    refine pn_ 7 22 (bm_ 15 255) HT_ ?_
    refine pn_ 8 23 (bm_ 15 511) HT_ ?_
    refine pn_ 9 24 (bm_ 15 1023) HT_ ?_
    refine pn_ 10 25 (bm_ 15 2047) HT_ ?_
    refine pn_ 11 26 (bm_ 15 4095) HT_ ?_
    refine pn_ 12 27 (bm_ 15 8191) HT_ ?_
    refine pn_ 13 28 (bm_ 15 16383) HT_ ?_
    refine pu_ 14 29 (bm_ 15 32767) HT_ ?_
    refine done_ (done_of HT_.out (by kernel_rfl)) ?_
    obtain⟨hcz28_0,hcz28_1,hcz28_2,hcz28_3,hcz28_4,hcz28_5,hcz28_6,hcz28_7,hcz28_8,hfz28_0,hfz28_1,hfz28_2,hfz28_3,hfz28_4,hfz28_5,hfz28_6,hfz28_7,hfz28_8⟩:=cs56_ HI0
    try go_wp2_with (first|(go_at_call 21;(with_reducible refine(rule_fail_g.calls _ _ _ _ _ A25.out).mono ?_);rintro e w' ⟨rfl,hb⟩;exact And.intro rfl (And.intro rfl (below_step (bs56_ HB HI0) hb))))

/-! ### rule_Parse: function 8 -/
def rule_Parse.f (k:Nat) (s:ByteArray):Option (List S32 × Int × Int):=if 4000<s.size then some ([],4,0) else orf_ ((rule_reader_rules_g.f k s 0 0 false false false false false false).bind fun t=>some ([],t.1,t.2)) ((rule_reader_rules.f k s 0 0 false false false false false false).bind fun t=>some (t.1,0,0))
set_option maxRecDepth 100000 in
set_option maxHeartbeats 1000000 in
theorem rule_Parse.catch (g2 g3 g4:Nat) (e at_:Int) (v2 v3 v4:Value) (w0 w:World) (hB:Below w0.heap.size w0 w)
    (h2:w.heap[g2]? = some (.cells #[v2] 24 (0,0))) (h3:w.heap[g3]? = some (.cells #[v3] 25 (0,0))) (h4:w.heap[g4]? = some (.cells #[v4] 3 (0,0)))
    (h23:g2≠g3) (h24:g2≠g4) (h34:g3≠g4) (hb2:w0.heap.size≤g2) (hb3:w0.heap.size≤g3) (hb4:w0.heap.size≤g4) :
    CallsD Tryd.prog 13 #[.pointer (some ⟨g2,0,none⟩),.pointer (some ⟨g3,0,none⟩),.pointer (some ⟨g4,0,none⟩)] (.panicking [{v:= .iface 52 (.agg #[.int .i64 e,.int .i64 at_]),recovered:=false}]) w fun en u' w' =>
      en= .returned (.tuple #[])∧settle u'= .returning∧w'.cell? ⟨g2,0,none⟩=some (.slice none 0 0)∧w'.cell? ⟨g3,0,none⟩=some (.int .i64 e)∧w'.cell? ⟨g4,0,none⟩=some (.int .i64 at_)∧Below w0.heap.size w0 w':=by
  have l2:=blk_lt h2
  have l3:=blk_lt h3
  have l4:=blk_lt h4
  refine callsD_of_wpS Tryd.func13 rfl fun c₀ cs hu=>?_
  apply wpS_seq
  apply wpS_region
  have hta:∀(v:Value) (W:World),(Instr.typeAssert (.iface 52 v) 20 52 true).run Tryd.prog W= .ok (.tuple #[v,.bool true]) W:=fun v W=>by rfl
  have huF:=Tryd.underlying52
  simp[wpOpsS,go_sem,recoverD,hu,Tryd.ntmps13,Exit.thenS,hta]
  apply wpS_seq
  apply wpS_region
  simp[wpOpsS,go_sem,Exit.thenS]
  rw[show(Array.replicate 12 undef:Array Value)= #[undef,undef,undef,undef,undef,undef,undef,undef,undef,undef,undef,undef] from rfl]
  simp only[List.setIfInBounds_toArray,List.set_cons_zero,List.set_cons_succ,List.append_toArray,List.cons_append,List.nil_append]
  refine wpS_cond (t:=true) (by rfl) ?_
  simp only[if_true]
  refine wpS_of_wp ?_
  have kf:=heap_alloc_new w (Obj.cells #[Value.int IntKind.i64 e,Value.int IntKind.i64 at_] 52)
  have k2:=blk_alloc h2 (Obj.cells #[Value.int IntKind.i64 e,Value.int IntKind.i64 at_] 52)
  have k3:=blk_alloc h3 (Obj.cells #[Value.int IntKind.i64 e,Value.int IntKind.i64 at_] 52)
  have k4:=blk_alloc h4 (Obj.cells #[Value.int IntKind.i64 e,Value.int IntKind.i64 at_] 52)
  have hBW:Below w0.heap.size w0 (w.alloc (Obj.cells #[Value.int IntKind.i64 e,Value.int IntKind.i64 at_] 52)):=below_alloc hB _
  generalize w.alloc (Obj.cells #[Value.int IntKind.i64 e,Value.int IntKind.i64 at_] 52)=W at kf k2 k3 k4 hBW ⊢
  have ng2:w.heap.size≠g2:=by omega
  have ng3:w.heap.size≠g3:=by omega
  have ng4:w.heap.size≠g4:=by omega
  generalize w.heap.size=gf at kf ng2 ng3 ng4 ⊢
  replace kf:=blk_drew kf
  replace k2:=blk_drew k2
  replace k3:=blk_drew k3
  replace k4:=blk_drew k4
  replace hBW:Below w0.heap.size w0 W.drew:=below_drew1 hBW
  have hf0:=blk_cell kf 0
  have hf1:=blk_cell kf 1
  have h23':=h23.symm
  have h24':=h24.symm
  have h34':=h34.symm
  refine start_ (n:=7) (S:=fun w'=>w'.cell? ⟨gf,0,none⟩=some (.int .i64 e)∧w'.cell? ⟨gf,1,none⟩=some (.int .i64 at_)) (ds:=[6]) #[false,false,false,false,false,false,false] (by kernel_rfl) rfl rfl ⟨hf0,hf1⟩ (fun hHeld=>?_)
  generalize W.drew=W2 at k2 k3 k4 kf hBW hHeld ⊢
  have c2:=blk_cell k2 0
  have c3:=blk_cell k3 0
  have c4:=blk_cell k4 0
  have f2:=blk_frozen k2 0
  have f3:=blk_frozen k3 0
  have f4:=blk_frozen k4 0
  refine pure_ (i:=0) (N:=some 11) (v:=?_) (a':=?_) #[true,false,false,false,false,false,false] rfl rfl (by kernel_rfl) (fun _ _ _ h=>h) (Or.inl ⟨by rfl,?_⟩) ?_ ?_
  rotate_left
  · intro w'
    go_simp
    with_reducible rfl
  rotate_left
  · simp only[Act.put,List.setIfInBounds_toArray,List.set_cons_zero,List.set_cons_succ,i64_w,i32_w]
    rfl
  refine pure_ (i:=2) (N:=some 13) (v:=?_) (a':=?_) #[true,false,true,false,false,false,false] rfl rfl (by kernel_rfl) (fun _ _ _ h=>h) (Or.inl ⟨by rfl,?_⟩) ?_ ?_
  rotate_left
  · intro w'
    go_simp
    with_reducible rfl
  rotate_left
  · simp only[Act.put,List.setIfInBounds_toArray,List.set_cons_zero,List.set_cons_succ,i64_w,i32_w]
    rfl
  refine take_ (i:=1) (N:=some 12) (v:=?_) (a':=?_) #[true,true,true,false,false,false,false] rfl rfl (by kernel_rfl) (fun _ _ _ h=>h) (Or.inl ⟨by rfl,?_⟩) hHeld ?_ ?_
  rotate_left
  · rintro w' ⟨s0,s1⟩
    go_simp
    with_reducible rfl
  rotate_left
  · simp only[Act.put,List.setIfInBounds_toArray,List.set_cons_zero,List.set_cons_succ,i64_w,i32_w]
    rfl
  refine take_ (i:=3) (N:=some 14) (v:=?_) (a':=?_) #[true,true,true,true,false,false,false] rfl rfl (by kernel_rfl) (fun _ _ _ h=>h) (Or.inl ⟨by rfl,?_⟩) hHeld ?_ ?_
  rotate_left
  · rintro w' ⟨s0,s1⟩
    go_simp
    with_reducible rfl
  rotate_left
  · simp only[Act.put,List.setIfInBounds_toArray,List.set_cons_zero,List.set_cons_succ,i64_w,i32_w]
    rfl
  refine one_ (i:=4) (N:=none) #[true,true,true,true,true,false,false] rfl rfl (by kernel_rfl) (by decide) (fun K hK=>?_)
  refine skip_ (w1:=?_) (by rfl) rfl ?_ ?_
  rotate_left
  · go_simp
    rfl
  refine hK.out _ _ ⟨(blk_cell (blk_far kf (by first|exact ng2|exact ng2.symm) _) 0),(blk_cell (blk_far kf (by first|exact ng2|exact ng2.symm) _) 1)⟩ (fun hHeld=>?_)
  clear hK K
  refine one_ (i:=5) (N:=none) #[true,true,true,true,true,true,false] rfl rfl (by kernel_rfl) (by decide) (fun K hK=>?_)
  refine skip_ (w1:=?_) (by rfl) rfl ?_ ?_
  rotate_left
  · go_simp
    rfl
  refine hK.out _ _ ⟨(blk_cell (blk_far (blk_far kf (by first|exact ng2|exact ng2.symm) _) (by first|exact ng3|exact ng3.symm) _) 0),(blk_cell (blk_far (blk_far kf (by first|exact ng2|exact ng2.symm) _) (by first|exact ng3|exact ng3.symm) _) 1)⟩ (fun hHeld=>?_)
  clear hK K
  refine last_ (i:=6) (N:=none) #[true,true,true,true,true,true,true] rfl rfl (by kernel_rfl) (by decide) (fun K hK=>?_)
  refine skip_ (w1:=?_) (by rfl) rfl ?_ ?_
  rotate_left
  · go_simp
    rfl
  refine hK.out _ _ ?_
  clear hK K
  refine done_ (by kernel_rfl) ?_
  have n_:∀ {x y:Nat},x≠y→x≠y:=fun h=>h
  refine⟨rfl,_,rfl,.tuple #[],by simp[go_sem,results,Tryd.results13] <;> rfl,rfl,rfl,?_,?_,?_,?_⟩
  · refine blk_cell (t:=24) (cs:= #[.slice none 0 0]) (blk_far (blk_far ?_ (by first|exact h23|exact h23') _) (by first|exact h24|exact h24') _) 0
    simpa using blk_set k2 0 (Value.slice none 0 0)
  · refine blk_cell (t:=25) (cs:= #[.int .i64 e]) (blk_far ?_ (by first|exact h34|exact h34') _) 0
    simpa using blk_set (blk_far k3 (by first|exact h23|exact h23') _) 0 (Value.int .i64 e)
  · refine blk_cell (t:=3) (cs:= #[.int .i64 at_]) ?_ 0
    simpa using blk_set (blk_far (blk_far k4 (by first|exact h24|exact h24') _) (by first|exact h34|exact h34') _) 0 (Value.int .i64 at_)
  · exact below_set (below_set (below_set hBW hb2) hb3) hb4
set_option maxRecDepth 100000 in
theorem rule_Parse.idle (p2 p3 p4:Addr) (w:World):CallsD Tryd.prog 13 #[.pointer (some p2),.pointer (some p3),.pointer (some p4)] .returning w fun e u' w' =>
    e= .returned (.tuple #[])∧u'= .returning∧Below w.heap.size w w':=by
  refine callsD_of_wpS Tryd.func13 rfl fun c₀ cs hu=>?_
  apply wpS_seq
  apply wpS_region
  have hta:∀(W:World),(Instr.typeAssert .nilIface 20 52 true).run Tryd.prog W= .ok (.tuple #[.agg #[.int .i64 0,.int .i64 0],.bool false]) W:=fun W=>by rfl
  simp[wpOpsS,go_sem,recoverD,hu,Tryd.ntmps13,Exit.thenS,hta]
  apply wpS_seq
  apply wpS_region
  simp[wpOpsS,go_sem,Exit.thenS]
  refine wpS_cond (t:=false) (by rfl) ?_
  simp only[Bool.false_eq_true,if_false]
  refine wpS_of_wp (wp_skip ?_)
  cases c₀
  simp_all [bodyPostS,results,Tryd.results13]
  exact below_alloc (Below.refl _ _) _

set_option maxHeartbeats 4000000 in
set_option maxRecDepth 100000 in
theorem rule_Parse.calls (k:Nat) (a0:ByteArray) (r1:List S32) (r2 r3:Int) (w:World) (h:rule_Parse.f k a0=some (r1,r2,r3)) :
    Calls Tryd.prog 8 #[.string a0] w fun e w'=>∃v0_:Value,e= .returned (.tuple #[v0_,.int .i64 r2,.int .i64 r3])∧Kd.N k32 32 w' w.heap.size (fun k_=>(w.heap.size≤k_)) v0_ r1∧Below w.heap.size w w':=by
  unfold rule_Parse.f at h
  have hmf:∀(fn:Fn) (first cap:Array Value) (w:World),(Instr.makeFunc fn first cap).run Tryd.prog w= .ok (.func fn first cap) w:=fun _ _ _ _=>rfl
  have hu61:=Tryd.underlying56
  by_cases hs:4000<a0.size
  · rw[if_pos hs] at h
    simp only[Option.some.injEq,Prod.mk.injEq] at h
    obtain⟨rfl,rfl,rfl⟩:=h
    have h1:decide (4000<(a0.size:Int))=true:=decide_eq_true (by omega)
    go_enter_defers Tryd.func8,Tryd.ntmps8
    go_wp2
    simp only[bodyPostD,Leaves,results,Tryd.results8]
    refine⟨_,by simp[go_sem] <;> rfl,_,rfl,Kd.N_nil _ _ _ _ _,below_alloc (below_alloc (below_alloc (Below.refl _ _) _) _) _⟩
  · rw[if_neg hs] at h
    rcases orf_or h with h|h
    · obtain⟨⟨t1,t2⟩,hr,h⟩:=Option.bind_eq_some_iff.mp h
      replace h:some (([]:List S32),t1,t2)=some (r1,r2,r3):=h
      simp only[Option.some.injEq,Prod.mk.injEq] at h
      obtain⟨rfl,rfl,rfl⟩:=h
      have h1:decide (4000<(a0.size:Int))=false:=decide_eq_false (by omega)
      generalize hW3:((w.alloc (Obj.cells #[Value.slice none 0 0] 24)).alloc (Obj.cells #[Value.int IntKind.i64 0] 25)).alloc (Obj.cells #[Value.int IntKind.i64 0] 3)=W3
      have hB3:Below w.heap.size w W3:=by subst hW3;exact below_alloc (below_alloc (below_alloc (Below.refl _ _) _) _) _
      have hb2:W3.heap[w.heap.size]? = some (.cells #[Value.slice none 0 0] 24 (0,0)):=by
        subst hW3;exact blk_alloc (blk_alloc (heap_alloc_new w _) _) _
      have hb3:W3.heap[w.heap.size+1]? = some (.cells #[Value.int IntKind.i64 0] 25 (0,0)):=by
        subst hW3;refine blk_alloc ?_ _
        have:=heap_alloc_new (w.alloc (Obj.cells #[Value.slice none 0 0] 24)) (Obj.cells #[Value.int IntKind.i64 0] 25)
        simpa using this
      have hb4:W3.heap[w.heap.size+1+1]? = some (.cells #[Value.int IntKind.i64 0] 3 (0,0)):=by
        subst hW3
        have:=heap_alloc_new ((w.alloc (Obj.cells #[Value.slice none 0 0] 24)).alloc (Obj.cells #[Value.int IntKind.i64 0] 25)) (Obj.cells #[Value.int IntKind.i64 0] 3)
        simpa using this
      have hsz:W3.heap.size=w.heap.size+3:=by subst hW3;simp
      have A:=Aside0.mk hr
      have hW3':=Aside0.mk hW3
      clear hr hW3
      go_enter_defers Tryd.func8,Tryd.ntmps8
      go_wp2_with (first|((with_reducible refine gate_dst (N:=11) rfl ?_);rw[hW3'.out];refine be_ 11 #[.string a0,.int .i64 0,.int .i64 0,.bool false,.bool false,.bool false,.bool false,.bool false,.bool false] 56 ?_;intro gb hg w5 hbox hb;have hI:IsS56 W3 w5 gb a0 0 0 false false false false false false:=⟨hbox,by omega⟩;have hB5:Below W3.heap.size W3 w5:=hb;rw[hsz] at hg;subst hg))
      refine(rule_reader_rules_g.calls k _ a0 0 0 false false false false false false _ _ W3 w5 hI hB5 A.out).mono ?_
      rintro e w6 ⟨rfl,hb6⟩
      refine leaves_cons (f:=13) (args:= #[.pointer (some ⟨w.heap.size,0,none⟩),.pointer (some ⟨w.heap.size+1,0,none⟩),.pointer (some ⟨w.heap.size+1+1,0,none⟩)]) (by simp) (by simp[go_sem]) ?_
      refine(rule_Parse.catch _ _ _ t1 t2 _ _ _ w w6 (hB3.trans (hb6.mono (by omega))) (blk_below hb2 hb6) (blk_below hb3 hb6) (blk_below hb4 hb6) (by omega) (by omega) (by omega) (by omega) (by omega) (by omega)).mono ?_
      rintro e u' w8 ⟨rfl,hu8,i2,i3,i4,hb8⟩
      show Leaves _ _ _ _ [] (settle u') w8
      rw[hu8]
      simp only[Leaves,results,Tryd.results8]
      refine⟨_,by simp[go_sem,i2,i3,i4] <;> rfl,_,rfl,Kd.N_nil _ _ _ _ _,hb8⟩
    obtain⟨⟨t1,t2,t3,t4,t5,t6,t7,t8,t9,t10⟩,hr,h⟩:=Option.bind_eq_some_iff.mp h
    replace h:some (t1,(0:Int),(0:Int))=some (r1,r2,r3):=h
    simp only[Option.some.injEq,Prod.mk.injEq] at h
    obtain⟨rfl,rfl,rfl⟩:=h
    have h1:decide (4000<(a0.size:Int))=false:=decide_eq_false (by omega)
    generalize hW3:((w.alloc (Obj.cells #[Value.slice none 0 0] 24)).alloc (Obj.cells #[Value.int IntKind.i64 0] 25)).alloc (Obj.cells #[Value.int IntKind.i64 0] 3)=W3
    have hB3:Below w.heap.size w W3:=by subst hW3;exact below_alloc (below_alloc (below_alloc (Below.refl _ _) _) _) _
    have hb2:W3.heap[w.heap.size]? = some (.cells #[Value.slice none 0 0] 24 (0,0)):=by
      subst hW3;exact blk_alloc (blk_alloc (heap_alloc_new w _) _) _
    have hb3:W3.heap[w.heap.size+1]? = some (.cells #[Value.int IntKind.i64 0] 25 (0,0)):=by
      subst hW3;refine blk_alloc ?_ _
      have:=heap_alloc_new (w.alloc (Obj.cells #[Value.slice none 0 0] 24)) (Obj.cells #[Value.int IntKind.i64 0] 25)
      simpa using this
    have hb4:W3.heap[w.heap.size+1+1]? = some (.cells #[Value.int IntKind.i64 0] 3 (0,0)):=by
      subst hW3
      have:=heap_alloc_new ((w.alloc (Obj.cells #[Value.slice none 0 0] 24)).alloc (Obj.cells #[Value.int IntKind.i64 0] 25)) (Obj.cells #[Value.int IntKind.i64 0] 3)
      simpa using this
    have hsz:W3.heap.size=w.heap.size+3:=by subst hW3;simp
    have A:=Aside0.mk hr
    have hW3':=Aside0.mk hW3
    clear hr hW3
    go_enter_defers Tryd.func8,Tryd.ntmps8
    go_wp2_with (first|((with_reducible refine gate_dst (N:=11) rfl ?_);rw[hW3'.out];refine be_ 11 #[.string a0,.int .i64 0,.int .i64 0,.bool false,.bool false,.bool false,.bool false,.bool false,.bool false] 56 ?_;intro gb hg w5 hbox hb;have hI:IsS56 W3 w5 gb a0 0 0 false false false false false false:=⟨hbox,by omega⟩;have hB5:Below W3.heap.size W3 w5:=hb;rw[hsz] at hg;subst hg))
    refine(rule_reader_rules.calls k _ a0 0 0 false false false false false false _ _ _ _ _ _ _ _ _ _ W3 w5 hI hB5 A.out).mono ?_
    rintro e w6 ⟨v0,rfl,ho,hi,hb6,hk⟩
    obtain⟨A0,c0,rfl⟩:=Kd.N_slice ho
    have hc2:w6.heap[w.heap.size]? = some (.cells #[Value.slice none 0 0] 24 (0,0)):=blk_below hb2 hb6
    have hc3:w6.heap[w.heap.size+1]? = some (.cells #[Value.int IntKind.i64 0] 25 (0,0)):=blk_below hb3 hb6
    have hc4:w6.heap[w.heap.size+1+1]? = some (.cells #[Value.int IntKind.i64 0] 3 (0,0)):=blk_below hb4 hb6
    have e2:=blk_cell hc2 0
    have e3:=blk_cell hc3 0
    have e4:=blk_cell hc4 0
    have f2:=blk_frozen hc2 0
    have f3:=blk_frozen hc3 0
    have f4:=blk_frozen hc4 0
    go_wp2
    generalize hW7:(((w6.setCell ⟨w.heap.size,0,none⟩ (Value.slice A0 t1.length c0)).setCell ⟨w.heap.size+1,0,none⟩ (Value.int IntKind.i64 0)).setCell ⟨w.heap.size+1+1,0,none⟩ (Value.int IntKind.i64 0))=w7
    have hB7:Below w.heap.size w w7:=by
      subst hW7
      exact below_set (below_set (below_set (Below.trans hB3 (hb6.mono (by omega))) (Nat.le_refl _)) (by simp)) (by omega)
    have hN7:Kd.N k32 32 w7 w.heap.size (fun k_=>(w.heap.size≤k_)) (.slice A0 t1.length c0) t1:=by
      subst hW7
      have hz:=hB5.size
      exact Kd.N_lower (Kd.N_mono (Kd.N_far (Kd.N_far (Kd.N_far ho (fun k hk=>by simp;omega) _) (fun k hk=>by simp;omega) _) (fun k hk=>by simp;omega) _) (fun k hk=>by omega)) (by omega)
    have g2:w7.heap[w.heap.size]? = some (.cells #[Value.slice A0 t1.length c0] 24 (0,0)):=by
      subst hW7
      refine blk_far (blk_far ?_ (by simp) _) (by simp;omega) _
      simpa using blk_set hc2 0 (Value.slice A0 t1.length c0)
    have g3:w7.heap[w.heap.size+1]? = some (.cells #[Value.int IntKind.i64 0] 25 (0,0)):=by
      subst hW7
      refine blk_far ?_ (by simp) _
      simpa using blk_set (blk_far hc3 (by simp) _) 0 (Value.int IntKind.i64 0)
    have g4:w7.heap[w.heap.size+1+1]? = some (.cells #[Value.int IntKind.i64 0] 3 (0,0)):=by
      subst hW7
      simpa using blk_set (blk_far (blk_far hc4 (by simp;omega) _) (by simp) _) 0 (Value.int IntKind.i64 0)
    simp only[bodyPostD]
    refine leaves_cons (f:=13) (args:= #[.pointer (some ⟨w.heap.size,0,none⟩),.pointer (some ⟨w.heap.size+1,0,none⟩),.pointer (some ⟨w.heap.size+1+1,0,none⟩)]) (by simp) (by simp[go_sem]) ?_
    refine(rule_Parse.idle _ _ _ _).mono ?_
    rintro e u' w8 ⟨rfl,rfl,hb8⟩
    have i2:=blk_cell (blk_below g2 hb8) 0
    have i3:=blk_cell (blk_below g3 hb8) 0
    have i4:=blk_cell (blk_below g4 hb8) 0
    simp only[settle,Leaves,results,Tryd.results8]
    refine⟨_,by simp[go_sem,i2,i3,i4] <;> rfl,_,rfl,Kd.N_below hN7 hb8,hB7.trans (hb8.mono hB7.size)⟩

/-! ### strings_Join: function 16 -/
def strings_Join.f (l0:List ByteArray) (a1:ByteArray):Option ByteArray:=if l0.length≤1000000∧(Lib.join (l0.map (·.data.toList)) a1.data.toList).length≤140737488355328 then some ⟨(Lib.join (l0.map (·.data.toList)) a1.data.toList).toArray⟩ else none
theorem strings_Join.calls (A0:Option Addr) (c0:Nat) (l0:List ByteArray) (a1:ByteArray) (r:ByteArray) (w:World) (hr0:Kd.C Kd.string w A0 l0.length l0) (hc0:l0.length≤c0) (h:strings_Join.f l0 a1=some r) :
    Calls Tryd.prog 16 #[.slice A0 l0.length c0,.string a1] w fun e w'=>e= .returned (.string r)∧Below w.heap.size w w':=by
  unfold strings_Join.f at h
  split at h
  case isFalse=>cases h
  rename_i hc
  obtain⟨hn,hj⟩:=hc
  have h:=Option.some.inj h
  subst h
  by_cases hz:l0.length=0
  · obtain rfl:=List.eq_nil_of_length_eq_zero hz
    refine(Tryd.strings_Join_none A0 c0 a1 w).mono ?_
    rintro e w' ⟨rfl,rfl⟩
    exact⟨rfl,Below.refl _ _⟩
  · obtain⟨ad,rfl,hcell⟩:=hr0.2.2 (by omega)
    have hx:∀(j:Nat) x,l0[j]? = some x→w.cell? (ad.add j)=some (.string x):=by
      intro j x hx
      obtain⟨c,hl,hk,hu⟩:=hcell j x hx
      have hk':c=[.string x]:=hk
      have:=hu 0 (.string x) (by rw[hk'];rfl)
      have e1:(Kd.string).sz=1:=rfl
      rw[e1,Nat.mul_one,Nat.add_zero] at this
      exact this
    have h0:=hx 0 l0[0] (List.getElem?_eq_getElem (by omega))
    have e0:ad.add 0=ad:=by simp[Addr.add]
    rw[e0] at h0
    obtain⟨bk,o,sp⟩:=ad
    have hsp:sp=none:=by
      cases sp with
      | none=>rfl
      | some q =>
        exfalso
        unfold World.cell? at h0
        dsimp only at h0
        split at h0
        · simp at h0
        · cases h0
    subst hsp
    refine Tryd.strings_Join bk o c0 l0 a1 w ?_ (World.block_lt_of_cell? _ _ h0) (by omega) hc0 hj
    intro j x hjx
    have:=hx j x hjx
    by_cases hj0:j=0
    · subst hj0
      rw[e0] at this
      exact this
    · simp only[Addr.add,if_neg hj0] at this
      exact this

/-! ### strconv_Itoa: function 33 -/
def strconv_Itoa.f (n:Int):Option ByteArray:=if -9223372036854775808≤n∧n≤9223372036854775807 then some ⟨(Lib.itoa n).toArray⟩ else none
theorem strconv_Itoa.calls (a0:Int) (r:ByteArray) (w:World) (h:strconv_Itoa.f a0=some r) (ht:Lib.TabIs Tryd.prog w "internal/strconv.uint64pow10" .u64 Lib.pow10Tab:=by first|assumption|exact tb_ (by assumption) (bl_ (by assumption)).out) :
    Calls Tryd.prog 33 #[.int .i64 a0] w fun e w'=>e= .returned (.string r)∧Below w.heap.size w w':=by
  unfold strconv_Itoa.f at h
  split at h
  · rename_i hc
    obtain rfl:=Option.some.inj h
    refine(Tryd.strconv_Itoa a0 hc.1 hc.2 w ht).mono ?_
    rintro e w' ⟨rfl,k,os,rfl⟩
    exact⟨rfl,Lib.below_grow w.heap.size w (Nat.le_refl _) k os⟩
  · cases h

/-! ### rule_Range_String: function 34 -/
def rule_Range_String.f (a0_0:Int) (a0_1:Int):Option (ByteArray):=if a0_0=a0_1 then ((strconv_Itoa.f a0_0).bind fun t881=>(some t881)) else ((strconv_Itoa.f a0_0).bind fun t882=>(if t882.size+2≤9223372036854775807 then ((strconv_Itoa.f a0_1).bind fun t883=>(if (t882++(⟨#[46,46]⟩:ByteArray)).size+t883.size≤9223372036854775807 then (some ((t882++(⟨#[46,46]⟩:ByteArray))++t883)) else (none))) else (none)))
def rule_Range_String.T3:Bool × List (List Nat × List Nat):=(true,[([],[]),([0],[0]),([1],[1]),([2],[2]),([],[]),([4],[4]),([5,2],[5]),([3,6],[3,6]),([7,6,0,1,2,3,4,5,6,7],[7])])
def rule_Range_String.B3:List Nat:=[0,1,3,7,0,16,55,127,255]
theorem rule_Range_String.tab3:rtab .any (opsOf Tryd.f34 3)=rule_Range_String.T3:=by kernel_rfl
theorem rule_Range_String.bits3:waitsOk rule_Range_String.T3.2 rule_Range_String.B3=true:=by kernel_rfl
set_option maxHeartbeats 64000000 in
set_option maxRecDepth 100000 in
theorem rule_Range_String.calls (a0_0:Int) (a0_1:Int) (r:ByteArray) (w:World) (h:rule_Range_String.f a0_0 a0_1=some r) (ht:Lib.TabIs Tryd.prog w "internal/strconv.uint64pow10" .u64 Lib.pow10Tab:=by first|assumption|exact tb_ (by assumption) (bl_ (by assumption)).out) :
  Calls Tryd.prog 34 #[.agg #[.int .i64 a0_0,.int .i64 a0_1]] w fun e w'=>e= .returned (.string r)∧Below w.heap.size w w':=by
 have hu38:=Tryd.underlying38
 have HB:=Aside0.mk (Below.refl w.heap.size w)
 have H:(if a0_0=a0_1 then ((strconv_Itoa.f a0_0).bind fun t881=>(some t881)) else ((strconv_Itoa.f a0_0).bind fun t882=>(if t882.size+2≤9223372036854775807 then ((strconv_Itoa.f a0_1).bind fun t883=>(if (t882++(⟨#[46,46]⟩:ByteArray)).size+t883.size≤9223372036854775807 then (some ((t882++(⟨#[46,46]⟩:ByteArray))++t883)) else (none))) else (none))))=some r:=h
 clear h
 by_cases c2:a0_0=a0_1
 ·rw[if_pos c2] at H
  have c2b0:(a0_0==a0_1)=true:=beq_iff_eq.mpr c2
  have c2b1:(a0_0 !=a0_1)=false:=bne_eq_false_iff_eq.mpr c2
  clear c2
  replace H:=Option.bind_eq_some_iff.mp H
  obtain⟨t881,A30,H⟩:=H
  have A3:=Aside0.mk A30
  clear A30
  obtain rfl:=Option.some.inj H
  go_enter Tryd.func34,Tryd.ntmps34
  go_wp2_with (first|((with_reducible refine gate_dst (N:=1) rfl ?_);refine be_ 1 #[.int .i64 a0_0,.int .i64 a0_1] 38 ?_;intro gb880 hg w4 hbox hb;have BK880:=Aside0.mk (hbox);have GW880:=sz_ HB hg;have GE880:=sz_ HB hg;replace HB:=Aside0.mk (below_step (bl_ HB).out hb);clear hb hbox hg;obtain⟨hcz5_0,hcz5_1,hfz5_0,hfz5_1⟩:=bo2_ BK880)|((with_reducible refine gate_callee (f:=33) rfl ?_);refine gl_ (some 10) Tryd.func33 #[.int .i64 a0_0] ?_;(with_reducible refine(strconv_Itoa.calls _ _ _ A3.out).mono ?_);rintro e w6 ⟨rfl,hb⟩;refine⟨_,rfl,?_⟩;replace BK880:=bb_ BK880 hb;replace HB:=Aside0.mk (below_step (bl_ HB).out hb);(try clear hb);(try clear hi)))
  go_ret
  exact⟨ew_,(bl_ HB).out⟩
 ·rw[if_neg c2] at H
  have c2b0:(a0_0==a0_1)=false:=beq_eq_false_iff_ne.mpr c2
  have c2b1:(a0_0 !=a0_1)=true:=bne_iff_ne.mpr c2
  replace H:=Option.bind_eq_some_iff.mp H
  obtain⟨t882,A70,H⟩:=H
  have A7:=Aside0.mk A70
  clear A70
  replace H:=ifn_ H
  obtain⟨c8,H⟩:=H
  have c8b0:=eq_true c8
  have c8b1:decide (t882.size+2≤9223372036854775807)=true:=decide_eq_true c8
  try have c8b2:=eq_false (Nat.not_lt.2 c8)
  replace H:=Option.bind_eq_some_iff.mp H
  obtain⟨t883,A90,H⟩:=H
  have A9:=Aside0.mk A90
  clear A90
  replace H:=ifn_ H
  obtain⟨c10,H⟩:=H
  have c10b0:=eq_true c10
  have c10b1:decide ((t882++(⟨#[46,46]⟩:ByteArray)).size+t883.size≤9223372036854775807)=true:=decide_eq_true c10
  try (have c10b5:=c10b0;simp only[ByteArray.size_append,Int.natCast_add] at c10b5)
  try have c10b2:=eq_false (Nat.not_lt.2 c10)
  try have c10b3:(9223372036854775807<t882.size+2+t883.size)=False:=eq_false (Nat.not_lt.2 (by have h_:=c10;simp only[ByteArray.size_append] at h_;exact h_))
  try have c10b4:(t882.size+2+t883.size≤9223372036854775807)=True:=eq_true (by have h_:=c10;simp only[ByteArray.size_append] at h_;exact h_)
  obtain rfl:=Option.some.inj H
  go_enter Tryd.func34,Tryd.ntmps34
  try go_wp2_with (first|((with_reducible refine gate_dst (N:=1) rfl ?_);refine be_ 1 #[.int .i64 a0_0,.int .i64 a0_1] 38 ?_;intro gb880 hg w11 hbox hb;have BK880:=Aside0.mk (hbox);have GW880:=sz_ HB hg;have GE880:=sz_ HB hg;replace HB:=Aside0.mk (below_step (bl_ HB).out hb);clear hb hbox hg;obtain⟨hcz12_0,hcz12_1,hfz12_0,hfz12_1⟩:=bo2_ BK880))
  replace BK880:=Aside0.mk (blk_drew BK880.out)
  replace HB:=Aside0.mk (below_drew1 HB.out)
  refine start_ (n:=9) (S:=fun w'=>w'.cell? ⟨gb880,0,none⟩=some (.int .i64 a0_0)∧w'.cell? ⟨gb880,1,none⟩=some (.int .i64 a0_1)) (ds:=[]) #[false,false,false,false,false,false,false,false,false] (by kernel_rfl) rfl rfl ⟨bc_ BK880 0,bc_ BK880 1⟩ (fun hHeld=>?_);refine with_tabW rule_Range_String.tab3 rule_Range_String.bits3 (fun HT_ HW_=>?_)
  generalize w11.drew=w13 at BK880 HB hHeld ⊢
  refine pu_ 0 11 #[true,false,false,false,false,false,false,false,false] HT_ ?_
  refine pu_ 4 15 #[true,false,false,false,true,false,false,false,false] HT_ ?_
  refine tk_ 1 12 #[true,true,false,false,true,false,false,false,false] HT_ HW_ hHeld rfl (by rintro w' ⟨s0,s1⟩;go_simp;with_reducible rfl) ?_
  refine tk_ 5 16 #[true,true,false,false,true,true,false,false,false] HT_ HW_ hHeld rfl (by rintro w' ⟨s0,s1⟩;go_simp;with_reducible rfl) ?_
  refine one_ (i:=2) (N:=some 13) #[true,true,true,false,true,true,false,false,false] rfl rfl (one_of HT_.out (by kernel_rfl)) (by decide) (fun K hK=>?_)
  refine gs_ Tryd.func33 #[.int .i64 a0_0] ?_
  with_reducible refine(strconv_Itoa.calls _ _ _ A7.out).mono ?_
  rintro e w14 ⟨rfl,hb⟩
  refine⟨_,rfl,?_⟩
  replace BK880:=bb_ BK880 hb
  replace HB:=Aside0.mk (below_step (bl_ HB).out hb)
  (try clear hb)
  (try clear hb2)
  (try clear hk)
  (try clear hi)
  refine hK.out _ _ ⟨bc_ BK880 0,bc_ BK880 1⟩ (fun hHeld=>?_)
  clear hK K
  refine nm_ 13 ?_
  refine pu_ 3 14 #[true,true,true,true,true,true,false,false,false] HT_ ?_
  refine one_ (i:=6) (N:=some 17) #[true,true,true,true,true,true,true,false,false] rfl rfl (one_of HT_.out (by kernel_rfl)) (by decide) (fun K hK=>?_)
  refine gs_ Tryd.func33 #[.int .i64 a0_1] ?_
  with_reducible refine(strconv_Itoa.calls _ _ _ A9.out).mono ?_
  rintro e w15 ⟨rfl,hb⟩
  refine⟨_,rfl,?_⟩
  replace BK880:=bb_ BK880 hb
  replace HB:=Aside0.mk (below_step (bl_ HB).out hb)
  (try clear hb)
  (try clear hb2)
  (try clear hk)
  (try clear hi)
  refine hK.out _ _ ⟨bc_ BK880 0,bc_ BK880 1⟩ (fun hHeld=>?_)
  clear hK K
  refine nm_ 17 ?_
  refine pu_ 7 18 #[true,true,true,true,true,true,true,true,false] HT_ ?_
  refine pu_ 8 2 #[true,true,true,true,true,true,true,true,true] HT_ ?_
  refine done_ (done_of HT_.out (by kernel_rfl)) ?_
  try go_wp2
  go_ret
  exact⟨ew_,(bl_ HB).out⟩

/-! ### rule_Rel_String: function 22 -/
mutual
def rule_Rel_String.j0:Nat→ByteArray→Int→Int→Bool→List (S38)→Option (ByteArray)
 | 0,_,_,_,_,_=>none
 | k+1,x3,x885000,x885001,x885002,x885003=>if x885002=true then (rule_Rel_String.j1 k x3 (⟨#[32,33,61,32]⟩:ByteArray) x885000 x885001 x885002 x885003) else (rule_Rel_String.j1 k x3 (⟨#[32,61,32]⟩:ByteArray) x885000 x885001 x885002 x885003)
def rule_Rel_String.j1:Nat→ByteArray→ByteArray→Int→Int→Bool→List (S38)→Option (ByteArray)
 | 0,_,_,_,_,_,_=>none
 | k+1,x3,x4,x885000,x885001,x885002,x885003=>rule_Rel_String.l0 k x3 x4 ([]:List ByteArray) x885003 (x885003.length:Int) 0
def rule_Rel_String.l0:Nat→ByteArray→ByteArray→List ByteArray→List (S38)→Int→Int→Option (ByteArray)
 | 0,_,_,_,_,_,_=>none
 | k+1,x3,x4,x5,x24,x25,x26=>if x26<x25 then (if 0≤x26 then (if x26<(x24.length:Int) then ((rule_Range_String.f ((rd_T38 x24 x26).f0) ((rd_T38 x24 x26).f1)).bind fun t888=>(if x5.length<8796093022208 then (rule_Rel_String.l0 k x3 x4 (x5++[t888]) x24 x25 (wrap64 (x26+1))) else (none))) else (none)) else (none)) else (if x3.size+x4.size≤9223372036854775807 then ((strings_Join.f x5 (⟨#[44]⟩:ByteArray)).bind fun t892=>(if (x3++x4).size+t892.size≤9223372036854775807 then (some ((x3++x4)++t892)) else (none))) else (none))
end
def rule_Rel_String.f (k:Nat) (a0_0:Int) (a0_1:Int) (a0_2:Bool) (l0_3:List (S38)):Option (ByteArray):=if a0_1=0 then (rule_Rel_String.j0 k (Utf8.encode (wrap32 (a0_0))) a0_0 a0_1 a0_2 l0_3) else ((strconv_Itoa.f a0_1).bind fun t885=>(if 3+t885.size≤9223372036854775807 then (if (Utf8.encode (wrap32 (a0_0))).size+((⟨#[32,37,32]⟩:ByteArray)++t885).size≤9223372036854775807 then (rule_Rel_String.j0 k ((Utf8.encode (wrap32 (a0_0)))++((⟨#[32,37,32]⟩:ByteArray)++t885)) a0_0 a0_1 a0_2 l0_3) else (none)) else (none)))
set_option maxHeartbeats 64000000 in
set_option maxRecDepth 100000 in
theorem rule_Rel_String.calls (k:Nat) (a0_0:Int) (a0_1:Int) (a0_2:Bool) (A0_3:Option Addr) (c0_3:Nat) (l0_3:List (S38)) (r:ByteArray) (w:World) (hr0_3:Kd.C k38 w A0_3 l0_3.length l0_3) (hc0_3:l0_3.length≤c0_3) (h:rule_Rel_String.f k a0_0 a0_1 a0_2 l0_3=some r) (ht:Lib.TabIs Tryd.prog w "internal/strconv.uint64pow10" .u64 Lib.pow10Tab:=by first|assumption|exact tb_ (by assumption) (bl_ (by assumption)).out) :
  Calls Tryd.prog 22 #[.agg #[.int .u8 a0_0,.int .i64 a0_1,.bool a0_2,.slice A0_3 l0_3.length c0_3]] w fun e w'=>e= .returned (.string r)∧Below w.heap.size w w':=by
 have hu36:=Tryd.underlying36
 have hu38:=Tryd.underlying38
 have HR0_3:=Aside0.mk hr0_3
 have HC0_3:=Aside0.mk hc0_3
 clear hr0_3 hc0_3
 have HB:=Aside0.mk (Below.refl w.heap.size w)
 have H:(if a0_1=0 then (rule_Rel_String.j0 k (Utf8.encode (wrap32 (a0_0))) a0_0 a0_1 a0_2 l0_3) else ((strconv_Itoa.f a0_1).bind fun t885=>(if 3+t885.size≤9223372036854775807 then (if (Utf8.encode (wrap32 (a0_0))).size+((⟨#[32,37,32]⟩:ByteArray)++t885).size≤9223372036854775807 then (rule_Rel_String.j0 k ((Utf8.encode (wrap32 (a0_0)))++((⟨#[32,37,32]⟩:ByteArray)++t885)) a0_0 a0_1 a0_2 l0_3) else (none)) else (none))))=some r:=h
 clear h
 have HC2:=Aside0.mk H
 clear H
 go_enter Tryd.func22,Tryd.ntmps22
 go_upto_if 14 with (first|((with_reducible refine gate_dst (N:=1) rfl ?_);refine be_ 1 #[.int .u8 a0_0,.int .i64 a0_1,.bool a0_2,.slice A0_3 l0_3.length c0_3] 36 ?_;intro gb884 hg w3 hbox hb;have BK884:=Aside0.mk (hbox);have GW884:=sz_ HB hg;have GE884:=sz_ HB hg;replace HB:=Aside0.mk (below_step (bl_ HB).out hb);clear hb hbox hg;obtain⟨hcz4_0,hcz4_1,hcz4_2,hcz4_3,hfz4_0,hfz4_1,hfz4_2,hfz4_3⟩:=bo4_ BK884))
 (try simp only[Act.put,List.setIfInBounds_toArray,List.set_cons_zero,List.set_cons_succ])
 go_cut [3] (fun v3 wc=>∃(kq:Nat) (x3_1:ByteArray),v3= .string x3_1∧Aside0 (rule_Rel_String.j0 kq x3_1 a0_0 a0_1 a0_2 l0_3=some r)∧Aside0 (kq≤k)∧Aside0 (wc.heap[gb884]? = some (.cells #[.int .u8 a0_0,.int .i64 a0_1,.bool a0_2,(.slice A0_3 l0_3.length c0_3)] 36 (0,0)))∧Aside0 (Below w.heap.size w wc))
 case first =>
  have H:=HC2.out
  clear HC2
  by_cases c5:a0_1=0
  ·rw[if_pos c5] at H
   have c5b0:(a0_1==0)=true:=beq_iff_eq.mpr c5
   have c5b1:(a0_1 !=0)=false:=bne_eq_false_iff_eq.mpr c5
   clear c5
   (first|rw[c5b0]|(simp only[i64_w,i32_w];rw[c5b0])|skip)
   have H':=Aside0.mk H
   clear H
   go_wp2
   go_meet
   case rel=>exact⟨_,(Utf8.encode (wrap32 (a0_0))),eq_,H',⟨by first|omega|exact Nat.le_refl _⟩,(bk_ BK884),(bl_ HB)⟩
  ·rw[if_neg c5] at H
   have c5b0:(a0_1==0)=false:=beq_eq_false_iff_ne.mpr c5
   have c5b1:(a0_1 !=0)=true:=bne_iff_ne.mpr c5
   (first|rw[c5b0]|(simp only[i64_w,i32_w];rw[c5b0])|skip)
   replace H:=Option.bind_eq_some_iff.mp H
   obtain⟨t885,A60,H⟩:=H
   have A6:=Aside0.mk A60
   clear A60
   replace H:=ifn_ H
   obtain⟨c7,H⟩:=H
   have c7b0:=eq_true c7
   have c7b1:decide (3+t885.size≤9223372036854775807)=true:=decide_eq_true c7
   try have c7b2:=eq_false (Nat.not_lt.2 c7)
   replace H:=ifn_ H
   obtain⟨c8,H⟩:=H
   have c8b0:=eq_true c8
   have c8b1:decide ((Utf8.encode (wrap32 (a0_0))).size+((⟨#[32,37,32]⟩:ByteArray)++t885).size≤9223372036854775807)=true:=decide_eq_true c8
   try (have c8b5:=c8b0;simp only[ByteArray.size_append,Int.natCast_add] at c8b5)
   try have c8b2:=eq_false (Nat.not_lt.2 c8)
   try have c8b3:(9223372036854775807<(Utf8.encode (wrap32 (a0_0))).size+3+t885.size)=False:=eq_false (Nat.not_lt.2 (by have h_:=c8;simp only[ByteArray.size_append] at h_;exact h_))
   try have c8b4:((Utf8.encode (wrap32 (a0_0))).size+3+t885.size≤9223372036854775807)=True:=eq_true (by have h_:=c8;simp only[ByteArray.size_append] at h_;exact h_)
   have H':=Aside0.mk H
   clear H
   obtain⟨hcz9_0,hcz9_1,hcz9_2,hcz9_3,hfz9_0,hfz9_1,hfz9_2,hfz9_3⟩:=bo4_ BK884
   go_wp2_with (first|((with_reducible refine gate_callee (f:=33) rfl ?_);refine gl_ (some 18) Tryd.func33 #[.int .i64 a0_1] ?_;(with_reducible refine(strconv_Itoa.calls _ _ _ A6.out).mono ?_);rintro e w10 ⟨rfl,hb⟩;refine⟨_,rfl,?_⟩;replace BK884:=bb_ BK884 hb;replace HB:=Aside0.mk (below_step (bl_ HB).out hb);(try clear hb);(try clear hi)))
   go_meet
   case rel=>exact⟨_,((Utf8.encode (wrap32 (a0_0)))++((⟨#[32,37,32]⟩:ByteArray)++t885)),eq_,H',⟨by first|omega|exact Nat.le_refl _⟩,(bk_ BK884),(bl_ HB)⟩
 case rest =>
  clear HC2
  obtain⟨kq,x3_1,rfl,HA,HJ1,BK884,HB⟩:=hcut
  cases kq with
  | zero=>exact absurd HA.out (by simp[rule_Rel_String.j0])
  | succ kj1 =>
   have H:=HA.out
   clear HA
   simp only[rule_Rel_String.j0] at H
   have HC11:=Aside0.mk H
   clear H
   obtain⟨hcz12_0,hcz12_1,hcz12_2,hcz12_3,hfz12_0,hfz12_1,hfz12_2,hfz12_3⟩:=bo4_ BK884
   go_upto_if 22 with (fail)
   go_cut [4] (fun v4 wc=>∃(kq:Nat) (x4_10:ByteArray),v4= .string x4_10∧Aside0 (rule_Rel_String.j1 kq x3_1 x4_10 a0_0 a0_1 a0_2 l0_3=some r)∧Aside0 (kq≤kj1)∧Aside0 (wc.heap[gb884]? = some (.cells #[.int .u8 a0_0,.int .i64 a0_1,.bool a0_2,(.slice A0_3 l0_3.length c0_3)] 36 (0,0)))∧Aside0 (Below w.heap.size w wc))
   case first =>
    have H:=HC11.out
    clear HC11
    by_cases c13:a0_2=true
    ·subst c13
     have H1:(rule_Rel_String.j1 kj1 x3_1 (⟨#[32,33,61,32]⟩:ByteArray) a0_0 a0_1 true l0_3)=some r:=by rw[if_pos rfl] at H;exact H
     clear H
     have H:=H1
     clear H1
     have H':=Aside0.mk H
     clear H
     go_wp2
     go_meet
     case rel=>exact⟨_,((⟨#[32,33,61,32]⟩:ByteArray)),eq_,H',⟨by have:=HJ1.out;first|omega|exact Nat.le_refl _⟩,(bk_ BK884),(bl_ HB)⟩
    ·replace c13:=Bool.eq_false_iff.mpr c13
     subst c13
     have H1:(rule_Rel_String.j1 kj1 x3_1 (⟨#[32,61,32]⟩:ByteArray) a0_0 a0_1 false l0_3)=some r:=by rw[if_neg (show ¬(false=true) by decide)] at H;exact H
     clear H
     have H:=H1
     clear H1
     have H':=Aside0.mk H
     clear H
     go_wp2
     go_meet
     case rel=>exact⟨_,((⟨#[32,61,32]⟩:ByteArray)),eq_,H',⟨by have:=HJ1.out;first|omega|exact Nat.le_refl _⟩,(bk_ BK884),(bl_ HB)⟩
   case rest =>
    clear HC11
    obtain⟨kq,x4_10,rfl,HA,HJ10,BK884,HB⟩:=hcut
    cases kq with
    | zero=>exact absurd HA.out (by simp[rule_Rel_String.j1])
    | succ kj10 =>
     have H:=HA.out
     clear HA
     simp only[rule_Rel_String.j1] at H
     have H':=Aside0.mk H
     clear H
     obtain⟨hcz14_0,hcz14_1,hcz14_2,hcz14_3,hfz14_0,hfz14_1,hfz14_2,hfz14_3⟩:=bo4_ BK884
     go_wp2
     go_loopg [5,26] kj10 (fun kq v5 v26 w'=>∃(x5_3:List ByteArray) (x26_3:Int),v26= .int .i64 x26_3∧Aside0 (rule_Rel_String.l0 kq x3_1 x4_10 x5_3 l0_3 (l0_3.length:Int) x26_3=some r)∧Aside0 (kq≤kj10)∧Aside0 (Kd.R Kd.string 9 w' w.heap.size (fun _=>True) v5 x5_3)∧Aside0 (w'.heap[gb884]? = some (.cells #[.int .u8 a0_0,.int .i64 a0_1,.bool a0_2,(.slice A0_3 l0_3.length c0_3)] 36 (0,0)))∧Aside0 (Below w.heap.size w w'))
     case atStart=>exact⟨(([]:List ByteArray)),(0),eq_,H',⟨Nat.le_refl _⟩,⟨by first|exact Kd.R_nil _ _ _ _ _|exact Kd.N_nil _ _ _ _ _|exact Kd.V_nil _ _ _ _ _|exact Kd.Q_nil _ _ _ _ _|exact Kd.S_nil _ _ _ _ _⟩,(bk_ BK884),(bl_ HB)⟩
     case round =>
      clear H'
      obtain⟨x5_3,x26_3,rfl,HA,HK3,HO_5,BK884,HB⟩:=hrel
      cases gk with
      | zero=>exact absurd HA.out (by simp[rule_Rel_String.l0])
      | succ k3 =>
       have H:=HA.out
       clear HA
       simp only[rule_Rel_String.l0] at H
       by_cases c15:x26_3<(l0_3.length:Int)
       ·rw[if_pos c15] at H
        have c15b0:=decide_eq_true c15
        clear c15
        replace H:=ifn_ H
        obtain⟨c16,H⟩:=H
        have c16b0:decide (0≤x26_3)=true:=decide_eq_true c16
        clear c16
        replace H:=ifn_ H
        obtain⟨c17,H⟩:=H
        have c17b0:decide (x26_3<(l0_3.length:Int))=true:=decide_eq_true c17
        clear c17
        replace H:=Option.bind_eq_some_iff.mp H
        obtain⟨t888,A180,H⟩:=H
        have A18:=Aside0.mk A180
        clear A180
        replace H:=ifn_ H
        obtain⟨c19,H⟩:=H
        have LMc19:=Aside0.mk c19
        clear c19
        obtain⟨y889,hy889⟩:∃y_:List ByteArray,y_=(x5_3++[t888]):=⟨_,rfl⟩
        replace H:(rule_Rel_String.l0 k3 x3_1 x4_10 y889 l0_3 (l0_3.length:Int) (wrap64 (x26_3+1)))=some r:=by first|(rw[hy889];with_reducible exact H)|(have H2_:=(Option.bind_some _ _).symm.trans H;rw[hy889];with_reducible exact H2_)|(have H2_:=(Option.bind_some _ _).symm.trans H;with_reducible exact H2_)|with_reducible exact H|(rw[hy889];exact H)|exact H
        have Ny889:=Aside0.mk hy889
        clear hy889
        have H':=Aside0.mk H
        clear H
        have p886:0≤(x26_3:Int):=od_
        have q886:x26_3<(l0_3.length:Int):=od_
        obtain⟨ad886,e886,hx886_0,hx886_1⟩:=at_T38 HR0_3.out x26_3 p886 q886
        cases e886
        replace hx886_0:=hbc_ HB hx886_0
        replace hx886_1:=hbc_ HB hx886_1
        replace p886:=eq_true p886
        replace q886:=eq_true q886
        go_wp2_with (first|((with_reducible refine gate_dst (N:=7) rfl ?_);refine be_ 7 #[.int .i64 0,.int .i64 0] 38 ?_;intro gb887 hg w20 hbox hb;have BK887:=Aside0.mk (hbox);have GW887:=sz_ HB hg;have GE887:=sz_ HB hg;have NB884_887:=na_ BK884 hg;have NB887_884:=nb_ BK884 hg;replace HO_5:=kb_ HO_5 hb;replace BK884:=bb_ BK884 hb;replace HB:=Aside0.mk (below_step (bl_ HB).out hb);clear hb hbox hg;have hnb21:=NB887_884.out;have hnc21:=NB884_887.out;obtain⟨hcz22_0,hcz22_1,hfz22_0,hfz22_1⟩:=bo2_ BK887)|((with_reducible refine gate_callee (f:=34) rfl ?_);refine gl_ (some 32) Tryd.func34 #[.agg #[.int .i64 ((rd_T38 l0_3 x26_3).f0),.int .i64 ((rd_T38 l0_3 x26_3).f1)]] ?_;(with_reducible refine(rule_Range_String.calls _ _ _ _ A18.out).mono ?_);rintro e w23 ⟨rfl,hb⟩;refine⟨_,rfl,?_⟩;have n0_:=Aside0.mk (Kd.R_below (kdR_ ((Kd.R_mono (Kd.R_far (Kd.R_far (Kd.R_types HO_5.out BK887.out (by decide)) (fun _ hk=>hk.2) _) (fun _ hk=>hk.2) _) (fun _ h_=>h_.1)))) hb);have n1_:=bz_ BK884 hb;have n2_:=Aside0.mk (blk_below (g:=gb887) (o:= .cells #[.int .i64 ((rd_T38 l0_3 x26_3).f0),.int .i64 ((rd_T38 l0_3 x26_3).f1)] 38 (0,0)) ((bp_ BK887).out) hb);have n3_:=Aside0.mk (below_step (bl_ HB).out hb);clear HO_5;clear BK884;clear BK887;clear HB;have HO_5:=n0_;have BK884:=n1_;have BK887:=n2_;have HB:=n3_;clear n0_ n1_ n2_ n3_;(try clear hb);(try clear hi))|((with_reducible refine gate_builtin (b:= .append) (xs:= #[.tmp 30,.tmp 33]) rfl ?_);at_builtin;refine Kd.R_append Kd.string (w0:=w) w.heap.size rfl (.tmp 30) (.tmp 33) 47 9 (.string ⟨#[]⟩) 16 rfl Tryd.underlying47 info9 rfl (by decide) (by omega) u5 x5_3 t888 [.string t888] (fun _=>True) (fun _=>False) rfl rfl ?aP (fun _ hk=>hk.elim) ?aF ?aO ?aB ?aS ?aL ?_;(case aP=>exact rfl);(case aB=>exact(bl_ HB).out);(case aF=>exact(fun _ _=>trivial));(case aO=>exact(kr_ HO_5));(case aS=>exact(below_size (bl_ HB).out));(case aL=>have:=LMc19.out;omega);intro v890 w24 ho hb hg hat;rw[← Ny889.out] at ho;have n0_:=Aside0.mk (blk_grown (bk_ BK884).out hg (Kd.R_ne HO_5.out BK884.out (by decide)));have n1_:=Aside0.mk (blk_grown (bk_ BK887).out hg (Kd.R_ne HO_5.out BK887.out (by decide)));have n2_:=Aside0.mk (hb);have n3_:=Aside0.mk (ho);clear BK884;clear BK887;clear HB;clear HO_5;have BK884:=n0_;have BK887:=n1_;have HB:=n2_;have HO891:=n3_;clear n0_ n1_ n2_ n3_;clear ho hb hg hat))
        go_roundg k3
        case measure=>have:=HJ1.out;have:=HJ10.out;have:=HK3.out;omega
        case rel=>exact⟨(y889),(wrap64 (x26_3+1)),eq_,H',⟨by have:=HJ1.out;have:=HJ10.out;have:=HK3.out;omega⟩,⟨kdR_ HO891.out⟩,(bk_ BK884),(bl_ HB)⟩
       ·rw[if_neg c15] at H
        have c15b0:=decide_eq_false c15
        clear c15
        replace H:=ifn_ H
        obtain⟨c25,H⟩:=H
        have c25b0:=eq_true c25
        have c25b1:decide (x3_1.size+x4_10.size≤9223372036854775807)=true:=decide_eq_true c25
        try have c25b2:=eq_false (Nat.not_lt.2 c25)
        replace H:=Option.bind_eq_some_iff.mp H
        obtain⟨t892,A260,H⟩:=H
        have A26:=Aside0.mk A260
        clear A260
        replace H:=ifn_ H
        obtain⟨c27,H⟩:=H
        have c27b0:=eq_true c27
        have c27b1:decide ((x3_1++x4_10).size+t892.size≤9223372036854775807)=true:=decide_eq_true c27
        try (have c27b5:=c27b0;simp only[ByteArray.size_append,Int.natCast_add] at c27b5)
        try have c27b2:=eq_false (Nat.not_lt.2 c27)
        try have c27b3:(9223372036854775807<x3_1.size+x4_10.size+t892.size)=False:=eq_false (Nat.not_lt.2 (by have h_:=c27;simp only[ByteArray.size_append] at h_;exact h_))
        try have c27b4:(x3_1.size+x4_10.size+t892.size≤9223372036854775807)=True:=eq_true (by have h_:=c27;simp only[ByteArray.size_append] at h_;exact h_)
        obtain rfl:=Option.some.inj H
        obtain⟨Ao28,co28,eo28⟩:=Kd.R_slice HO_5.out
        subst eo28
        go_wp2_with (first|((with_reducible refine gate_callee (f:=16) rfl ?_);refine gl_ (some 40) Tryd.func16 #[.slice Ao28 x5_3.length co28,.string (⟨#[44]⟩:ByteArray)] ?_;(with_reducible refine(strings_Join.calls _ _ _ _ _ _ ?side1 ?side2 A26.out).mono ?_);(case side1=>exact kc_ HO_5);(case side2=>exact kl_ HO_5);rintro e w29 ⟨rfl,hb⟩;refine⟨_,rfl,?_⟩;replace HO_5:=kb_ HO_5 hb;replace BK884:=bb_ BK884 hb;replace HB:=Aside0.mk (below_step (bl_ HB).out hb);(try clear hb);(try clear hi)))
        go_ret
        exact⟨ew_,(bl_ HB).out⟩

end Go.Proofs.YtcokjmnkieakiaaDoor.P
