-- written by a program of this session (wip/p2)
import Derived.Test.YtbhhfpjiacfofaaDoorPx0
import Derived.Test.YtbhhfpjiacfofaaDoorPx2
import Derived.Test.YtbhhfpjiacfofaaDoorPx4
import Derived.Test.YtbhhfpjiacfofaaDoorPx5
namespace Go.Proofs.YtbhhfpjiacfofaaDoor.P
open Go.RowKit Go.Proofs.YtbhhfpjiacfofaaDoorW.PrintWords Go.Proofs.YtbhhfpjiacfofaaDoorW.PrintLast Go.Proofs.YtbhhfpjiacfofaaDoorW.PrintMore
attribute [local go_sem] max2_int min2_int max_two min_two max_three min_three max_four min_four   -- for this text's walks alone
set_option linter.unusedVariables false
set_option linter.unusedSimpArgs false

/-! ### sample_reader_set_g: function 18 -/
mutual
def sample_reader_set_g.j0:Nat→ByteArray→Int→Bool→Bool→Option (Int × Int)
 | 0,_,_,_,_=>none
 | k+1,x1000,x1001,x279000,x279002=>orf_ ((sample_reader_item_g.f k x1000 x1001 x279000).bind fun bt312=>(some (bt312.1,bt312.2))) ((sample_reader_item.f k x1000 x1001 x279000).bind fun bt287=>(if ([]:List (S37)).length<4398046511104 then (sample_reader_set_g.l0 k bt287.2.2.1 bt287.2.2.2 x279000 (([]:List (S37))++[(⟨bt287.1,bt287.2.1⟩:S37)]) x279002) else (none)))
def sample_reader_set_g.l0:Nat→ByteArray→Int→Bool→List (S37)→Bool→Option (Int × Int)
 | 0,_,_,_,_,_=>none
 | k+1,x1000,x1001,x279000,x279001,x279002=>(sample_reader_take.f k x1000 x1001 (⟨#[44]⟩:ByteArray)).bind fun bt294=>(if bt294.1=true then ((sample_reader_take.f k bt294.2.1 bt294.2.2 (⟨#[226,128,166]⟩:ByteArray)).bind fun bt297=>(if bt297.1=true then (none) else ((sample_reader_take.f k bt297.2.1 bt297.2.2 (⟨#[46,46,46]⟩:ByteArray)).bind fun bt300=>(if bt300.1=true then (none) else (orf_ ((sample_reader_item_g.f k bt300.2.1 bt300.2.2 x279000).bind fun bt310=>(some (bt310.1,bt310.2))) ((sample_reader_item.f k bt300.2.1 bt300.2.2 x279000).bind fun bt303=>(if x279001.length<4398046511104 then (sample_reader_set_g.l0 k bt303.2.2.1 bt303.2.2.2 x279000 (x279001++[(⟨bt303.1,bt303.2.1⟩:S37)]) bt300.1) else (none)))))))) else (none))
end
def sample_reader_set_g.f (k:Nat) (s0_0:ByteArray) (s0_1:Int):Option (Int × Int):=(sample_reader_take.f k s0_0 s0_1 (⟨#[64,105,110,116,101,103,101,114]⟩:ByteArray)).bind fun bt279=>(if bt279.1=true then (sample_reader_set_g.j0 k bt279.2.1 bt279.2.2 false false) else ((sample_reader_take.f k bt279.2.1 bt279.2.2 (⟨#[64,100,101,99,105,109,97,108]⟩:ByteArray)).bind fun bt282=>(if bt282.1=true then (sample_reader_set_g.j0 k bt282.2.1 bt282.2.2 true false) else ((sample_fail_g.f 1 bt282.2.2).bind fun bt285=>(some (bt285.1,bt285.2))))))
def sample_reader_set_g.T6:Bool × List (List Nat × List Nat):=(true,[([],[]),([0],[0]),([],[]),([],[]),([3],[3]),([2,4],[2,4]),([5],[5]),([1,6,5],[1,6]),([0,1,2,3,4,5,6,7],[]),([8,7,7,0,1,2,3,4,5,6,7],[7,8])])
def sample_reader_set_g.B6:List Nat:=[0,1,0,0,8,28,60,127,255,511]
theorem sample_reader_set_g.tab6:rtab .any (opsOf Tryd.f18 6)=sample_reader_set_g.T6:=by kernel_rfl
theorem sample_reader_set_g.bits6:waitsOk sample_reader_set_g.T6.2 sample_reader_set_g.B6=true:=by kernel_rfl
def sample_reader_set_g.T10:Bool × List (List Nat × List Nat):=(true,[([],[]),([0],[0]),([],[]),([],[]),([3],[3]),([2,4],[2,4]),([5],[5]),([1,6,5],[1,6]),([0,1,2,3,4,5,6,7],[]),([8,7,7,0,1,2,3,4,5,6,7],[7,8])])
def sample_reader_set_g.B10:List Nat:=[0,1,0,0,8,28,60,127,255,511]
theorem sample_reader_set_g.tab10:rtab .any (opsOf Tryd.f18 10)=sample_reader_set_g.T10:=by kernel_rfl
theorem sample_reader_set_g.bits10:waitsOk sample_reader_set_g.T10.2 sample_reader_set_g.B10=true:=by kernel_rfl
set_option maxHeartbeats 64000000 in
set_option maxRecDepth 100000 in
theorem sample_reader_set_g.calls (k:Nat) (g:Nat) (s0_0:ByteArray) (s0_1:Int) (r1:Int) (r2:Int) (w0 w:World) (hI:IsS63 w0 w g s0_0 s0_1) (hB:Below w0.heap.size w0 w) (h:sample_reader_set_g.f k s0_0 s0_1=some (r1,r2)) :
  Calls Tryd.prog 18 #[.pointer (some ⟨g,0,none⟩)] w fun e w'=>e= .panicked [{v:= .iface 59 (.agg #[.int .i64 r1,.int .i64 r2]),recovered:=false}]∧Below w0.heap.size w0 w':=by
 have hu35:=Tryd.underlying35
 have HI0:=Aside0.mk hI
 have HK:=Aside0.mk (KeepBut.refl w g none)
 have HL:=Aside0.mk hB.size
 clear hI
 have HW0:=Aside0.mk hB.size
 have HB:=Aside0.mk hB
 clear hB
 have H:=h
 clear h
 unfold sample_reader_set_g.f at H
 have HC2:=Aside0.mk H
 clear H
 go_enter Tryd.func18,Tryd.ntmps18
 go_upto_block 0 with (first|((with_reducible refine gate_dst (N:=2) rfl ?_);refine be_ 2 #[.bool false,.slice none 0 0,.bool false] 35 ?_;intro gb277 hg w3 hbox hb;have n0_:=Aside0.mk (IsS63.below (is63_ HI0) hb);have n1_:=Aside0.mk (KeepBut.trans (kp_ HK) (KeepBut.of_below hb g none) (.inl rfl));have n2_:=Aside0.mk (below_step (bs63_ HB HI0) hb);have n3_:=Aside0.mk (hbox);have n4_:=Aside0.mk ((by rw[hg];exact(keep_size (w:=w) (g:=g) (row:=none) (kp_ HK)):w.heap.size≤gb277));have n5_:=Aside0.mk ((Nat.le_trans HW0.out (by rw[hg];exact(keep_size (w:=w) (g:=g) (row:=none) (kp_ HK)):w.heap.size≤gb277):w0.heap.size≤gb277));have n6_:=Aside0.mk ((by rw[hg];exact Nat.ne_of_lt (IsS63.lt (show IsS63 w0 _ g s0_0 s0_1 from is63_ HI0)):g≠gb277));have n7_:=Aside0.mk ((by rw[hg];exact Nat.ne_of_gt (IsS63.lt (show IsS63 w0 _ g s0_0 s0_1 from is63_ HI0)):gb277≠g));clear HI0;clear HK;clear HB;revert n0_ n1_ n2_ n3_ n4_ n5_ n6_ n7_;intro HI0 HK HB BK277 GW277 GE277 NB0_277 NB277_0;clear hb hbox hg)|((with_reducible refine gate_dst (N:=3) rfl ?_);refine be_ 3 #[.bool false,.slice none 0 0,.bool false] 35 ?_;intro gb278 hg w4 hbox hb;have n0_:=Aside0.mk (IsS63.below (is63_ HI0) hb);have n1_:=bb_ BK277 hb;have n2_:=Aside0.mk (KeepBut.trans (kp_ HK) (KeepBut.of_below hb g none) (.inl rfl));have n3_:=Aside0.mk (below_step (bs63_ HB HI0) hb);have n4_:=Aside0.mk (hbox);have n5_:=Aside0.mk ((by rw[hg];exact(keep_size (w:=w) (g:=g) (row:=none) (kp_ HK)):w.heap.size≤gb278));have n6_:=Aside0.mk ((Nat.le_trans HW0.out (by rw[hg];exact(keep_size (w:=w) (g:=g) (row:=none) (kp_ HK)):w.heap.size≤gb278):w0.heap.size≤gb278));have n7_:=na_ BK277 hg;have n8_:=nb_ BK277 hg;have n9_:=Aside0.mk ((by rw[hg];exact Nat.ne_of_lt (IsS63.lt (show IsS63 w0 _ g s0_0 s0_1 from is63_ HI0)):g≠gb278));have n10_:=Aside0.mk ((by rw[hg];exact Nat.ne_of_gt (IsS63.lt (show IsS63 w0 _ g s0_0 s0_1 from is63_ HI0)):gb278≠g));clear HI0;clear BK277;clear HK;clear HB;revert n0_ n1_ n2_ n3_ n4_ n5_ n6_ n7_ n8_ n9_ n10_;intro HI0 BK277 HK HB BK278 GW278 GE278 NB277_278 NB278_277 NB0_278 NB278_0;clear hb hbox hg))
 (try simp only[Act.put,List.setIfInBounds_toArray,List.set_cons_zero,List.set_cons_succ])
 go_cut [] (fun wc=>∃(kq:Nat) (x1000_1:ByteArray) (x1001_1:Int) (x279000_1:Bool),Aside0 (sample_reader_set_g.j0 kq x1000_1 x1001_1 x279000_1 false=some (r1,r2))∧Aside0 (kq≤k)∧Aside0 (wc.heap[gb277]? = some (.cells #[.bool false,(.slice none 0 0),.bool false] 35 (0,0)))∧Aside0 (wc.heap[gb278]? = some (.cells #[.bool x279000_1,(.slice none 0 0),.bool false] 35 (0,0)))∧Aside0 (IsS63 w0 wc g x1000_1 x1001_1)∧Aside0 (KeepBut w wc g none)∧Aside0 (Below w0.heap.size w0 wc))
 case first =>
  have H:=HC2.out
  clear HC2
  replace H:=Option.bind_eq_some_iff.mp H
  obtain⟨⟨t279,t280,t281⟩,A50,H⟩:=H
  dsimp only at H
  have A5:=Aside0.mk A50
  clear A50
  by_cases c6:t279=true
  ·subst c6
   rw[if_pos rfl] at H
   have H':=Aside0.mk H
   clear H
   go_wp2_with (first|((with_reducible refine gate_callee (f:=26) rfl ?_);refine gl_ (some 11) Tryd.func26 #[.pointer (some ⟨g,0,none⟩),.string (⟨#[64,105,110,116,101,103,101,114]⟩:ByteArray)] ?_;(with_reducible refine(sample_reader_take.calls _ _ _ _ _ _ _ _ w0 _ ?side1 ?side2 A5.out).mono ?_);(case side1=>exact is63_ HI0);(case side2=>exact bs63_ HB HI0);rintro e w7 ⟨rfl,hi,hb,hk⟩;refine⟨_,rfl,?_⟩;have n0_:=Aside0.mk (KeepBut.blk hk (bk_ BK277).out NB277_0.out (by simp));have n1_:=Aside0.mk (KeepBut.blk hk (bk_ BK278).out NB278_0.out (by simp));have n2_:=Aside0.mk (KeepBut.trans (kp_ HK) hk (.inl rfl));have n3_:=Aside0.mk (hb);have n4_:=Aside0.mk (hi);clear BK277;clear BK278;clear HK;clear HB;clear HI0;revert n0_ n1_ n2_ n3_ n4_;intro BK277 BK278 HK HB HI0;(try clear hb);(try clear hk);(try clear hi)))
   go_meet
   case rel=>exact⟨_,(t280),(t281),(false),H',⟨by first|omega|exact Nat.le_refl _⟩,(bk_ BK277),(bk_ BK278),⟨is63_ HI0⟩,⟨kp_ HK⟩,⟨bs63_ HB HI0⟩⟩
  replace c6:=Bool.eq_false_iff.mpr c6
  subst c6
  rw[if_neg (show ¬(false=true) by decide)] at H
  replace H:=Option.bind_eq_some_iff.mp H
  obtain⟨⟨t282,t283,t284⟩,A80,H⟩:=H
  dsimp only at H
  have A8:=Aside0.mk A80
  clear A80
  by_cases c9:t282=true
  ·subst c9
   rw[if_pos rfl] at H
   have H':=Aside0.mk H
   clear H
   go_wp2_with (first|((with_reducible refine gate_callee (f:=26) rfl ?_);refine gl_ (some 11) Tryd.func26 #[.pointer (some ⟨g,0,none⟩),.string (⟨#[64,105,110,116,101,103,101,114]⟩:ByteArray)] ?_;(with_reducible refine(sample_reader_take.calls _ _ _ _ _ _ _ _ w0 _ ?side1 ?side2 A5.out).mono ?_);(case side1=>exact is63_ HI0);(case side2=>exact bs63_ HB HI0);rintro e w10 ⟨rfl,hi,hb,hk⟩;refine⟨_,rfl,?_⟩;have n0_:=Aside0.mk (KeepBut.blk hk (bk_ BK277).out NB277_0.out (by simp));have n1_:=Aside0.mk (KeepBut.blk hk (bk_ BK278).out NB278_0.out (by simp));have n2_:=Aside0.mk (KeepBut.trans (kp_ HK) hk (.inl rfl));have n3_:=Aside0.mk (hb);have n4_:=Aside0.mk (hi);clear BK277;clear BK278;clear HK;clear HB;clear HI0;revert n0_ n1_ n2_ n3_ n4_;intro BK277 BK278 HK HB HI0;(try clear hb);(try clear hk);(try clear hi))|((with_reducible refine gate_callee (f:=26) rfl ?_);refine gl_ (some 14) Tryd.func26 #[.pointer (some ⟨g,0,none⟩),.string (⟨#[64,100,101,99,105,109,97,108]⟩:ByteArray)] ?_;(with_reducible refine(sample_reader_take.calls _ _ _ _ _ _ _ _ w0 _ ?side1 ?side2 A8.out).mono ?_);(case side1=>exact is63_ HI0);(case side2=>exact bs63_ HB HI0);rintro e w11 ⟨rfl,hi,hb,hk⟩;refine⟨_,rfl,?_⟩;have n0_:=Aside0.mk (KeepBut.blk hk (bk_ BK277).out NB277_0.out (by simp));have n1_:=Aside0.mk (KeepBut.blk hk (bk_ BK278).out NB278_0.out (by simp));have n2_:=Aside0.mk (KeepBut.trans (kp_ HK) hk (.inl rfl));have n3_:=Aside0.mk (hb);have n4_:=Aside0.mk (hi);clear BK277;clear BK278;clear HK;clear HB;clear HI0;revert n0_ n1_ n2_ n3_ n4_;intro BK277 BK278 HK HB HI0;(try clear hb);(try clear hk);(try clear hi);have hnb12:=NB278_277.out;have hnc12:=NB277_278.out;have hnb13:=NB278_0.out;have hnc13:=NB0_278.out;obtain⟨hcz14_0,hcz14_1,hcz14_2,hfz14_0,hfz14_1,hfz14_2⟩:=bo3_ BK278))
   go_meet
   case rel=>exact⟨_,(t283),(t284),(true),H',⟨by first|omega|exact Nat.le_refl _⟩,⟨(bf_ BK277).out⟩,⟨(bp_ BK278).out⟩,⟨is63_ HI0⟩,⟨kp_ HK⟩,⟨bs63_ HB HI0⟩⟩
  replace c9:=Bool.eq_false_iff.mpr c9
  subst c9
  rw[if_neg (show ¬(false=true) by decide)] at H
  replace H:=Option.bind_eq_some_iff.mp H
  obtain⟨⟨t285,t286⟩,A150,H⟩:=H
  dsimp only at H
  have A15:=Aside0.mk A150
  clear A150
  simp only[Option.some.injEq,Prod.mk.injEq] at H
  obtain⟨rfl,rfl⟩:=H
  go_wp2_with (first|((with_reducible refine gate_callee (f:=26) rfl ?_);refine gl_ (some 11) Tryd.func26 #[.pointer (some ⟨g,0,none⟩),.string (⟨#[64,105,110,116,101,103,101,114]⟩:ByteArray)] ?_;(with_reducible refine(sample_reader_take.calls _ _ _ _ _ _ _ _ w0 _ ?side1 ?side2 A5.out).mono ?_);(case side1=>exact is63_ HI0);(case side2=>exact bs63_ HB HI0);rintro e w16 ⟨rfl,hi,hb,hk⟩;refine⟨_,rfl,?_⟩;have n0_:=Aside0.mk (KeepBut.blk hk (bk_ BK277).out NB277_0.out (by simp));have n1_:=Aside0.mk (KeepBut.blk hk (bk_ BK278).out NB278_0.out (by simp));have n2_:=Aside0.mk (KeepBut.trans (kp_ HK) hk (.inl rfl));have n3_:=Aside0.mk (hb);have n4_:=Aside0.mk (hi);clear BK277;clear BK278;clear HK;clear HB;clear HI0;revert n0_ n1_ n2_ n3_ n4_;intro BK277 BK278 HK HB HI0;(try clear hb);(try clear hk);(try clear hi))|((with_reducible refine gate_callee (f:=26) rfl ?_);refine gl_ (some 14) Tryd.func26 #[.pointer (some ⟨g,0,none⟩),.string (⟨#[64,100,101,99,105,109,97,108]⟩:ByteArray)] ?_;(with_reducible refine(sample_reader_take.calls _ _ _ _ _ _ _ _ w0 _ ?side1 ?side2 A8.out).mono ?_);(case side1=>exact is63_ HI0);(case side2=>exact bs63_ HB HI0);rintro e w17 ⟨rfl,hi,hb,hk⟩;refine⟨_,rfl,?_⟩;have n0_:=Aside0.mk (KeepBut.blk hk (bk_ BK277).out NB277_0.out (by simp));have n1_:=Aside0.mk (KeepBut.blk hk (bk_ BK278).out NB278_0.out (by simp));have n2_:=Aside0.mk (KeepBut.trans (kp_ HK) hk (.inl rfl));have n3_:=Aside0.mk (hb);have n4_:=Aside0.mk (hi);clear BK277;clear BK278;clear HK;clear HB;clear HI0;revert n0_ n1_ n2_ n3_ n4_;intro BK277 BK278 HK HB HI0;(try clear hb);(try clear hk);(try clear hi);obtain⟨hcz18_0,hcz18_1,hfz18_0,hfz18_1⟩:=cs63_ HI0)|(go_at_call 27;(with_reducible refine(sample_fail_g.calls _ _ _ _ _ A15.out).mono ?_);rintro e w' ⟨rfl,hb⟩;exact And.intro rfl (And.intro rfl (below_step (bs63_ HB HI0) hb))))
 clear HC2
 obtain⟨kq,x1000_1,x1001_1,x279000_1,HA,HJ1,BK277,BK278,HI0,HK,HB⟩:=hcut
 cases kq with
 | zero=>exact absurd HA.out (by simp[sample_reader_set_g.j0])
 | succ kj1=>?_
 have H:=HA.out
 clear HA
 simp only[sample_reader_set_g.j0] at H
 rcases orf_or H with H|H
 ·skip
  replace H:=Option.bind_eq_some_iff.mp H
  obtain⟨⟨t312,t313⟩,A190,H⟩:=H
  dsimp only at H
  have A19:=Aside0.mk A190
  clear A190
  simp only[Option.some.injEq,Prod.mk.injEq] at H
  obtain⟨rfl,rfl⟩:=H
  try go_wp2
  replace BK277:=Aside0.mk (blk_drew BK277.out)
  replace BK278:=Aside0.mk (blk_drew BK278.out)
  replace HI0:=Aside0.mk (IsS63.drew HI0.out)
  replace HK:=Aside0.mk (keep_drew HK.out)
  replace HB:=Aside0.mk (below_drew1 HB.out)
  refine start_ (n:=10) (S:=fun w'=>w'.cell? ⟨gb278,0,none⟩=some (.bool x279000_1)∧w'.cell? ⟨gb278,1,none⟩=some (.slice none 0 0)∧w'.cell? ⟨gb278,2,none⟩=some (.bool false)) (ds:=[]) #[false,false,false,false,false,false,false,false,false,false] (by kernel_rfl) rfl rfl ⟨bc_ BK278 0,bc_ BK278 1,bc_ BK278 2⟩ (fun hHeld=>?_);refine with_tabW sample_reader_set_g.tab6 sample_reader_set_g.bits6 (fun HT_ HW_=>?_)
  generalize wc.drew=w20 at BK277 BK278 HI0 HK HB hHeld ⊢
  refine pu_ 0 16 (bm_ 10 1) HT_ ?_
  refine pu_ 2 18 (bm_ 10 5) HT_ ?_
  refine pu_ 3 19 (bm_ 10 13) HT_ ?_
  refine tk_ 1 17 (bm_ 10 15) HT_ HW_ hHeld rfl (by rintro w' ⟨s0,s1,s2⟩;go_simp;with_reducible rfl) ?_
  refine tk_ 4 20 (bm_ 10 31) HT_ HW_ hHeld rfl (by rintro w' ⟨s0,s1,s2⟩;go_simp;with_reducible rfl) ?_
  refine one_ (i:=5) (N:=some 21) (bm_ 10 63) rfl rfl (one_of HT_.out (by kernel_rfl)) (by decide) (fun K hK=>?_)
  refine gp_ Tryd.func28 (by kernel_rfl) rfl #[.pointer (some ⟨g,0,none⟩),.bool x279000_1] (by rfl) rfl rfl (by (try simp only[List.map_toArray,List.map_cons,List.map_nil]);first|done|rfl|(simp only[List.length_drop,List.length_take];rfl)|(have z_:∀s_:ByteArray,s_.size≤9223372036854775807→ -(s_.size:Int)=wrap64 (-(s_.size:Int)):=(fun s_ h_=>by unfold wrap64;omega);rw[← z_ _ (by omega)];rfl)|(simp only[ByteArray.size_append];rfl)) ?_
  with_reducible refine(sample_reader_item_g.calls _ _ _ _ _ _ _ w0 _ ?side1 ?side2 A19.out).mono ?_
  (case side1=>exact is63_ HI0)
  (case side2=>exact bs63_ HB HI0)
  rintro e w' ⟨rfl,hb⟩
  refine⟨_,rfl,?_⟩
  exact And.intro rfl (And.intro rfl hb)
  try go_wp2
 skip
 replace H:=Option.bind_eq_some_iff.mp H
 obtain⟨⟨t287,t288,t289,t290⟩,A210,H⟩:=H
 dsimp only at H
 have A21:=Aside0.mk A210
 clear A210
 replace H:=ifn_ H
 obtain⟨c22,H⟩:=H
 have LMc22:=Aside0.mk c22
 clear c22
 obtain⟨y291,hy291⟩:∃y_:List (S37),y_=(([]:List (S37))++[(⟨t287,t288⟩:S37)]):=⟨_,rfl⟩
 replace H:(sample_reader_set_g.l0 kj1 t289 t290 x279000_1 y291 false)=some (r1,r2):=by first|(rw[hy291];with_reducible exact H)|(have H2_:=(Option.bind_some _ _).symm.trans H;rw[hy291];with_reducible exact H2_)|(have H2_:=(Option.bind_some _ _).symm.trans H;with_reducible exact H2_)|with_reducible exact H|(rw[hy291];exact H)|exact H
 have Ny291:=Aside0.mk hy291
 clear hy291
 have H':=Aside0.mk H
 clear H
 try go_wp2
 replace BK277:=Aside0.mk (blk_drew BK277.out)
 replace BK278:=Aside0.mk (blk_drew BK278.out)
 replace HI0:=Aside0.mk (IsS63.drew HI0.out)
 replace HK:=Aside0.mk (keep_drew HK.out)
 replace HB:=Aside0.mk (below_drew1 HB.out)
 refine start_ (n:=10) (S:=fun w'=>w'.cell? ⟨gb278,0,none⟩=some (.bool x279000_1)∧w'.cell? ⟨gb278,1,none⟩=some (.slice none 0 0)∧w'.cell? ⟨gb278,2,none⟩=some (.bool false)) (ds:=[9]) #[false,false,false,false,false,false,false,false,false,false] (by kernel_rfl) rfl rfl ⟨bc_ BK278 0,bc_ BK278 1,bc_ BK278 2⟩ (fun hHeld=>?_);refine with_tabW sample_reader_set_g.tab6 sample_reader_set_g.bits6 (fun HT_ HW_=>?_)
 generalize wc.drew=w23 at BK277 BK278 HI0 HK HB hHeld ⊢
 refine pu_ 0 16 (bm_ 10 1) HT_ ?_
 refine pu_ 2 18 (bm_ 10 5) HT_ ?_
 refine pu_ 3 19 (bm_ 10 13) HT_ ?_
 refine tk_ 1 17 (bm_ 10 15) HT_ HW_ hHeld rfl (by rintro w' ⟨s0,s1,s2⟩;go_simp;with_reducible rfl) ?_
 refine tk_ 4 20 (bm_ 10 31) HT_ HW_ hHeld rfl (by rintro w' ⟨s0,s1,s2⟩;go_simp;with_reducible rfl) ?_
 refine one_ (i:=5) (N:=some 21) (bm_ 10 63) rfl rfl (one_of HT_.out (by kernel_rfl)) (by decide) (fun K hK=>?_)
 refine gs_ Tryd.func28 #[.pointer (some ⟨g,0,none⟩),.bool x279000_1] ?_
 with_reducible refine(sample_reader_item.calls _ _ _ _ _ _ _ _ _ w0 _ ?side1 ?side2 A21.out).mono ?_
 (case side1=>exact is63_ HI0)
 (case side2=>exact bs63_ HB HI0)
 rintro e w24 ⟨rfl,hi,hb,hk⟩
 refine⟨_,rfl,?_⟩
 replace BK277:=Aside0.mk (KeepBut.blk hk (bk_ BK277).out NB277_0.out (by simp))
 replace BK278:=Aside0.mk (KeepBut.blk hk (bk_ BK278).out NB278_0.out (by simp))
 replace HK:=Aside0.mk (KeepBut.trans (kp_ HK) hk (.inl rfl))
 replace HB:=Aside0.mk (hb)
 replace HI0:=Aside0.mk (hi)
 (try clear hb)
 (try clear hb2)
 (try clear hk)
 (try clear hi)
 refine hK.out _ _ ⟨bc_ BK278 0,bc_ BK278 1,bc_ BK278 2⟩ (fun hHeld=>?_)
 clear hK K
 refine nm_ 21 ?_
 refine one_ (i:=6) (N:=some 22) (bm_ 10 127) rfl rfl (one_of HT_.out (by kernel_rfl)) (by decide) (fun K hK=>?_)
 refine value_ (w1:=?_) (v:=?_) (by rfl) rfl ?_ ?_
 rotate_left 2
 ·go_simp
  constructor
  ·rfl
  rfl
 refine hK.out _ _ ⟨(blk_cell (blk_alloc BK278.out _) 0).trans rfl,(blk_cell (blk_alloc BK278.out _) 1).trans rfl,(blk_cell (blk_alloc BK278.out _) 2).trans rfl⟩ (fun hHeld=>?_)
 clear hK K
 refine nm_ 22 ?_
 refine one_ (i:=7) (N:=some 23) (bm_ 10 255) rfl rfl (one_of HT_.out (by kernel_rfl)) (by decide) (fun K hK=>?_)
 refine Kd.R_append_step k37 w.heap.size (by rfl) (.tmp 17) (.tmp 22) 33 37 (.agg #[(.string ⟨#[]⟩),(.string ⟨#[]⟩)]) 32 rfl Tryd.underlying33 info37 rfl (by decide) (by omega) (.slice none 0 0) ([]:List (S37)) (⟨t287,t288⟩:S37) [.string t287,.string t288] (fun _=>True) (fun _=>False) rfl rfl ?aP (fun _ hk=>hk.elim) ?aF ?aO (Below.refl _ _) ?aS ?aL ?_
 (case aP=>exact k37_mkM _ _ _ (⟨t287,t288⟩:S37))
 (case aF=>exact(fun _ _=>trivial))
 (case aO=>exact((Kd.R_nil _ _ _ _ (fun _=>True))))
 (case aS=>exact(keep_size (w:=w) (g:=g) (row:=none) (kp_ HK)))
 (case aL=>have:=LMc22.out;omega)
 intro v292 w25 ho hb hg hat
 rw[← Ny291.out] at ho
 have n0_:=Aside0.mk (blk_grown (bk_ BK277).out hg (by simp[Value.ownBlock]))
 have n1_:=Aside0.mk (blk_grown (bk_ BK278).out hg (by simp[Value.ownBlock]))
 have n2_:=Aside0.mk (IsS63.grown (is63_ HI0) hg (by simp[Value.ownBlock]))
 have n3_:=Aside0.mk (below_weaken (bs63_ HB HI0) HL.out hb)
 have n4_:=Aside0.mk (KeepBut.trans (kp_ HK) (KeepBut.of_grown hg g) (.inl (by simp[Value.ownBlock])))
 have n5_:=Aside0.mk (ho)
 clear BK277
 clear BK278
 clear HI0
 clear HB
 clear HK
 revert n0_ n1_ n2_ n3_ n4_ n5_
 intro BK277 BK278 HI0 HB HK HO293
 clear ho hb hg hat
 obtain⟨Ao26,co26,eo26⟩:=Kd.R_slice HO293.out
 (first|subst eo26|(injection eo26 with f1_ f2_ f3_;have f4_:=f1_.symm;have f5_:=f3_.symm;clear f1_ f2_ f3_;subst f4_;subst f5_))
 refine hK.out _ _ ⟨bc_ BK278 0,bc_ BK278 1,bc_ BK278 2⟩ (fun hHeld=>?_)
 clear hK K
 refine nm_ 23 ?_
 refine pu_ 8 24 (bm_ 10 511) HT_ ?_
 refine last_ (i:=9) (N:=none) #[true,true,true,true,true,true,true,true,true,true] rfl rfl (one_of HT_.out (by kernel_rfl)) (by decide) (fun K hK=>?_)
 have hs27:w25.cell? ⟨gb278,1,none⟩=some (.slice none 0 0):=bc_ BK278 1
 have hfs27:=blk_frozen BK278.out 1
 have hns27_0:=NB277_278.out
 have hms27_0:=NB278_277.out
 refine skip_ (w1:=?_) (by rfl) rfl ?_ ?_
 rotate_left
 ·go_simp
  rfl
 refine hK.out _ _ ?_
 clear hK K
 refine done_ (done_of HT_.out (by kernel_rfl)) ?_
 try go_wp2
 go_loopg [] kj1 (fun kq w'=>∃(x1000_2:ByteArray) (x1001_2:Int) (x279001_2:List (S37)) (x279002_2:Bool) (u279001:Value),Aside0 (sample_reader_set_g.l0 kq x1000_2 x1001_2 x279000_1 x279001_2 x279002_2=some (r1,r2))∧Aside0 (kq≤kj1)∧Aside0 (Kd.R k37 37 w' w.heap.size (fun _=>True) u279001 x279001_2)∧Aside0 (w'.heap[gb277]? = some (.cells #[.bool false,(.slice none 0 0),.bool false] 35 (0,0)))∧Aside0 (w'.heap[gb278]? = some (.cells #[.bool x279000_1,u279001,.bool x279002_2] 35 (0,0)))∧Aside0 (IsS63 w0 w' g x1000_2 x1001_2)∧Aside0 (KeepBut w w' g none)∧Aside0 (Below w0.heap.size w0 w'))
 case atStart=>exact⟨(t289),(t290),(y291),(false),(.slice Ao26 y291.length co26),H',⟨Nat.le_refl _⟩,⟨kdR_ (Kd.R_mono (Kd.R_far (Kd.R_types HO293.out BK278.out (by decide)) (fun _ hk=>hk.2) _) (fun _ hk=>trivial))⟩,⟨(bf_ BK277).out⟩,⟨(bp_ BK278).out⟩,⟨is63_ HI0⟩,⟨kp_ HK⟩,⟨bs63_ HB HI0⟩⟩
 clear H'
 obtain⟨x1000_2,x1001_2,x279001_2,x279002_2,u279001,HA,HK2,HO_279001,BK277,BK278,HI0,HK,HB⟩:=hrel
 cases gk with
 | zero=>exact absurd HA.out (by simp[sample_reader_set_g.l0])
 | succ k2=>?_
 have H:=HA.out
 clear HA
 simp only[sample_reader_set_g.l0] at H
 replace H:=Option.bind_eq_some_iff.mp H
 obtain⟨⟨t294,t295,t296⟩,A280,H⟩:=H
 dsimp only at H
 have A28:=Aside0.mk A280
 clear A280
 by_cases c29:t294=true
 ·subst c29
  rw[if_pos rfl] at H
  replace H:=Option.bind_eq_some_iff.mp H
  obtain⟨⟨t297,t298,t299⟩,A300,H⟩:=H
  dsimp only at H
  have A30:=Aside0.mk A300
  clear A300
  by_cases c31:t297=true
  ·subst c31
   rw[if_pos rfl] at H
   exact absurd H (by simp)
  replace c31:=Bool.eq_false_iff.mpr c31
  subst c31
  rw[if_neg (show ¬(false=true) by decide)] at H
  replace H:=Option.bind_eq_some_iff.mp H
  obtain⟨⟨t300,t301,t302⟩,A320,H⟩:=H
  dsimp only at H
  have A32:=Aside0.mk A320
  clear A320
  by_cases c33:t300=true
  ·subst c33
   rw[if_pos rfl] at H
   exact absurd H (by simp)
  replace c33:=Bool.eq_false_iff.mpr c33
  subst c33
  rw[if_neg (show ¬(false=true) by decide)] at H
  rcases orf_or H with H|H
  ·skip
   replace H:=Option.bind_eq_some_iff.mp H
   obtain⟨⟨t310,t311⟩,A340,H⟩:=H
   dsimp only at H
   have A34:=Aside0.mk A340
   clear A340
   simp only[Option.some.injEq,Prod.mk.injEq] at H
   obtain⟨rfl,rfl⟩:=H
   try go_wp2_with (first|((with_reducible refine gate_callee (f:=26) rfl ?_);refine gl_ (some 26) Tryd.func26 #[.pointer (some ⟨g,0,none⟩),.string (⟨#[44]⟩:ByteArray)] ?_;(with_reducible refine(sample_reader_take.calls _ _ _ _ _ _ _ _ w0 _ ?side1 ?side2 A28.out).mono ?_);(case side1=>exact is63_ HI0);(case side2=>exact bs63_ HB HI0);rintro e w35 ⟨rfl,hi,hb,hk⟩;refine⟨_,rfl,?_⟩;have n0_:=Aside0.mk (Kd.R_mono (Kd.R_keep (IsS63.apart (show IsS63 w0 _ g x1000_2 x1001_2 from is63_ HI0) (kr_ HO_279001) (by decide)) hk (fun _ h=>h.2)) (fun _ h=>h.1));have n1_:=Aside0.mk (KeepBut.blk hk (bk_ BK277).out NB277_0.out (by simp));have n2_:=Aside0.mk (KeepBut.blk hk (bk_ BK278).out NB278_0.out (by simp));have n3_:=Aside0.mk (KeepBut.trans (kp_ HK) hk (.inl rfl));have n4_:=Aside0.mk (hb);have n5_:=Aside0.mk (hi);clear HO_279001;clear BK277;clear BK278;clear HK;clear HB;clear HI0;revert n0_ n1_ n2_ n3_ n4_ n5_;intro HO_279001 BK277 BK278 HK HB HI0;(try clear hb);(try clear hk);(try clear hi))|((with_reducible refine gate_callee (f:=26) rfl ?_);refine gl_ (some 28) Tryd.func26 #[.pointer (some ⟨g,0,none⟩),.string (⟨#[226,128,166]⟩:ByteArray)] ?_;(with_reducible refine(sample_reader_take.calls _ _ _ _ _ _ _ _ w0 _ ?side1 ?side2 A30.out).mono ?_);(case side1=>exact is63_ HI0);(case side2=>exact bs63_ HB HI0);rintro e w36 ⟨rfl,hi,hb,hk⟩;refine⟨_,rfl,?_⟩;have n0_:=Aside0.mk (Kd.R_mono (Kd.R_keep (IsS63.apart (show IsS63 w0 _ g t295 t296 from is63_ HI0) (kr_ HO_279001) (by decide)) hk (fun _ h=>h.2)) (fun _ h=>h.1));have n1_:=Aside0.mk (KeepBut.blk hk (bk_ BK277).out NB277_0.out (by simp));have n2_:=Aside0.mk (KeepBut.blk hk (bk_ BK278).out NB278_0.out (by simp));have n3_:=Aside0.mk (KeepBut.trans (kp_ HK) hk (.inl rfl));have n4_:=Aside0.mk (hb);have n5_:=Aside0.mk (hi);clear HO_279001;clear BK277;clear BK278;clear HK;clear HB;clear HI0;revert n0_ n1_ n2_ n3_ n4_ n5_;intro HO_279001 BK277 BK278 HK HB HI0;(try clear hb);(try clear hk);(try clear hi))|(go_at_call 26;(with_reducible refine(sample_reader_take.calls _ _ _ _ _ _ _ _ w0 _ ?side1 ?side2 A32.out).mono ?_);(case side1=>exact is63_ HI0);(case side2=>exact bs63_ HB HI0);rintro e w37 ⟨rfl,hi,hb,hk⟩;have n0_:=Aside0.mk (Kd.R_mono (Kd.R_keep (IsS63.apart (show IsS63 w0 _ g t298 t299 from is63_ HI0) (kr_ HO_279001) (by decide)) hk (fun _ h=>h.2)) (fun _ h=>h.1));have n1_:=Aside0.mk (KeepBut.blk hk (bk_ BK277).out NB277_0.out (by simp));have n2_:=Aside0.mk (KeepBut.blk hk (bk_ BK278).out NB278_0.out (by simp));have n3_:=Aside0.mk (KeepBut.trans (kp_ HK) hk (.inl rfl));have n4_:=Aside0.mk (hb);have n5_:=Aside0.mk (hi);clear HO_279001;clear BK277;clear BK278;clear HK;clear HB;clear HI0;revert n0_ n1_ n2_ n3_ n4_ n5_;intro HO_279001 BK277 BK278 HK HB HI0;(try clear hb);(try clear hk);(try clear hi);have hnb38:=NB278_277.out;have hnc38:=NB277_278.out;have hnb39:=NB278_0.out;have hnc39:=NB0_278.out;obtain⟨hcz40_0,hcz40_1,hcz40_2,hfz40_0,hfz40_1,hfz40_2⟩:=bo3_ BK278))
   have n0_:Aside0 (Kd.R k37 37 (w37.setCell ⟨gb278,2,none⟩ (.bool false)) w.heap.size (fun _=>True) u279001 x279001_2):=⟨kdR_ (Kd.R_mono (Kd.R_far (Kd.R_types HO_279001.out BK278.out (by decide)) (fun _ hk=>hk.2) _) (fun _ hk=>trivial))⟩
   have n1_:Aside0 ((w37.setCell ⟨gb278,2,none⟩ (.bool false)).heap[gb277]? = _):=bf_ BK277
   have n2_:Aside0 ((w37.setCell ⟨gb278,2,none⟩ (.bool false)).heap[gb278]? = some (.cells #[.bool x279000_1,u279001,.bool false] 35 (0,0))):=⟨(bp_ BK278).out⟩
   have n3_:Aside0 (IsS63 w0 (w37.setCell ⟨gb278,2,none⟩ (.bool false)) g t301 t302):=⟨is63_ HI0⟩
   have n4_:Aside0 (KeepBut w (w37.setCell ⟨gb278,2,none⟩ (.bool false)) g none):=⟨kp_ HK⟩
   have n5_:Aside0 (Below w0.heap.size w0 (w37.setCell ⟨gb278,2,none⟩ (.bool false))):=⟨bs63_ HB HI0⟩
   (try clear HO_279001)
   (try clear BK277)
   (try clear BK278)
   (try clear HI0)
   (try clear HK)
   (try clear HB)
   generalize (w37.setCell ⟨gb278,2,none⟩ (.bool false))=w41 at n0_ n1_ n2_ n3_ n4_ n5_ ⊢
   revert n0_ n1_ n2_ n3_ n4_ n5_
   intro HO_279001 BK277 BK278 HI0 HK HB
   replace HO_279001:=Aside0.mk (Kd.R_drew HO_279001.out)
   replace BK277:=Aside0.mk (blk_drew BK277.out)
   replace BK278:=Aside0.mk (blk_drew BK278.out)
   replace HI0:=Aside0.mk (IsS63.drew HI0.out)
   replace HK:=Aside0.mk (keep_drew HK.out)
   replace HB:=Aside0.mk (below_drew1 HB.out)
   refine start_ (n:=10) (S:=fun w'=>w'.cell? ⟨gb278,0,none⟩=some (.bool x279000_1)∧w'.cell? ⟨gb278,1,none⟩=some (u279001)∧w'.cell? ⟨gb278,2,none⟩=some (.bool false)) (ds:=[]) #[false,false,false,false,false,false,false,false,false,false] (by kernel_rfl) rfl rfl ⟨bc_ BK278 0,bc_ BK278 1,bc_ BK278 2⟩ (fun hHeld=>?_);refine with_tabW sample_reader_set_g.tab10 sample_reader_set_g.bits10 (fun HT_ HW_=>?_)
   generalize w41.drew=w42 at HO_279001 BK277 BK278 HI0 HK HB hHeld ⊢
   refine pu_ 0 36 (bm_ 10 1) HT_ ?_
   refine pu_ 2 38 (bm_ 10 5) HT_ ?_
   refine pu_ 3 39 (bm_ 10 13) HT_ ?_
   refine tk_ 1 37 (bm_ 10 15) HT_ HW_ hHeld rfl (by rintro w' ⟨s0,s1,s2⟩;go_simp;with_reducible rfl) ?_
   refine tk_ 4 40 (bm_ 10 31) HT_ HW_ hHeld rfl (by rintro w' ⟨s0,s1,s2⟩;go_simp;with_reducible rfl) ?_
   refine one_ (i:=5) (N:=some 41) (bm_ 10 63) rfl rfl (one_of HT_.out (by kernel_rfl)) (by decide) (fun K hK=>?_)
   refine gp_ Tryd.func28 (by kernel_rfl) rfl #[.pointer (some ⟨g,0,none⟩),.bool x279000_1] (by rfl) rfl rfl (by (try simp only[List.map_toArray,List.map_cons,List.map_nil]);first|done|rfl|(simp only[List.length_drop,List.length_take];rfl)|(have z_:∀s_:ByteArray,s_.size≤9223372036854775807→ -(s_.size:Int)=wrap64 (-(s_.size:Int)):=(fun s_ h_=>by unfold wrap64;omega);rw[← z_ _ (by omega)];rfl)|(simp only[ByteArray.size_append];rfl)) ?_
   with_reducible refine(sample_reader_item_g.calls _ _ _ _ _ _ _ w0 _ ?side1 ?side2 A34.out).mono ?_
   (case side1=>exact is63_ HI0)
   (case side2=>exact bs63_ HB HI0)
   rintro e w' ⟨rfl,hb⟩
   refine⟨_,rfl,?_⟩
   exact And.intro rfl (And.intro rfl hb)
   try go_wp2
  skip
  replace H:=Option.bind_eq_some_iff.mp H
  obtain⟨⟨t303,t304,t305,t306⟩,A430,H⟩:=H
  dsimp only at H
  have A43:=Aside0.mk A430
  clear A430
  replace H:=ifn_ H
  obtain⟨c44,H⟩:=H
  have LMc44:=Aside0.mk c44
  clear c44
  obtain⟨y307,hy307⟩:∃y_:List (S37),y_=(x279001_2++[(⟨t303,t304⟩:S37)]):=⟨_,rfl⟩
  replace H:(sample_reader_set_g.l0 k2 t305 t306 x279000_1 y307 false)=some (r1,r2):=by first|(rw[hy307];with_reducible exact H)|(have H2_:=(Option.bind_some _ _).symm.trans H;rw[hy307];with_reducible exact H2_)|(have H2_:=(Option.bind_some _ _).symm.trans H;with_reducible exact H2_)|with_reducible exact H|(rw[hy307];exact H)|exact H
  have Ny307:=Aside0.mk hy307
  clear hy307
  have H':=Aside0.mk H
  clear H
  try go_wp2_with (first|((with_reducible refine gate_callee (f:=26) rfl ?_);refine gl_ (some 26) Tryd.func26 #[.pointer (some ⟨g,0,none⟩),.string (⟨#[44]⟩:ByteArray)] ?_;(with_reducible refine(sample_reader_take.calls _ _ _ _ _ _ _ _ w0 _ ?side1 ?side2 A28.out).mono ?_);(case side1=>exact is63_ HI0);(case side2=>exact bs63_ HB HI0);rintro e w45 ⟨rfl,hi,hb,hk⟩;refine⟨_,rfl,?_⟩;have n0_:=Aside0.mk (Kd.R_mono (Kd.R_keep (IsS63.apart (show IsS63 w0 _ g x1000_2 x1001_2 from is63_ HI0) (kr_ HO_279001) (by decide)) hk (fun _ h=>h.2)) (fun _ h=>h.1));have n1_:=Aside0.mk (KeepBut.blk hk (bk_ BK277).out NB277_0.out (by simp));have n2_:=Aside0.mk (KeepBut.blk hk (bk_ BK278).out NB278_0.out (by simp));have n3_:=Aside0.mk (KeepBut.trans (kp_ HK) hk (.inl rfl));have n4_:=Aside0.mk (hb);have n5_:=Aside0.mk (hi);clear HO_279001;clear BK277;clear BK278;clear HK;clear HB;clear HI0;revert n0_ n1_ n2_ n3_ n4_ n5_;intro HO_279001 BK277 BK278 HK HB HI0;(try clear hb);(try clear hk);(try clear hi))|((with_reducible refine gate_callee (f:=26) rfl ?_);refine gl_ (some 28) Tryd.func26 #[.pointer (some ⟨g,0,none⟩),.string (⟨#[226,128,166]⟩:ByteArray)] ?_;(with_reducible refine(sample_reader_take.calls _ _ _ _ _ _ _ _ w0 _ ?side1 ?side2 A30.out).mono ?_);(case side1=>exact is63_ HI0);(case side2=>exact bs63_ HB HI0);rintro e w46 ⟨rfl,hi,hb,hk⟩;refine⟨_,rfl,?_⟩;have n0_:=Aside0.mk (Kd.R_mono (Kd.R_keep (IsS63.apart (show IsS63 w0 _ g t295 t296 from is63_ HI0) (kr_ HO_279001) (by decide)) hk (fun _ h=>h.2)) (fun _ h=>h.1));have n1_:=Aside0.mk (KeepBut.blk hk (bk_ BK277).out NB277_0.out (by simp));have n2_:=Aside0.mk (KeepBut.blk hk (bk_ BK278).out NB278_0.out (by simp));have n3_:=Aside0.mk (KeepBut.trans (kp_ HK) hk (.inl rfl));have n4_:=Aside0.mk (hb);have n5_:=Aside0.mk (hi);clear HO_279001;clear BK277;clear BK278;clear HK;clear HB;clear HI0;revert n0_ n1_ n2_ n3_ n4_ n5_;intro HO_279001 BK277 BK278 HK HB HI0;(try clear hb);(try clear hk);(try clear hi))|(go_at_call 26;(with_reducible refine(sample_reader_take.calls _ _ _ _ _ _ _ _ w0 _ ?side1 ?side2 A32.out).mono ?_);(case side1=>exact is63_ HI0);(case side2=>exact bs63_ HB HI0);rintro e w47 ⟨rfl,hi,hb,hk⟩;have n0_:=Aside0.mk (Kd.R_mono (Kd.R_keep (IsS63.apart (show IsS63 w0 _ g t298 t299 from is63_ HI0) (kr_ HO_279001) (by decide)) hk (fun _ h=>h.2)) (fun _ h=>h.1));have n1_:=Aside0.mk (KeepBut.blk hk (bk_ BK277).out NB277_0.out (by simp));have n2_:=Aside0.mk (KeepBut.blk hk (bk_ BK278).out NB278_0.out (by simp));have n3_:=Aside0.mk (KeepBut.trans (kp_ HK) hk (.inl rfl));have n4_:=Aside0.mk (hb);have n5_:=Aside0.mk (hi);clear HO_279001;clear BK277;clear BK278;clear HK;clear HB;clear HI0;revert n0_ n1_ n2_ n3_ n4_ n5_;intro HO_279001 BK277 BK278 HK HB HI0;(try clear hb);(try clear hk);(try clear hi);have hnb48:=NB278_277.out;have hnc48:=NB277_278.out;have hnb49:=NB278_0.out;have hnc49:=NB0_278.out;obtain⟨hcz50_0,hcz50_1,hcz50_2,hfz50_0,hfz50_1,hfz50_2⟩:=bo3_ BK278))
  have n0_:Aside0 (Kd.R k37 37 (w47.setCell ⟨gb278,2,none⟩ (.bool false)) w.heap.size (fun _=>True) u279001 x279001_2):=⟨kdR_ (Kd.R_mono (Kd.R_far (Kd.R_types HO_279001.out BK278.out (by decide)) (fun _ hk=>hk.2) _) (fun _ hk=>trivial))⟩
  have n1_:Aside0 ((w47.setCell ⟨gb278,2,none⟩ (.bool false)).heap[gb277]? = _):=bf_ BK277
  have n2_:Aside0 ((w47.setCell ⟨gb278,2,none⟩ (.bool false)).heap[gb278]? = some (.cells #[.bool x279000_1,u279001,.bool false] 35 (0,0))):=⟨(bp_ BK278).out⟩
  have n3_:Aside0 (IsS63 w0 (w47.setCell ⟨gb278,2,none⟩ (.bool false)) g t301 t302):=⟨is63_ HI0⟩
  have n4_:Aside0 (KeepBut w (w47.setCell ⟨gb278,2,none⟩ (.bool false)) g none):=⟨kp_ HK⟩
  have n5_:Aside0 (Below w0.heap.size w0 (w47.setCell ⟨gb278,2,none⟩ (.bool false))):=⟨bs63_ HB HI0⟩
  (try clear HO_279001)
  (try clear BK277)
  (try clear BK278)
  (try clear HI0)
  (try clear HK)
  (try clear HB)
  generalize (w47.setCell ⟨gb278,2,none⟩ (.bool false))=w51 at n0_ n1_ n2_ n3_ n4_ n5_ ⊢
  revert n0_ n1_ n2_ n3_ n4_ n5_
  intro HO_279001 BK277 BK278 HI0 HK HB
  replace HO_279001:=Aside0.mk (Kd.R_drew HO_279001.out)
  replace BK277:=Aside0.mk (blk_drew BK277.out)
  replace BK278:=Aside0.mk (blk_drew BK278.out)
  replace HI0:=Aside0.mk (IsS63.drew HI0.out)
  replace HK:=Aside0.mk (keep_drew HK.out)
  replace HB:=Aside0.mk (below_drew1 HB.out)
  refine start_ (n:=10) (S:=fun w'=>w'.cell? ⟨gb278,0,none⟩=some (.bool x279000_1)∧w'.cell? ⟨gb278,1,none⟩=some (u279001)∧w'.cell? ⟨gb278,2,none⟩=some (.bool false)) (ds:=[9]) #[false,false,false,false,false,false,false,false,false,false] (by kernel_rfl) rfl rfl ⟨bc_ BK278 0,bc_ BK278 1,bc_ BK278 2⟩ (fun hHeld=>?_);refine with_tabW sample_reader_set_g.tab10 sample_reader_set_g.bits10 (fun HT_ HW_=>?_)
  generalize w51.drew=w52 at HO_279001 BK277 BK278 HI0 HK HB hHeld ⊢
  refine pu_ 0 36 (bm_ 10 1) HT_ ?_
  refine pu_ 2 38 (bm_ 10 5) HT_ ?_
  refine pu_ 3 39 (bm_ 10 13) HT_ ?_
  refine tk_ 1 37 (bm_ 10 15) HT_ HW_ hHeld rfl (by rintro w' ⟨s0,s1,s2⟩;go_simp;with_reducible rfl) ?_
  refine tk_ 4 40 (bm_ 10 31) HT_ HW_ hHeld rfl (by rintro w' ⟨s0,s1,s2⟩;go_simp;with_reducible rfl) ?_
  refine one_ (i:=5) (N:=some 41) (bm_ 10 63) rfl rfl (one_of HT_.out (by kernel_rfl)) (by decide) (fun K hK=>?_)
  refine gs_ Tryd.func28 #[.pointer (some ⟨g,0,none⟩),.bool x279000_1] ?_
  with_reducible refine(sample_reader_item.calls _ _ _ _ _ _ _ _ _ w0 _ ?side1 ?side2 A43.out).mono ?_
  (case side1=>exact is63_ HI0)
  (case side2=>exact bs63_ HB HI0)
  rintro e w53 ⟨rfl,hi,hb,hk⟩
  refine⟨_,rfl,?_⟩
  have n0_:=Aside0.mk (Kd.R_mono (Kd.R_keep (IsS63.apart (show IsS63 w0 _ g t301 t302 from is63_ HI0) (kr_ HO_279001) (by decide)) hk (fun _ h=>h.2)) (fun _ h=>h.1))
  have n1_:=Aside0.mk (KeepBut.blk hk (bk_ BK277).out NB277_0.out (by simp))
  have n2_:=Aside0.mk (KeepBut.blk hk (bk_ BK278).out NB278_0.out (by simp))
  have n3_:=Aside0.mk (KeepBut.trans (kp_ HK) hk (.inl rfl))
  have n4_:=Aside0.mk (hb)
  have n5_:=Aside0.mk (hi)
  clear HO_279001
  clear BK277
  clear BK278
  clear HK
  clear HB
  clear HI0
  revert n0_ n1_ n2_ n3_ n4_ n5_
  intro HO_279001 BK277 BK278 HK HB HI0
  (try clear hb)
  (try clear hb2)
  (try clear hk)
  (try clear hi)
  refine hK.out _ _ ⟨bc_ BK278 0,bc_ BK278 1,bc_ BK278 2⟩ (fun hHeld=>?_)
  clear hK K
  refine nm_ 41 ?_
  refine one_ (i:=6) (N:=some 42) (bm_ 10 127) rfl rfl (one_of HT_.out (by kernel_rfl)) (by decide) (fun K hK=>?_)
  refine value_ (w1:=?_) (v:=?_) (by rfl) rfl ?_ ?_
  rotate_left 2
  ·go_simp
   constructor
   ·rfl
   rfl
  refine hK.out _ _ ⟨(blk_cell (blk_alloc BK278.out _) 0).trans rfl,(blk_cell (blk_alloc BK278.out _) 1).trans rfl,(blk_cell (blk_alloc BK278.out _) 2).trans rfl⟩ (fun hHeld=>?_)
  clear hK K
  refine nm_ 42 ?_
  refine one_ (i:=7) (N:=some 43) (bm_ 10 255) rfl rfl (one_of HT_.out (by kernel_rfl)) (by decide) (fun K hK=>?_)
  refine Kd.R_append_step k37 w.heap.size (by rfl) (.tmp 37) (.tmp 42) 33 37 (.agg #[(.string ⟨#[]⟩),(.string ⟨#[]⟩)]) 32 rfl Tryd.underlying33 info37 rfl (by decide) (by omega) u279001 x279001_2 (⟨t303,t304⟩:S37) [.string t303,.string t304] (fun _=>True) (fun _=>False) rfl rfl ?aP (fun _ hk=>hk.elim) ?aF ?aO (Below.refl _ _) ?aS ?aL ?_
  (case aP=>exact k37_mkM _ _ _ (⟨t303,t304⟩:S37))
  (case aF=>exact(fun _ _=>trivial))
  (case aO=>exact(kr_ HO_279001))
  (case aS=>exact(keep_size (w:=w) (g:=g) (row:=none) (kp_ HK)))
  (case aL=>have:=LMc44.out;omega)
  intro v308 w54 ho hb hg hat
  rw[← Ny307.out] at ho
  have n0_:=Aside0.mk (blk_grown (bk_ BK277).out hg (Kd.R_ne HO_279001.out BK277.out (by decide)))
  have n1_:=Aside0.mk (blk_grown (bk_ BK278).out hg (Kd.R_ne HO_279001.out BK278.out (by decide)))
  have n2_:=Aside0.mk (IsS63.grown (is63_ HI0) hg (IsS63.own_ne HI0.out HO_279001.out (by decide)))
  have n3_:=Aside0.mk (below_weaken (bs63_ HB HI0) HL.out hb)
  have n4_:=Aside0.mk (KeepBut.trans (kp_ HK) (KeepBut.of_grown hg g) (Kd.R_base2 HO_279001.out))
  have n5_:=Aside0.mk (ho)
  clear BK277
  clear BK278
  clear HI0
  clear HB
  clear HK
  clear HO_279001
  revert n0_ n1_ n2_ n3_ n4_ n5_
  intro BK277 BK278 HI0 HB HK HO309
  clear ho hb hg hat
  obtain⟨Ao55,co55,eo55⟩:=Kd.R_slice HO309.out
  (first|subst eo55|(injection eo55 with f1_ f2_ f3_;have f4_:=f1_.symm;have f5_:=f3_.symm;clear f1_ f2_ f3_;subst f4_;subst f5_))
  refine hK.out _ _ ⟨bc_ BK278 0,bc_ BK278 1,bc_ BK278 2⟩ (fun hHeld=>?_)
  clear hK K
  refine nm_ 43 ?_
  refine pu_ 8 44 (bm_ 10 511) HT_ ?_
  refine last_ (i:=9) (N:=none) #[true,true,true,true,true,true,true,true,true,true] rfl rfl (one_of HT_.out (by kernel_rfl)) (by decide) (fun K hK=>?_)
  have hs56:w54.cell? ⟨gb278,1,none⟩=some (u279001):=bc_ BK278 1
  have hfs56:=blk_frozen BK278.out 1
  have hns56_0:=NB277_278.out
  have hms56_0:=NB278_277.out
  refine skip_ (w1:=?_) (by rfl) rfl ?_ ?_
  rotate_left
  ·go_simp
   rfl
  refine hK.out _ _ ?_
  clear hK K
  refine done_ (done_of HT_.out (by kernel_rfl)) ?_
  try go_wp2
  go_roundg k2
  case measure=>have:=HJ1.out;have:=HK2.out;omega
  case rel=>exact⟨(t305),(t306),(y307),(false),(.slice Ao55 y307.length co55),H',⟨by have:=HJ1.out;have:=HK2.out;omega⟩,⟨kdR_ (Kd.R_mono (Kd.R_far (Kd.R_types HO309.out BK278.out (by decide)) (fun _ hk=>hk.2) _) (fun _ hk=>trivial))⟩,⟨(bf_ BK277).out⟩,⟨(bp_ BK278).out⟩,⟨is63_ HI0⟩,⟨kp_ HK⟩,⟨bs63_ HB HI0⟩⟩
 replace c29:=Bool.eq_false_iff.mpr c29
 subst c29
 rw[if_neg (show ¬(false=true) by decide)] at H
 exact absurd H (by simp)

/-! ### sample_Parse: function 9 -/
def sample_Parse.l0 (s:ByteArray):Nat→List S35→ByteArray→Int→Option (List S35)
  | 0,_,_,_=>none
  | k+1,out,s0,p0=>if p0<(s.size:Int) then (sample_reader_set.f k s0 p0).bind fun t=>(if out.length<1000000 then (sample_reader_blanks.f k t.2.2.2.1 t.2.2.2.2).bind fun u=>sample_Parse.l0 s k (out++[⟨t.1,t.2.1,t.2.2.1⟩]) u.1 u.2 else none) else some out
def sample_Parse.l0_g (s:ByteArray):Nat→List S35→ByteArray→Int→Option (Int × Int)
  | 0,_,_,_=>none
  | k+1,out,s0,p0=>if p0<(s.size:Int) then orf_ ((sample_reader_set_g.f k s0 p0).bind fun t=>some (t.1,t.2)) ((sample_reader_set.f k s0 p0).bind fun t=>(if out.length<1000000 then (sample_reader_blanks.f k t.2.2.2.1 t.2.2.2.2).bind fun u=>sample_Parse.l0_g s k (out++[⟨t.1,t.2.1,t.2.2.1⟩]) u.1 u.2 else none)) else none
def sample_Parse.f (k:Nat) (s:ByteArray):Option (List S35 × Int × Int):=(sample_reader_blanks.f k s 0).bind fun u=>orf_ ((sample_Parse.l0_g s k [] u.1 u.2).bind fun t=>some ([],t.1,t.2)) ((sample_Parse.l0 s k [] u.1 u.2).bind fun o=>some (o,0,0))
theorem sample_Parse.info:(Tryd.prog.info? 35).map (fun i=>(i.zero,i.size,i.bytes))=some (some (.agg #[(.bool false),(.slice none 0 0),(.bool false)]),3,40):=by kernel_rfl
set_option maxRecDepth 100000 in
set_option maxHeartbeats 1000000 in
theorem sample_Parse.catch (g2 g3 g4:Nat) (e at_:Int) (v2 v3 v4:Value) (w0 w:World) (hB:Below w0.heap.size w0 w)
    (h2:w.heap[g2]? = some (.cells #[v2] 25 (0,0))) (h3:w.heap[g3]? = some (.cells #[v3] 29 (0,0))) (h4:w.heap[g4]? = some (.cells #[v4] 3 (0,0)))
    (h23:g2≠g3) (h24:g2≠g4) (h34:g3≠g4) (hb2:w0.heap.size≤g2) (hb3:w0.heap.size≤g3) (hb4:w0.heap.size≤g4) :
    CallsD Tryd.prog 16 #[.pointer (some ⟨g2,0,none⟩),.pointer (some ⟨g3,0,none⟩),.pointer (some ⟨g4,0,none⟩)] (.panicking [{v:= .iface 59 (.agg #[.int .i64 e,.int .i64 at_]),recovered:=false}]) w fun en u' w' =>
      en= .returned (.tuple #[])∧settle u'= .returning∧w'.cell? ⟨g2,0,none⟩=some (.slice none 0 0)∧w'.cell? ⟨g3,0,none⟩=some (.int .i64 e)∧w'.cell? ⟨g4,0,none⟩=some (.int .i64 at_)∧Below w0.heap.size w0 w':=by
  have l2:=blk_lt h2
  have l3:=blk_lt h3
  have l4:=blk_lt h4
  refine callsD_of_wpS Tryd.func16 rfl fun c₀ cs hu=>?_
  apply wpS_seq
  apply wpS_region
  have hta:∀(v:Value) (W:World),(Instr.typeAssert (.iface 59 v) 20 59 true).run Tryd.prog W= .ok (.tuple #[v,.bool true]) W:=fun v W=>by rfl
  have huF:=Tryd.underlying59
  simp[wpOpsS,go_sem,recoverD,hu,Tryd.ntmps16,Exit.thenS,hta]
  apply wpS_seq
  apply wpS_region
  simp[wpOpsS,go_sem,Exit.thenS]
  rw[show(Array.replicate 12 undef:Array Value)= #[undef,undef,undef,undef,undef,undef,undef,undef,undef,undef,undef,undef] from rfl]
  simp only[List.setIfInBounds_toArray,List.set_cons_zero,List.set_cons_succ,List.append_toArray,List.cons_append,List.nil_append]
  refine wpS_cond (t:=true) (by rfl) ?_
  simp only[if_true]
  refine wpS_of_wp ?_
  have kf:=heap_alloc_new w (Obj.cells #[Value.int IntKind.i64 e,Value.int IntKind.i64 at_] 59)
  have k2:=blk_alloc h2 (Obj.cells #[Value.int IntKind.i64 e,Value.int IntKind.i64 at_] 59)
  have k3:=blk_alloc h3 (Obj.cells #[Value.int IntKind.i64 e,Value.int IntKind.i64 at_] 59)
  have k4:=blk_alloc h4 (Obj.cells #[Value.int IntKind.i64 e,Value.int IntKind.i64 at_] 59)
  have hBW:Below w0.heap.size w0 (w.alloc (Obj.cells #[Value.int IntKind.i64 e,Value.int IntKind.i64 at_] 59)):=below_alloc hB _
  generalize w.alloc (Obj.cells #[Value.int IntKind.i64 e,Value.int IntKind.i64 at_] 59)=W at kf k2 k3 k4 hBW ⊢
  have ng2:w.heap.size≠g2:=by omega
  have ng3:w.heap.size≠g3:=by omega
  have ng4:w.heap.size≠g4:=by omega
  generalize w.heap.size=gf at kf ng2 ng3 ng4 ⊢
  replace kf:=blk_drew kf
  replace k2:=blk_drew k2
  replace k3:=blk_drew k3
  replace k4:=blk_drew k4
  replace hBW:Below w0.heap.size w0 W.drew:=below_drew1 hBW
  have hf0:=blk_cell kf 0
  have hf1:=blk_cell kf 1
  have h23':=h23.symm
  have h24':=h24.symm
  have h34':=h34.symm
  refine start_ (n:=7) (S:=fun w'=>w'.cell? ⟨gf,0,none⟩=some (.int .i64 e)∧w'.cell? ⟨gf,1,none⟩=some (.int .i64 at_)) (ds:=[6]) #[false,false,false,false,false,false,false] (by kernel_rfl) rfl rfl ⟨hf0,hf1⟩ (fun hHeld=>?_)
  generalize W.drew=W2 at k2 k3 k4 kf hBW hHeld ⊢
  have c2:=blk_cell k2 0
  have c3:=blk_cell k3 0
  have c4:=blk_cell k4 0
  have f2:=blk_frozen k2 0
  have f3:=blk_frozen k3 0
  have f4:=blk_frozen k4 0
  refine pure_ (i:=0) (N:=some 11) (v:=?_) (a':=?_) #[true,false,false,false,false,false,false] rfl rfl (by kernel_rfl) (fun _ _ _ h=>h) (Or.inl ⟨by rfl,?_⟩) ?_ ?_
  rotate_left
  · intro w'
    go_simp
    with_reducible rfl
  rotate_left
  · simp only[Act.put,List.setIfInBounds_toArray,List.set_cons_zero,List.set_cons_succ,i64_w,i32_w]
    rfl
  refine pure_ (i:=2) (N:=some 13) (v:=?_) (a':=?_) #[true,false,true,false,false,false,false] rfl rfl (by kernel_rfl) (fun _ _ _ h=>h) (Or.inl ⟨by rfl,?_⟩) ?_ ?_
  rotate_left
  · intro w'
    go_simp
    with_reducible rfl
  rotate_left
  · simp only[Act.put,List.setIfInBounds_toArray,List.set_cons_zero,List.set_cons_succ,i64_w,i32_w]
    rfl
  refine take_ (i:=1) (N:=some 12) (v:=?_) (a':=?_) #[true,true,true,false,false,false,false] rfl rfl (by kernel_rfl) (fun _ _ _ h=>h) (Or.inl ⟨by rfl,?_⟩) hHeld ?_ ?_
  rotate_left
  · rintro w' ⟨s0,s1⟩
    go_simp
    with_reducible rfl
  rotate_left
  · simp only[Act.put,List.setIfInBounds_toArray,List.set_cons_zero,List.set_cons_succ,i64_w,i32_w]
    rfl
  refine take_ (i:=3) (N:=some 14) (v:=?_) (a':=?_) #[true,true,true,true,false,false,false] rfl rfl (by kernel_rfl) (fun _ _ _ h=>h) (Or.inl ⟨by rfl,?_⟩) hHeld ?_ ?_
  rotate_left
  · rintro w' ⟨s0,s1⟩
    go_simp
    with_reducible rfl
  rotate_left
  · simp only[Act.put,List.setIfInBounds_toArray,List.set_cons_zero,List.set_cons_succ,i64_w,i32_w]
    rfl
  refine one_ (i:=4) (N:=none) #[true,true,true,true,true,false,false] rfl rfl (by kernel_rfl) (by decide) (fun K hK=>?_)
  refine skip_ (w1:=?_) (by rfl) rfl ?_ ?_
  rotate_left
  · go_simp
    rfl
  refine hK.out _ _ ⟨(blk_cell (blk_far kf (by first|exact ng2|exact ng2.symm) _) 0),(blk_cell (blk_far kf (by first|exact ng2|exact ng2.symm) _) 1)⟩ (fun hHeld=>?_)
  clear hK K
  refine one_ (i:=5) (N:=none) #[true,true,true,true,true,true,false] rfl rfl (by kernel_rfl) (by decide) (fun K hK=>?_)
  refine skip_ (w1:=?_) (by rfl) rfl ?_ ?_
  rotate_left
  · go_simp
    rfl
  refine hK.out _ _ ⟨(blk_cell (blk_far (blk_far kf (by first|exact ng2|exact ng2.symm) _) (by first|exact ng3|exact ng3.symm) _) 0),(blk_cell (blk_far (blk_far kf (by first|exact ng2|exact ng2.symm) _) (by first|exact ng3|exact ng3.symm) _) 1)⟩ (fun hHeld=>?_)
  clear hK K
  refine last_ (i:=6) (N:=none) #[true,true,true,true,true,true,true] rfl rfl (by kernel_rfl) (by decide) (fun K hK=>?_)
  refine skip_ (w1:=?_) (by rfl) rfl ?_ ?_
  rotate_left
  · go_simp
    rfl
  refine hK.out _ _ ?_
  clear hK K
  refine done_ (by kernel_rfl) ?_
  have n_:∀ {x y:Nat},x≠y→x≠y:=fun h=>h
  refine⟨rfl,_,rfl,.tuple #[],by simp[go_sem,results,Tryd.results16] <;> rfl,rfl,rfl,?_,?_,?_,?_⟩
  · refine blk_cell (t:=25) (cs:= #[.slice none 0 0]) (blk_far (blk_far ?_ (by first|exact h23|exact h23') _) (by first|exact h24|exact h24') _) 0
    simpa using blk_set k2 0 (Value.slice none 0 0)
  · refine blk_cell (t:=29) (cs:= #[.int .i64 e]) (blk_far ?_ (by first|exact h34|exact h34') _) 0
    simpa using blk_set (blk_far k3 (by first|exact h23|exact h23') _) 0 (Value.int .i64 e)
  · refine blk_cell (t:=3) (cs:= #[.int .i64 at_]) ?_ 0
    simpa using blk_set (blk_far (blk_far k4 (by first|exact h24|exact h24') _) (by first|exact h34|exact h34') _) 0 (Value.int .i64 at_)
  · exact below_set (below_set (below_set hBW hb2) hb3) hb4
set_option maxRecDepth 100000 in
theorem sample_Parse.idle (p2 p3 p4:Addr) (w:World):CallsD Tryd.prog 16 #[.pointer (some p2),.pointer (some p3),.pointer (some p4)] .returning w fun e u' w' =>
    e= .returned (.tuple #[])∧u'= .returning∧Below w.heap.size w w':=by
  refine callsD_of_wpS Tryd.func16 rfl fun c₀ cs hu=>?_
  apply wpS_seq
  apply wpS_region
  have hta:∀(W:World),(Instr.typeAssert .nilIface 20 59 true).run Tryd.prog W= .ok (.tuple #[.agg #[.int .i64 0,.int .i64 0],.bool false]) W:=fun W=>by rfl
  simp[wpOpsS,go_sem,recoverD,hu,Tryd.ntmps16,Exit.thenS,hta]
  apply wpS_seq
  apply wpS_region
  simp[wpOpsS,go_sem,Exit.thenS]
  refine wpS_cond (t:=false) (by rfl) ?_
  simp only[Bool.false_eq_true,if_false]
  refine wpS_of_wp (wp_skip ?_)
  cases c₀
  simp_all [bodyPostS,results,Tryd.results16]
  exact below_alloc (Below.refl _ _) _

theorem sample_Parse.leaves {P:Program} {fn:Func} {R:Ending→World→Prop} {t t':Array Value} (h:results fn t=results fn t'):∀(ds:List Deferred) (u:FrameMode) (w:World),Leaves P fn t R ds u w→Leaves P fn t' R ds u w
  | [],.returning,w,hh=>by
    simp only[Leaves] at hh ⊢
    rw[← h];exact hh
  | [],.panicking c,w,hh=>hh
  | [],.run,w,hh=>hh
  | d::ds,u,w,⟨hr,fv,cap,f,args,h1,h2,h3⟩=>⟨hr,fv,cap,f,args,h1,h2,h3.mono fun e u' w' he=>by
    cases e with
    | returned v=>exact sample_Parse.leaves h ds _ _ he
    | panicked c=>exact sample_Parse.leaves h ds _ _ he
    | outgrown=>exact he⟩
theorem sample_Parse.res (t:Array Value) (i:Nat) (v:Value) (hi:4<i):results Tryd.f9 (t.setIfInBounds i v)=results Tryd.f9 t:=by
  have hg:∀j,j<5→(t.setIfInBounds i v)[j]? = t[j]? :=fun j hj=>Array.getElem?_setIfInBounds_ne (by omega)
  simp only[results,Tryd.results9]
  simp[hg]
def sample_Parse.T6:Bool × List (List Nat × List Nat):=(true,[([],[]),([],[]),([1],[1]),([2],[2]),([0,3,2],[0,3]),([4,4,0,1,2,3,4],[4])])
def sample_Parse.B6:List Nat:=[0,0,2,6,15,31]
theorem sample_Parse.tab6:rtab .any (opsOf Tryd.f9 6)=sample_Parse.T6:=by kernel_rfl
theorem sample_Parse.bits6:waitsOk sample_Parse.T6.2 sample_Parse.B6=true:=by kernel_rfl
set_option maxHeartbeats 8000000 in
set_option maxRecDepth 100000 in
theorem sample_Parse.calls (k:Nat) (a0:ByteArray) (r1:List S35) (r2 r3:Int) (w:World) (h:sample_Parse.f k a0=some (r1,r2,r3)) :
    Calls Tryd.prog 9 #[.string a0] w fun e w'=>∃v0_:Value,e= .returned (.tuple #[v0_,.int .i64 r2,.int .i64 r3])∧Kd.N k35 35 w' w.heap.size (fun k_=>(w.heap.size≤k_)) v0_ r1∧Below w.heap.size w w':=by
  unfold sample_Parse.f at h
  have hmf:∀(fn:Fn) (first cap:Array Value) (w:World),(Instr.makeFunc fn first cap).run Tryd.prog w= .ok (.func fn first cap) w:=fun _ _ _ _=>rfl
  have hu61:=Tryd.underlying63
  obtain⟨⟨u1,u2⟩,hbl,h⟩:=Option.bind_eq_some_iff.mp h
  dsimp only at h
  generalize hW3:((w.alloc (Obj.cells #[Value.slice none 0 0] 25)).alloc (Obj.cells #[Value.int IntKind.i64 0] 29)).alloc (Obj.cells #[Value.int IntKind.i64 0] 3)=W3
  have hB3:Below w.heap.size w W3:=by subst hW3;exact below_alloc (below_alloc (below_alloc (Below.refl _ _) _) _) _
  have hb2:W3.heap[w.heap.size]? = some (.cells #[Value.slice none 0 0] 25 (0,0)):=by
    subst hW3;exact blk_alloc (blk_alloc (heap_alloc_new w _) _) _
  have hb3:W3.heap[w.heap.size+1]? = some (.cells #[Value.int IntKind.i64 0] 29 (0,0)):=by
    subst hW3;refine blk_alloc ?_ _
    have:=heap_alloc_new (w.alloc (Obj.cells #[Value.slice none 0 0] 25)) (Obj.cells #[Value.int IntKind.i64 0] 29)
    simpa using this
  have hb4:W3.heap[w.heap.size+1+1]? = some (.cells #[Value.int IntKind.i64 0] 3 (0,0)):=by
    subst hW3
    have:=heap_alloc_new ((w.alloc (Obj.cells #[Value.slice none 0 0] 25)).alloc (Obj.cells #[Value.int IntKind.i64 0] 29)) (Obj.cells #[Value.int IntKind.i64 0] 3)
    simpa using this
  have hsz:W3.heap.size=w.heap.size+3:=by subst hW3;simp
  have A:=Aside0.mk hbl
  have HH:=Aside0.mk h
  have hW3':=Aside0.mk hW3
  clear hbl hW3 h
  go_enter_defers Tryd.func9,Tryd.ntmps9
  go_wp2_with (first|((with_reducible refine gate_dst (N:=9) rfl ?_);rw[hW3'.out];refine be_ 9 #[.string a0,.int .i64 0] 63 ?_;intro gb hg w5 hbox hb;have hI:IsS63 W3 w5 gb a0 0:=⟨hbox,by omega⟩;have hB5:Below W3.heap.size W3 w5:=hb;rw[hsz] at hg;subst hg)|((with_reducible refine gate_callee (f:=17) rfl ?_);refine gl_ (some 11) Tryd.func17 #[.pointer (some ⟨w.heap.size+3,0,none⟩)] ?_;(with_reducible refine(sample_reader_blanks.calls k _ a0 0 u1 u2 W3 _ hI hB5 A.out).mono ?_);rintro e w6 ⟨rfl,hI6,hb6,-⟩;refine⟨_,rfl,?_⟩))
  (try simp only[Act.put,List.setIfInBounds_toArray,List.set_cons_zero,List.set_cons_succ])
  go_loopg [] k (fun kq w'=>∃(ps:ByteArray) (pp:Int) (out:List S35) (v:Value),Aside0 ((orf_ ((sample_Parse.l0_g a0 kq out ps pp).bind fun t=>some (([]:List S35),t.1,t.2)) ((sample_Parse.l0 a0 kq out ps pp).bind fun o=>some (o,(0:Int),(0:Int))))=some (r1,r2,r3))∧Aside0 (kq≤k)∧Aside0 (w'.heap[w.heap.size]? = some (.cells #[v] 25 (0,0)))∧Aside0 (w'.heap[w.heap.size+1]? = some (.cells #[Value.int IntKind.i64 0] 29 (0,0)))∧Aside0 (w'.heap[w.heap.size+1+1]? = some (.cells #[Value.int IntKind.i64 0] 3 (0,0)))∧Aside0 (Kd.N k35 35 w' w.heap.size (fun k_=>w.heap.size+3<k_) v out)∧Aside0 (IsS63 w w' (w.heap.size+3) ps pp)∧Aside0 (Below w.heap.size w w'))
  case atStart=>exact⟨u1,u2,[],.slice none 0 0,HH,⟨Nat.le_refl _⟩,⟨blk_below hb2 hb6⟩,⟨blk_below hb3 hb6⟩,⟨blk_below hb4 hb6⟩,⟨Kd.N_nil _ _ _ _ _⟩,⟨⟨hI6.1,by omega⟩⟩,⟨hB3.trans (hb6.mono (by omega))⟩⟩
  clear hI6 hb6
  obtain⟨ps,pp,out,v,HA,HK1,B2,B3,B4,HO,HI0,HB⟩:=hrel
  cases gk with
  | zero =>
    have H:=HA.out
    simp[sample_Parse.l0,sample_Parse.l0_g,orf_] at H
  | succ k1 =>
  have H:=HA.out
  clear HA
  simp only[sample_Parse.l0,sample_Parse.l0_g] at H
  by_cases c2:pp<(a0.size:Int)
  · simp only[if_pos c2] at H
    have c2b0:=decide_eq_true c2
    obtain⟨hcz6_0,hcz6_1,hfz6_0,hfz6_1⟩:=cs63_ HI0
    have hne:w.heap.size+3<(wr.heap.size):=IsS63.lt HI0.out
    try go_wp2
    replace B2:=blk_drew B2.out
    replace B3:=blk_drew B3.out
    replace B4:=blk_drew B4.out
    replace HO:=Kd.N_drew HO.out
    replace HI0:=IsS63.drew HI0.out
    replace HB:=below_drew1 HB.out
    have hne2:w.heap.size+3<wr.drew.heap.size:=hne
    refine start_ (n:=6) (S:=fun w'=>w'.cell? ⟨w.heap.size,0,none⟩=some v) (ds:=[5]) #[false,false,false,false,false,false] (by kernel_rfl) rfl rfl (blk_cell B2 0) (fun hHeld=>?_);refine with_tabW sample_Parse.tab6 sample_Parse.bits6 (fun HT_ HW_=>?_)
    generalize wr.drew=wd at B2 B3 B4 HO HI0 HB hne2 hHeld ⊢
    refine pu_ 1 22 (bm_ 6 2) HT_ ?_ (hQ:=by intro c a w h;exact sample_Parse.leaves (sample_Parse.res a.tmps 22 _ (by decide)) _ _ _ h)
    refine tk_ 0 21 (bm_ 6 3) HT_ HW_ hHeld rfl (by intro w' s0;go_simp;with_reducible rfl) ?_ (hQ:=by intro c a w h;exact sample_Parse.leaves (sample_Parse.res a.tmps 21 _ (by decide)) _ _ _ h)
    refine one_ (i:=2) (N:=some 23) (bm_ 6 7) rfl rfl (one_of HT_.out (by kernel_rfl)) (by decide) (fun K hK=>?_)
    cases hg:sample_reader_set_g.f k1 ps pp with
    | some t =>
      obtain⟨t1,t2⟩:=t
      rw[hg] at H
      have H2:some (([]:List S35),t1,t2)=some (r1,r2,r3):=by simpa [orf_] using H
      simp only[Option.some.injEq,Prod.mk.injEq] at H2
      obtain⟨rfl,rfl,rfl⟩:=H2
      refine gp_ Tryd.func18 (by kernel_rfl) rfl #[.pointer (some ⟨w.heap.size+3,0,none⟩)] (by rfl) rfl rfl (by (try simp only[List.map_toArray,List.map_cons,List.map_nil]);first|done|rfl) ?_
      obtain⟨wt,hwt⟩:∃wt:World,wt={wd with heap:=wd.heap.extract 0 (w.heap.size+3)}:=⟨_,rfl⟩
      have hts:wt.heap.size=w.heap.size+3:=by rw[hwt];simp;omega
      have htk:∀k,k<w.heap.size+3→wt.heap[k]? = wd.heap[k]? :=fun k hk=>by
        rw[hwt]
        show(wd.heap.extract 0 (w.heap.size+3))[k]? = _
        rw[Array.getElem?_extract]
        simp;omega
      have hBt:Below wt.heap.size wt wd:=⟨by rw[hwt],by rw[hwt],by rw[hwt],by rw[hts];omega,fun k hk=>(htk k (by omega)).symm⟩
      have hBw:Below w.heap.size w wt:=⟨by rw[hwt];exact HB.os,by rw[hwt];exact HB.tape,by rw[hwt];exact HB.output,by rw[hts];omega,fun k hk=>(htk k (by omega)).trans (HB.block k hk)⟩
      have T2:=(htk w.heap.size (by omega)).trans B2
      have T3:=(htk (w.heap.size+1) (by omega)).trans B3
      have T4:=(htk (w.heap.size+1+1) (by omega)).trans B4
      clear hwt htk
      with_reducible refine(sample_reader_set_g.calls _ _ _ _ _ _ wt _ ?side1 ?side2 hg).mono ?_
      (case side1=>exact⟨HI0.1,by omega⟩)
      (case side2=>exact hBt)
      rintro e w7 ⟨rfl,hb7⟩
      refine⟨_,rfl,?_⟩
      show Leaves _ _ _ _ [_] (.panicking _) w7
      refine leaves_cons (f:=16) (args:= #[.pointer (some ⟨w.heap.size,0,none⟩),.pointer (some ⟨w.heap.size+1,0,none⟩),.pointer (some ⟨w.heap.size+1+1,0,none⟩)]) (by simp) (by simp[go_sem]) ?_
      refine(sample_Parse.catch _ _ _ t1 t2 _ _ _ w w7 (hBw.trans (hb7.mono (by omega))) (blk_below T2 hb7) (blk_below T3 hb7) (blk_below T4 hb7) (by omega) (by omega) (by omega) (by omega) (by omega) (by omega)).mono ?_
      rintro e u' w8 ⟨rfl,hu8,i2,i3,i4,hb8⟩
      show Leaves _ _ _ _ [] (settle u') w8
      rw[hu8]
      simp only[Leaves,results,Tryd.results9]
      refine⟨_,by simp[go_sem,i2,i3,i4] <;> rfl,_,rfl,Kd.N_nil _ _ _ _ _,hb8⟩
    | none =>
      rw[hg] at H
      cases hs:sample_reader_set.f k1 ps pp with
      | none=>rw[hs] at H;simp[orf_] at H
      | some t =>
        obtain⟨t1,t2,t3,t4,t5⟩:=t
        rw[hs] at H
        simp only[orf_,Option.bind_none,Option.bind_some] at H
        by_cases hlen:out.length<1000000
        · simp only[if_pos hlen] at H
          cases hbk:sample_reader_blanks.f k1 t4 t5 with
          | none=>rw[hbk] at H;simp[orf_] at H
          | some tb =>
            obtain⟨u3,u4⟩:=tb
            rw[hbk] at H
            simp only[Option.bind_some] at H
            refine gs_ Tryd.func18 #[.pointer (some ⟨w.heap.size+3,0,none⟩)] ?_
            with_reducible refine(sample_reader_set.calls _ _ _ _ _ _ _ _ _ w _ ?side1 ?side2 hs).mono ?_
            (case side1=>exact HI0)
            (case side2=>exact HB)
            rintro e w7 ⟨v7,rfl,ho7,hi7,hb7,hk7⟩
            refine⟨_,rfl,?_⟩
            have hlt7:wd.heap.size≤w7.heap.size:=hk7.1
            have B2_7:=KeepBut.blk hk7 B2 (by omega) (by simp)
            have B3_7:=KeepBut.blk hk7 B3 (by omega) (by simp)
            have B4_7:=KeepBut.blk hk7 B4 (by omega) (by simp)
            have HO7:Kd.N k35 35 w7 w.heap.size (fun k_=>w.heap.size+3<k_) v out:=Kd.N_mono (Kd.N_keep (Kd.N_mono (ok':=fun k_=>(w.heap.size+3<k_)∧k_≠w.heap.size+3) HO (fun k_ hk=>⟨hk,by omega⟩)) hk7 (fun _ h=>h.2)) (fun _ h=>h.1)
            have HR7:Kd.N k37 37 w7 wd.heap.size (fun k_=>(w.heap.size+3<k_)∧some k_≠v.ownBlock) v7 t2:=Kd.N_mono (Kd.R_N (Kd.R_bound ho7)) (fun k_ hk=>⟨by have:=hk.2.1;omega,Kd.fresh' (Kd.N_lt HO) k_ hk.2.1⟩)
            obtain⟨A7,c7,rfl⟩:=Kd.R_slice ho7
            refine hK.out _ _ (blk_cell B2_7 0) (fun hHeld=>?_)
            clear hK K
            refine nm_ 23 ?_
            refine one_ (i:=3) (N:=some 24) (bm_ 6 15) rfl rfl (one_of HT_.out (by kernel_rfl)) (by decide) (fun K hK=>?_)
            refine value_ (w1:=?_) (v:=?_) (by rfl) rfl ?_ ?_
            rotate_left 2
            · go_simp
              constructor
              · rfl
              rfl
            refine hK.out _ _ (blk_cell (blk_alloc B2_7 _) 0) (fun hHeld=>?_)
            clear hK K
            refine nm_ 24 ?_
            refine one_ (i:=4) (N:=some 25) (bm_ 6 31) rfl rfl (one_of HT_.out (by kernel_rfl)) (by decide) (fun K hK=>?_)
            refine Kd.N_append_step k35 w.heap.size (by rfl) (.tmp 21) (.tmp 24) 25 35 (.agg #[(.bool false),(.slice none 0 0),(.bool false)]) 40 rfl Tryd.underlying25 sample_Parse.info rfl (by decide) (by omega) v out (⟨t1,t2,t3⟩:S35) [.bool t1,.slice A7 t2.length c7,.bool t3] (fun k_=>w.heap.size+3<k_) (fun k_=>(w.heap.size+3<k_)∧some k_≠v.ownBlock) rfl rfl ?aP (fun _ hk=>hk) ?aF HO7 hb7 ?aS ?aL ?_
            (case aP=>exact k35_mkF _ _ (⟨t1,t2,t3⟩:S35) (Kd.N_reads' HR7).2.1 (Kd.N_F HR7))
            (case aF=>exact(fun k_ hk=>by omega))
            (case aS=>exact hb7.size)
            (case aL=>omega)
            intro v8 w8 ho8 hb8 hg8 hat8
            have B2_8:=blk_grown B2_7 hg8 (Kd.N_ne HO7 B2_7 (by decide))
            have B3_8:=blk_grown B3_7 hg8 (Kd.N_ne HO7 B3_7 (by decide))
            have B4_8:=blk_grown B4_7 hg8 (Kd.N_ne HO7 B4_7 (by decide))
            have hI8:=IsS63.grown hi7 hg8 (IsS63.own_neN hi7 HO7 (by decide))
            obtain⟨A8,c8,rfl⟩:=Kd.N_slice ho8
            have hl8:(out++[(⟨t1,t2,t3⟩:S35)]).length=out.length+1:=by simp
            clear hat8
            rw[hl8] at ho8
            refine hK.out _ _ (blk_cell B2_8 0) (fun hHeld=>?_)
            clear hK K
            refine nm_ 25 ?_
            refine last_ (i:=5) (N:=none) #[true,true,true,true,true,true] rfl rfl (one_of HT_.out (by kernel_rfl)) (by decide) (fun K hK=>?_)
            have hs9:=blk_cell B2_8 0
            have hf9:=blk_frozen B2_8 0
            refine skip_ (w1:=?_) (by rfl) rfl ?_ ?_
            rotate_left
            · go_simp
              rfl
            refine hK.out _ _ ?_
            clear hK K
            refine done_ (done_of HT_.out (by kernel_rfl)) ?_
            have hI9:IsS63 w (w8.setCell ⟨w.heap.size,0,none⟩ (.slice A8 (out.length+1) c8)) (w.heap.size+3) t4 t5:=IsS63.far hI8 (by show w.heap.size+3≠w.heap.size;omega) _
            have hB9:Below w.heap.size w (w8.setCell ⟨w.heap.size,0,none⟩ (.slice A8 (out.length+1) c8)):=below_set hb8 (Nat.le_refl _)
            have B2_9:(w8.setCell ⟨w.heap.size,0,none⟩ (.slice A8 (out.length+1) c8)).heap[w.heap.size]? = some (.cells #[.slice A8 (out.length+1) c8] 25 (0,0)):=by simpa using blk_set B2_8 0 (.slice A8 (out.length+1) c8)
            have B3_9:=blk_far B3_8 (show w.heap.size+1≠w.heap.size by omega) (p:=⟨w.heap.size,0,none⟩) (.slice A8 (out.length+1) c8)
            have B4_9:=blk_far B4_8 (show w.heap.size+1+1≠w.heap.size by omega) (p:=⟨w.heap.size,0,none⟩) (.slice A8 (out.length+1) c8)
            have HO9:=Kd.N_far (p:=⟨w.heap.size,0,none⟩) ho8 (fun k_ hk=>by show k_≠w.heap.size;omega) (.slice A8 (out.length+1) c8)
            generalize (w8.setCell ⟨w.heap.size,0,none⟩ (.slice A8 (out.length+1) c8))=w9 at hI9 hB9 B2_9 B3_9 B4_9 HO9 ⊢
            have A9:=Aside0.mk hbk
            go_wp2_with (first|((with_reducible refine gate_callee (f:=17) rfl ?_);refine gl_ (some 20) Tryd.func17 #[.pointer (some ⟨w.heap.size+3,0,none⟩)] ?_;(with_reducible refine(sample_reader_blanks.calls k1 _ t4 t5 u3 u4 w _ hI9 hB9 A9.out).mono ?_);rintro e w10 ⟨rfl,hI10,hB10,hk10⟩;refine⟨_,rfl,?_⟩))
            go_roundg k1
            case measure=>have:=HK1.out;omega
            case rel=>exact⟨u3,u4,out++[⟨t1,t2,t3⟩],_,⟨show orf_ ((sample_Parse.l0_g a0 k1 (out++[(⟨t1,t2,t3⟩:S35)]) u3 u4).bind fun t=>some (([]:List S35),t.1,t.2)) ((sample_Parse.l0 a0 k1 (out++[(⟨t1,t2,t3⟩:S35)]) u3 u4).bind fun o=>some (o,(0:Int),(0:Int)))=some (r1,r2,r3) from H⟩,⟨by have:=HK1.out;omega⟩,⟨KeepBut.blk hk10 B2_9 (by omega) (by simp)⟩,⟨KeepBut.blk hk10 B3_9 (by omega) (by simp)⟩,⟨KeepBut.blk hk10 B4_9 (by omega) (by simp)⟩,⟨Kd.N_mono (Kd.N_keep (Kd.N_mono (ok':=fun k_=>(w.heap.size+3<k_)∧k_≠w.heap.size+3) HO9 (fun k_ hk=>⟨hk,by omega⟩)) hk10 (fun _ h=>h.2)) (fun _ h=>h.1)⟩,⟨hI10⟩,⟨hB10⟩⟩
        · simp[if_neg hlen] at H
  · simp only[if_neg c2] at H
    have c2b0:=decide_eq_false c2
    obtain⟨hcz6_0,hcz6_1,hfz6_0,hfz6_1⟩:=cs63_ HI0
    have H2:some (out,(0:Int),(0:Int))=some (r1,r2,r3):=by simpa [orf_] using H
    simp only[Option.some.injEq,Prod.mk.injEq] at H2
    obtain⟨rfl,rfl,rfl⟩:=H2
    obtain⟨A0,c0,rfl⟩:=Kd.N_slice HO.out
    have e2:=blk_cell B2.out 0
    have e3:=blk_cell B3.out 0
    have e4:=blk_cell B4.out 0
    have f2:=blk_frozen B2.out 0
    have f3:=blk_frozen B3.out 0
    have f4:=blk_frozen B4.out 0
    go_wp2
    generalize hW7:(((wr.setCell ⟨w.heap.size,0,none⟩ (Value.slice A0 out.length c0)).setCell ⟨w.heap.size+1,0,none⟩ (Value.int IntKind.i64 0)).setCell ⟨w.heap.size+1+1,0,none⟩ (Value.int IntKind.i64 0))=w7
    have hB7:Below w.heap.size w w7:=by
      subst hW7
      exact below_set (below_set (below_set HB.out (Nat.le_refl _)) (by simp)) (by omega)
    have hN7:Kd.N k35 35 w7 w.heap.size (fun k_=>(w.heap.size≤k_)) (.slice A0 out.length c0) out:=by
      subst hW7
      exact Kd.N_mono (Kd.N_far (Kd.N_far (Kd.N_far HO.out (fun k hk=>by show k≠w.heap.size;omega) _) (fun k hk=>by show k≠w.heap.size+1;omega) _) (fun k hk=>by show k≠w.heap.size+1+1;omega) _) (fun k hk=>by omega)
    have g2:w7.heap[w.heap.size]? = some (.cells #[Value.slice A0 out.length c0] 25 (0,0)):=by
      subst hW7
      refine blk_far (blk_far ?_ (by simp) _) (by simp;omega) _
      simpa using blk_set B2.out 0 (Value.slice A0 out.length c0)
    have g3:w7.heap[w.heap.size+1]? = some (.cells #[Value.int IntKind.i64 0] 29 (0,0)):=by
      subst hW7
      refine blk_far ?_ (by simp) _
      simpa using blk_set (blk_far B3.out (by simp) _) 0 (Value.int IntKind.i64 0)
    have g4:w7.heap[w.heap.size+1+1]? = some (.cells #[Value.int IntKind.i64 0] 3 (0,0)):=by
      subst hW7
      simpa using blk_set (blk_far (blk_far B4.out (by simp;omega) _) (by simp) _) 0 (Value.int IntKind.i64 0)
    simp only[bodyPostD]
    refine leaves_cons (f:=16) (args:= #[.pointer (some ⟨w.heap.size,0,none⟩),.pointer (some ⟨w.heap.size+1,0,none⟩),.pointer (some ⟨w.heap.size+1+1,0,none⟩)]) (by simp) (by simp[go_sem]) ?_
    refine(sample_Parse.idle _ _ _ _).mono ?_
    rintro e u' w8 ⟨rfl,rfl,hb8⟩
    have i2:=blk_cell (blk_below g2 hb8) 0
    have i3:=blk_cell (blk_below g3 hb8) 0
    have i4:=blk_cell (blk_below g4 hb8) 0
    simp only[settle,Leaves,results,Tryd.results9]
    refine⟨_,by simp[go_sem,i2,i3,i4] <;> rfl,_,rfl,Kd.N_below hN7 hb8,hB7.trans (hb8.mono hB7.size)⟩

end Go.Proofs.YtbhhfpjiacfofaaDoor.P
