-- written by a program of this session (wip/p2)
import Derived.Test.YtbhhfpjiacfofaaDoorPx0
import Derived.Test.YtbhhfpjiacfofaaDoorPx2
import Derived.Test.YtbhhfpjiacfofaaDoorPx3
import Derived.Test.YtbhhfpjiacfofaaDoorPx4
namespace Go.Proofs.YtbhhfpjiacfofaaDoor.P
open Go.RowKit Go.Proofs.YtbhhfpjiacfofaaDoorW.PrintWords Go.Proofs.YtbhhfpjiacfofaaDoorW.PrintLast Go.Proofs.YtbhhfpjiacfofaaDoorW.PrintMore
attribute [local go_sem] max2_int min2_int max_two min_two max_three min_three max_four min_four   -- for this text's walks alone
set_option linter.unusedVariables false
set_option linter.unusedSimpArgs false

/-! ### sample_reader_item_g: function 28 -/
def sample_reader_item_g.f (k:Nat) (s0_0:ByteArray) (s0_1:Int) (a1:Bool):Option (Int × Int):=orf_ ((sample_reader_value_g.f k s0_0 s0_1 a1).bind fun bt244=>(some (bt244.1,bt244.2))) ((sample_reader_value.f k s0_0 s0_1 a1).bind fun bt225=>((sample_reader_take.f k bt225.2.1 bt225.2.2 (⟨#[126]⟩:ByteArray)).bind fun bt228=>(if bt228.1=true then ((sample_reader_blanks.f k bt228.2.1 bt228.2.2).bind fun bt231=>(orf_ ((sample_reader_value_g.f k bt231.1 bt231.2 a1).bind fun bt242=>(some (bt242.1,bt242.2))) ((sample_reader_value.f k bt231.1 bt231.2 a1).bind fun bt233=>((sample_steps.f k bt225.1 bt233.1).bind fun bt236=>(if bt236.2=true then (if bt236.1≥1000 then ((sample_fail_g.f 4 bt231.2).bind fun bt238=>(some (bt238.1,bt238.2))) else (none)) else ((sample_fail_g.f 3 bt231.2).bind fun bt240=>(some (bt240.1,bt240.2)))))))) else (none))))
set_option maxHeartbeats 64000000 in
set_option maxRecDepth 100000 in
theorem sample_reader_item_g.calls (k:Nat) (g:Nat) (s0_0:ByteArray) (s0_1:Int) (a1:Bool) (r1:Int) (r2:Int) (w0 w:World) (hI:IsS63 w0 w g s0_0 s0_1) (hB:Below w0.heap.size w0 w) (h:sample_reader_item_g.f k s0_0 s0_1 a1=some (r1,r2)) :
  Calls Tryd.prog 28 #[.pointer (some ⟨g,0,none⟩),.bool a1] w fun e w'=>e= .panicked [{v:= .iface 59 (.agg #[.int .i64 r1,.int .i64 r2]),recovered:=false}]∧Below w0.heap.size w0 w':=by
 have hu37:=Tryd.underlying37
 have HI0:=Aside0.mk hI
 have HK:=Aside0.mk (KeepBut.refl w g none)
 have HL:=Aside0.mk hB.size
 clear hI
 have HW0:=Aside0.mk hB.size
 have HB:=Aside0.mk hB
 clear hB
 have H:=h
 clear h
 unfold sample_reader_item_g.f at H
 rcases orf_or H with H|H
 ·skip
  replace H:=Option.bind_eq_some_iff.mp H
  obtain⟨⟨t244,t245⟩,A30,H⟩:=H
  dsimp only at H
  have A3:=Aside0.mk A30
  clear A30
  simp only[Option.some.injEq,Prod.mk.injEq] at H
  obtain⟨rfl,rfl⟩:=H
  go_enter Tryd.func28,Tryd.ntmps28
  go_wp2_with (first|((with_reducible refine gate_dst (N:=4) rfl ?_);refine be_ 4 #[.string (⟨#[]⟩:ByteArray),.string (⟨#[]⟩:ByteArray)] 37 ?_;intro gb224 hg w4 hbox hb;have n0_:=Aside0.mk (IsS63.below (is63_ HI0) hb);have n1_:=Aside0.mk (KeepBut.trans (kp_ HK) (KeepBut.of_below hb g none) (.inl rfl));have n2_:=Aside0.mk (below_step (bs63_ HB HI0) hb);have n3_:=Aside0.mk (hbox);have n4_:=Aside0.mk ((by rw[hg];exact(keep_size (w:=w) (g:=g) (row:=none) (kp_ HK)):w.heap.size≤gb224));have n5_:=Aside0.mk ((Nat.le_trans HW0.out (by rw[hg];exact(keep_size (w:=w) (g:=g) (row:=none) (kp_ HK)):w.heap.size≤gb224):w0.heap.size≤gb224));have n6_:=Aside0.mk ((by rw[hg];exact Nat.ne_of_lt (IsS63.lt (show IsS63 w0 _ g s0_0 s0_1 from is63_ HI0)):g≠gb224));have n7_:=Aside0.mk ((by rw[hg];exact Nat.ne_of_gt (IsS63.lt (show IsS63 w0 _ g s0_0 s0_1 from is63_ HI0)):gb224≠g));clear HI0;clear HK;clear HB;revert n0_ n1_ n2_ n3_ n4_ n5_ n6_ n7_;intro HI0 HK HB BK224 GW224 GE224 NB0_224 NB224_0;clear hb hbox hg)|(go_at_call 40;(with_reducible refine(sample_reader_value_g.calls _ _ _ _ _ _ _ w0 _ ?side1 ?side2 A3.out).mono ?_);(case side1=>exact is63_ HI0);(case side2=>exact bs63_ HB HI0);rintro e w' ⟨rfl,hb⟩;exact And.intro rfl (And.intro rfl hb)))
 skip
 replace H:=Option.bind_eq_some_iff.mp H
 obtain⟨⟨t225,t226,t227⟩,A50,H⟩:=H
 dsimp only at H
 have A5:=Aside0.mk A50
 clear A50
 replace H:=Option.bind_eq_some_iff.mp H
 obtain⟨⟨t228,t229,t230⟩,A60,H⟩:=H
 dsimp only at H
 have A6:=Aside0.mk A60
 clear A60
 by_cases c7:t228=true
 ·subst c7
  rw[if_pos rfl] at H
  replace H:=Option.bind_eq_some_iff.mp H
  obtain⟨⟨t231,t232⟩,A80,H⟩:=H
  dsimp only at H
  have A8:=Aside0.mk A80
  clear A80
  rcases orf_or H with H|H
  ·skip
   replace H:=Option.bind_eq_some_iff.mp H
   obtain⟨⟨t242,t243⟩,A90,H⟩:=H
   dsimp only at H
   have A9:=Aside0.mk A90
   clear A90
   simp only[Option.some.injEq,Prod.mk.injEq] at H
   obtain⟨rfl,rfl⟩:=H
   go_enter Tryd.func28,Tryd.ntmps28
   go_wp2_with (first|((with_reducible refine gate_dst (N:=4) rfl ?_);refine be_ 4 #[.string (⟨#[]⟩:ByteArray),.string (⟨#[]⟩:ByteArray)] 37 ?_;intro gb224 hg w10 hbox hb;have n0_:=Aside0.mk (IsS63.below (is63_ HI0) hb);have n1_:=Aside0.mk (KeepBut.trans (kp_ HK) (KeepBut.of_below hb g none) (.inl rfl));have n2_:=Aside0.mk (below_step (bs63_ HB HI0) hb);have n3_:=Aside0.mk (hbox);have n4_:=Aside0.mk ((by rw[hg];exact(keep_size (w:=w) (g:=g) (row:=none) (kp_ HK)):w.heap.size≤gb224));have n5_:=Aside0.mk ((Nat.le_trans HW0.out (by rw[hg];exact(keep_size (w:=w) (g:=g) (row:=none) (kp_ HK)):w.heap.size≤gb224):w0.heap.size≤gb224));have n6_:=Aside0.mk ((by rw[hg];exact Nat.ne_of_lt (IsS63.lt (show IsS63 w0 _ g s0_0 s0_1 from is63_ HI0)):g≠gb224));have n7_:=Aside0.mk ((by rw[hg];exact Nat.ne_of_gt (IsS63.lt (show IsS63 w0 _ g s0_0 s0_1 from is63_ HI0)):gb224≠g));clear HI0;clear HK;clear HB;revert n0_ n1_ n2_ n3_ n4_ n5_ n6_ n7_;intro HI0 HK HB BK224 GW224 GE224 NB0_224 NB224_0;clear hb hbox hg)|((with_reducible refine gate_callee (f:=40) rfl ?_);refine gl_ (some 12) Tryd.func40 #[.pointer (some ⟨g,0,none⟩),.bool a1] ?_;(with_reducible refine(sample_reader_value.calls _ _ _ _ _ _ _ _ w0 _ ?side1 ?side2 A5.out).mono ?_);(case side1=>exact is63_ HI0);(case side2=>exact bs63_ HB HI0);rintro e w11 ⟨rfl,hi,hb,hk⟩;refine⟨_,rfl,?_⟩;have n0_:=Aside0.mk (KeepBut.blk hk (bk_ BK224).out NB224_0.out (by simp));have n1_:=Aside0.mk (KeepBut.trans (kp_ HK) hk (.inl rfl));have n2_:=Aside0.mk (hb);have n3_:=Aside0.mk (hi);clear BK224;clear HK;clear HB;clear HI0;revert n0_ n1_ n2_ n3_;intro BK224 HK HB HI0;(try clear hb);(try clear hk);(try clear hi))|((with_reducible refine gate_callee (f:=26) rfl ?_);refine gl_ (some 14) Tryd.func26 #[.pointer (some ⟨g,0,none⟩),.string (⟨#[126]⟩:ByteArray)] ?_;(with_reducible refine(sample_reader_take.calls _ _ _ _ _ _ _ _ w0 _ ?side1 ?side2 A6.out).mono ?_);(case side1=>exact is63_ HI0);(case side2=>exact bs63_ HB HI0);rintro e w12 ⟨rfl,hi,hb,hk⟩;refine⟨_,rfl,?_⟩;have n0_:=Aside0.mk (KeepBut.blk hk (bk_ BK224).out NB224_0.out (by simp));have n1_:=Aside0.mk (KeepBut.trans (kp_ HK) hk (.inl rfl));have n2_:=Aside0.mk (hb);have n3_:=Aside0.mk (hi);clear BK224;clear HK;clear HB;clear HI0;revert n0_ n1_ n2_ n3_;intro BK224 HK HB HI0;(try clear hb);(try clear hk);(try clear hi))|((with_reducible refine gate_callee (f:=17) rfl ?_);refine gl_ (some 19) Tryd.func17 #[.pointer (some ⟨g,0,none⟩)] ?_;(with_reducible refine(sample_reader_blanks.calls _ _ _ _ _ _ w0 _ ?side1 ?side2 A8.out).mono ?_);(case side1=>exact is63_ HI0);(case side2=>exact bs63_ HB HI0);rintro e w13 ⟨rfl,hi,hb,hk⟩;refine⟨_,rfl,?_⟩;have n0_:=Aside0.mk (KeepBut.blk hk (bk_ BK224).out NB224_0.out (by simp));have n1_:=Aside0.mk (KeepBut.trans (kp_ HK) hk (.inl rfl));have n2_:=Aside0.mk (hb);have n3_:=Aside0.mk (hi);clear BK224;clear HK;clear HB;clear HI0;revert n0_ n1_ n2_ n3_;intro BK224 HK HB HI0;(try clear hb);(try clear hk);(try clear hi);obtain⟨hcz14_0,hcz14_1,hfz14_0,hfz14_1⟩:=cs63_ HI0)|(go_at_call 40;(with_reducible refine(sample_reader_value_g.calls _ _ _ _ _ _ _ w0 _ ?side1 ?side2 A9.out).mono ?_);(case side1=>exact is63_ HI0);(case side2=>exact bs63_ HB HI0);rintro e w' ⟨rfl,hb⟩;exact And.intro rfl (And.intro rfl hb)))
  skip
  replace H:=Option.bind_eq_some_iff.mp H
  obtain⟨⟨t233,t234,t235⟩,A150,H⟩:=H
  dsimp only at H
  have A15:=Aside0.mk A150
  clear A150
  replace H:=Option.bind_eq_some_iff.mp H
  obtain⟨⟨t236,t237⟩,A160,H⟩:=H
  dsimp only at H
  have A16:=Aside0.mk A160
  clear A160
  by_cases c17:t237=true
  ·subst c17
   rw[if_pos rfl] at H
   replace H:=ifn_ H
   obtain⟨c18,H⟩:=H
   have c18b0:decide (1000≤t236)=true:=decide_eq_true c18
   clear c18
   replace H:=Option.bind_eq_some_iff.mp H
   obtain⟨⟨t238,t239⟩,A190,H⟩:=H
   dsimp only at H
   have A19:=Aside0.mk A190
   clear A190
   simp only[Option.some.injEq,Prod.mk.injEq] at H
   obtain⟨rfl,rfl⟩:=H
   go_enter Tryd.func28,Tryd.ntmps28
   go_wp2_with (first|((with_reducible refine gate_dst (N:=4) rfl ?_);refine be_ 4 #[.string (⟨#[]⟩:ByteArray),.string (⟨#[]⟩:ByteArray)] 37 ?_;intro gb224 hg w20 hbox hb;have n0_:=Aside0.mk (IsS63.below (is63_ HI0) hb);have n1_:=Aside0.mk (KeepBut.trans (kp_ HK) (KeepBut.of_below hb g none) (.inl rfl));have n2_:=Aside0.mk (below_step (bs63_ HB HI0) hb);have n3_:=Aside0.mk (hbox);have n4_:=Aside0.mk ((by rw[hg];exact(keep_size (w:=w) (g:=g) (row:=none) (kp_ HK)):w.heap.size≤gb224));have n5_:=Aside0.mk ((Nat.le_trans HW0.out (by rw[hg];exact(keep_size (w:=w) (g:=g) (row:=none) (kp_ HK)):w.heap.size≤gb224):w0.heap.size≤gb224));have n6_:=Aside0.mk ((by rw[hg];exact Nat.ne_of_lt (IsS63.lt (show IsS63 w0 _ g s0_0 s0_1 from is63_ HI0)):g≠gb224));have n7_:=Aside0.mk ((by rw[hg];exact Nat.ne_of_gt (IsS63.lt (show IsS63 w0 _ g s0_0 s0_1 from is63_ HI0)):gb224≠g));clear HI0;clear HK;clear HB;revert n0_ n1_ n2_ n3_ n4_ n5_ n6_ n7_;intro HI0 HK HB BK224 GW224 GE224 NB0_224 NB224_0;clear hb hbox hg)|((with_reducible refine gate_callee (f:=40) rfl ?_);refine gl_ (some 12) Tryd.func40 #[.pointer (some ⟨g,0,none⟩),.bool a1] ?_;(with_reducible refine(sample_reader_value.calls _ _ _ _ _ _ _ _ w0 _ ?side1 ?side2 A5.out).mono ?_);(case side1=>exact is63_ HI0);(case side2=>exact bs63_ HB HI0);rintro e w21 ⟨rfl,hi,hb,hk⟩;refine⟨_,rfl,?_⟩;have n0_:=Aside0.mk (KeepBut.blk hk (bk_ BK224).out NB224_0.out (by simp));have n1_:=Aside0.mk (KeepBut.trans (kp_ HK) hk (.inl rfl));have n2_:=Aside0.mk (hb);have n3_:=Aside0.mk (hi);clear BK224;clear HK;clear HB;clear HI0;revert n0_ n1_ n2_ n3_;intro BK224 HK HB HI0;(try clear hb);(try clear hk);(try clear hi))|((with_reducible refine gate_callee (f:=26) rfl ?_);refine gl_ (some 14) Tryd.func26 #[.pointer (some ⟨g,0,none⟩),.string (⟨#[126]⟩:ByteArray)] ?_;(with_reducible refine(sample_reader_take.calls _ _ _ _ _ _ _ _ w0 _ ?side1 ?side2 A6.out).mono ?_);(case side1=>exact is63_ HI0);(case side2=>exact bs63_ HB HI0);rintro e w22 ⟨rfl,hi,hb,hk⟩;refine⟨_,rfl,?_⟩;have n0_:=Aside0.mk (KeepBut.blk hk (bk_ BK224).out NB224_0.out (by simp));have n1_:=Aside0.mk (KeepBut.trans (kp_ HK) hk (.inl rfl));have n2_:=Aside0.mk (hb);have n3_:=Aside0.mk (hi);clear BK224;clear HK;clear HB;clear HI0;revert n0_ n1_ n2_ n3_;intro BK224 HK HB HI0;(try clear hb);(try clear hk);(try clear hi))|((with_reducible refine gate_callee (f:=17) rfl ?_);refine gl_ (some 19) Tryd.func17 #[.pointer (some ⟨g,0,none⟩)] ?_;(with_reducible refine(sample_reader_blanks.calls _ _ _ _ _ _ w0 _ ?side1 ?side2 A8.out).mono ?_);(case side1=>exact is63_ HI0);(case side2=>exact bs63_ HB HI0);rintro e w23 ⟨rfl,hi,hb,hk⟩;refine⟨_,rfl,?_⟩;have n0_:=Aside0.mk (KeepBut.blk hk (bk_ BK224).out NB224_0.out (by simp));have n1_:=Aside0.mk (KeepBut.trans (kp_ HK) hk (.inl rfl));have n2_:=Aside0.mk (hb);have n3_:=Aside0.mk (hi);clear BK224;clear HK;clear HB;clear HI0;revert n0_ n1_ n2_ n3_;intro BK224 HK HB HI0;(try clear hb);(try clear hk);(try clear hi);obtain⟨hcz24_0,hcz24_1,hfz24_0,hfz24_1⟩:=cs63_ HI0)|((with_reducible refine gate_callee (f:=40) rfl ?_);refine gl_ (some 26) Tryd.func40 #[.pointer (some ⟨g,0,none⟩),.bool a1] ?_;(with_reducible refine(sample_reader_value.calls _ _ _ _ _ _ _ _ w0 _ ?side1 ?side2 A15.out).mono ?_);(case side1=>exact is63_ HI0);(case side2=>exact bs63_ HB HI0);rintro e w25 ⟨rfl,hi,hb,hk⟩;refine⟨_,rfl,?_⟩;have n0_:=Aside0.mk (KeepBut.blk hk (bk_ BK224).out NB224_0.out (by simp));have n1_:=Aside0.mk (KeepBut.trans (kp_ HK) hk (.inl rfl));have n2_:=Aside0.mk (hb);have n3_:=Aside0.mk (hi);clear BK224;clear HK;clear HB;clear HI0;revert n0_ n1_ n2_ n3_;intro BK224 HK HB HI0;(try clear hb);(try clear hk);(try clear hi))|((with_reducible refine gate_callee (f:=30) rfl ?_);refine gl_ (some 30) Tryd.func30 #[.string t225,.string t233] ?_;(with_reducible refine(sample_steps.calls _ _ _ _ _ _ A16.out).mono ?_);rintro e w26 ⟨rfl,hb⟩;refine⟨_,rfl,?_⟩;have n0_:=Aside0.mk (IsS63.below (is63_ HI0) hb);have n1_:=bb_ BK224 hb;have n2_:=Aside0.mk (KeepBut.trans (kp_ HK) (KeepBut.of_below hb g none) (.inl rfl));have n3_:=Aside0.mk (below_step (bs63_ HB HI0) hb);clear HI0;clear BK224;clear HK;clear HB;revert n0_ n1_ n2_ n3_;intro HI0 BK224 HK HB;(try clear hb);(try clear hi))|(go_at_call 27;(with_reducible refine(sample_fail_g.calls _ _ _ _ _ A19.out).mono ?_);rintro e w' ⟨rfl,hb⟩;exact And.intro rfl (And.intro rfl (below_step (bs63_ HB HI0) hb))))
  replace c17:=Bool.eq_false_iff.mpr c17
  subst c17
  rw[if_neg (show ¬(false=true) by decide)] at H
  replace H:=Option.bind_eq_some_iff.mp H
  obtain⟨⟨t240,t241⟩,A270,H⟩:=H
  dsimp only at H
  have A27:=Aside0.mk A270
  clear A270
  simp only[Option.some.injEq,Prod.mk.injEq] at H
  obtain⟨rfl,rfl⟩:=H
  go_enter Tryd.func28,Tryd.ntmps28
  go_wp2_with (first|((with_reducible refine gate_dst (N:=4) rfl ?_);refine be_ 4 #[.string (⟨#[]⟩:ByteArray),.string (⟨#[]⟩:ByteArray)] 37 ?_;intro gb224 hg w28 hbox hb;have n0_:=Aside0.mk (IsS63.below (is63_ HI0) hb);have n1_:=Aside0.mk (KeepBut.trans (kp_ HK) (KeepBut.of_below hb g none) (.inl rfl));have n2_:=Aside0.mk (below_step (bs63_ HB HI0) hb);have n3_:=Aside0.mk (hbox);have n4_:=Aside0.mk ((by rw[hg];exact(keep_size (w:=w) (g:=g) (row:=none) (kp_ HK)):w.heap.size≤gb224));have n5_:=Aside0.mk ((Nat.le_trans HW0.out (by rw[hg];exact(keep_size (w:=w) (g:=g) (row:=none) (kp_ HK)):w.heap.size≤gb224):w0.heap.size≤gb224));have n6_:=Aside0.mk ((by rw[hg];exact Nat.ne_of_lt (IsS63.lt (show IsS63 w0 _ g s0_0 s0_1 from is63_ HI0)):g≠gb224));have n7_:=Aside0.mk ((by rw[hg];exact Nat.ne_of_gt (IsS63.lt (show IsS63 w0 _ g s0_0 s0_1 from is63_ HI0)):gb224≠g));clear HI0;clear HK;clear HB;revert n0_ n1_ n2_ n3_ n4_ n5_ n6_ n7_;intro HI0 HK HB BK224 GW224 GE224 NB0_224 NB224_0;clear hb hbox hg)|((with_reducible refine gate_callee (f:=40) rfl ?_);refine gl_ (some 12) Tryd.func40 #[.pointer (some ⟨g,0,none⟩),.bool a1] ?_;(with_reducible refine(sample_reader_value.calls _ _ _ _ _ _ _ _ w0 _ ?side1 ?side2 A5.out).mono ?_);(case side1=>exact is63_ HI0);(case side2=>exact bs63_ HB HI0);rintro e w29 ⟨rfl,hi,hb,hk⟩;refine⟨_,rfl,?_⟩;have n0_:=Aside0.mk (KeepBut.blk hk (bk_ BK224).out NB224_0.out (by simp));have n1_:=Aside0.mk (KeepBut.trans (kp_ HK) hk (.inl rfl));have n2_:=Aside0.mk (hb);have n3_:=Aside0.mk (hi);clear BK224;clear HK;clear HB;clear HI0;revert n0_ n1_ n2_ n3_;intro BK224 HK HB HI0;(try clear hb);(try clear hk);(try clear hi))|((with_reducible refine gate_callee (f:=26) rfl ?_);refine gl_ (some 14) Tryd.func26 #[.pointer (some ⟨g,0,none⟩),.string (⟨#[126]⟩:ByteArray)] ?_;(with_reducible refine(sample_reader_take.calls _ _ _ _ _ _ _ _ w0 _ ?side1 ?side2 A6.out).mono ?_);(case side1=>exact is63_ HI0);(case side2=>exact bs63_ HB HI0);rintro e w30 ⟨rfl,hi,hb,hk⟩;refine⟨_,rfl,?_⟩;have n0_:=Aside0.mk (KeepBut.blk hk (bk_ BK224).out NB224_0.out (by simp));have n1_:=Aside0.mk (KeepBut.trans (kp_ HK) hk (.inl rfl));have n2_:=Aside0.mk (hb);have n3_:=Aside0.mk (hi);clear BK224;clear HK;clear HB;clear HI0;revert n0_ n1_ n2_ n3_;intro BK224 HK HB HI0;(try clear hb);(try clear hk);(try clear hi))|((with_reducible refine gate_callee (f:=17) rfl ?_);refine gl_ (some 19) Tryd.func17 #[.pointer (some ⟨g,0,none⟩)] ?_;(with_reducible refine(sample_reader_blanks.calls _ _ _ _ _ _ w0 _ ?side1 ?side2 A8.out).mono ?_);(case side1=>exact is63_ HI0);(case side2=>exact bs63_ HB HI0);rintro e w31 ⟨rfl,hi,hb,hk⟩;refine⟨_,rfl,?_⟩;have n0_:=Aside0.mk (KeepBut.blk hk (bk_ BK224).out NB224_0.out (by simp));have n1_:=Aside0.mk (KeepBut.trans (kp_ HK) hk (.inl rfl));have n2_:=Aside0.mk (hb);have n3_:=Aside0.mk (hi);clear BK224;clear HK;clear HB;clear HI0;revert n0_ n1_ n2_ n3_;intro BK224 HK HB HI0;(try clear hb);(try clear hk);(try clear hi);obtain⟨hcz32_0,hcz32_1,hfz32_0,hfz32_1⟩:=cs63_ HI0)|((with_reducible refine gate_callee (f:=40) rfl ?_);refine gl_ (some 26) Tryd.func40 #[.pointer (some ⟨g,0,none⟩),.bool a1] ?_;(with_reducible refine(sample_reader_value.calls _ _ _ _ _ _ _ _ w0 _ ?side1 ?side2 A15.out).mono ?_);(case side1=>exact is63_ HI0);(case side2=>exact bs63_ HB HI0);rintro e w33 ⟨rfl,hi,hb,hk⟩;refine⟨_,rfl,?_⟩;have n0_:=Aside0.mk (KeepBut.blk hk (bk_ BK224).out NB224_0.out (by simp));have n1_:=Aside0.mk (KeepBut.trans (kp_ HK) hk (.inl rfl));have n2_:=Aside0.mk (hb);have n3_:=Aside0.mk (hi);clear BK224;clear HK;clear HB;clear HI0;revert n0_ n1_ n2_ n3_;intro BK224 HK HB HI0;(try clear hb);(try clear hk);(try clear hi))|((with_reducible refine gate_callee (f:=30) rfl ?_);refine gl_ (some 30) Tryd.func30 #[.string t225,.string t233] ?_;(with_reducible refine(sample_steps.calls _ _ _ _ _ _ A16.out).mono ?_);rintro e w34 ⟨rfl,hb⟩;refine⟨_,rfl,?_⟩;have n0_:=Aside0.mk (IsS63.below (is63_ HI0) hb);have n1_:=bb_ BK224 hb;have n2_:=Aside0.mk (KeepBut.trans (kp_ HK) (KeepBut.of_below hb g none) (.inl rfl));have n3_:=Aside0.mk (below_step (bs63_ HB HI0) hb);clear HI0;clear BK224;clear HK;clear HB;revert n0_ n1_ n2_ n3_;intro HI0 BK224 HK HB;(try clear hb);(try clear hi))|(go_at_call 27;(with_reducible refine(sample_fail_g.calls _ _ _ _ _ A27.out).mono ?_);rintro e w' ⟨rfl,hb⟩;exact And.intro rfl (And.intro rfl (below_step (bs63_ HB HI0) hb))))
 replace c7:=Bool.eq_false_iff.mpr c7
 subst c7
 rw[if_neg (show ¬(false=true) by decide)] at H
 exact absurd H (by simp)

/-! ### sample_reader_set: function 18 -/
mutual
def sample_reader_set.j0:Nat→ByteArray→Int→Bool→Bool→Option (Bool × (List (S37)) × Bool × ByteArray × Int)
 | 0,_,_,_,_=>none
 | k+1,x1000,x1001,x248000,x248002=>(sample_reader_item.f k x1000 x1001 x248000).bind fun bt254=>(if ([]:List (S37)).length<4398046511104 then (sample_reader_set.l0 k bt254.2.2.1 bt254.2.2.2 x248000 (([]:List (S37))++[(⟨bt254.1,bt254.2.1⟩:S37)]) x248002) else (none))
def sample_reader_set.l0:Nat→ByteArray→Int→Bool→List (S37)→Bool→Option (Bool × (List (S37)) × Bool × ByteArray × Int)
 | 0,_,_,_,_,_=>none
 | k+1,x1000,x1001,x248000,x248001,x248002=>(sample_reader_take.f k x1000 x1001 (⟨#[44]⟩:ByteArray)).bind fun bt261=>(if bt261.1=true then ((sample_reader_take.f k bt261.2.1 bt261.2.2 (⟨#[226,128,166]⟩:ByteArray)).bind fun bt264=>(if bt264.1=true then (some (x248000,x248001,true,bt264.2.1,bt264.2.2)) else ((sample_reader_take.f k bt264.2.1 bt264.2.2 (⟨#[46,46,46]⟩:ByteArray)).bind fun bt267=>(if bt267.1=true then (some (x248000,x248001,bt267.1,bt267.2.1,bt267.2.2)) else ((sample_reader_item.f k bt267.2.1 bt267.2.2 x248000).bind fun bt270=>(if x248001.length<4398046511104 then (sample_reader_set.l0 k bt270.2.2.1 bt270.2.2.2 x248000 (x248001++[(⟨bt270.1,bt270.2.1⟩:S37)]) bt267.1) else (none))))))) else (some (x248000,x248001,x248002,bt261.2.1,bt261.2.2)))
end
def sample_reader_set.f (k:Nat) (s0_0:ByteArray) (s0_1:Int):Option (Bool × (List (S37)) × Bool × ByteArray × Int):=(sample_reader_take.f k s0_0 s0_1 (⟨#[64,105,110,116,101,103,101,114]⟩:ByteArray)).bind fun bt248=>(if bt248.1=true then (sample_reader_set.j0 k bt248.2.1 bt248.2.2 false false) else ((sample_reader_take.f k bt248.2.1 bt248.2.2 (⟨#[64,100,101,99,105,109,97,108]⟩:ByteArray)).bind fun bt251=>(if bt251.1=true then (sample_reader_set.j0 k bt251.2.1 bt251.2.2 true false) else (none))))
def sample_reader_set.T6:Bool × List (List Nat × List Nat):=(true,[([],[]),([0],[0]),([],[]),([],[]),([3],[3]),([2,4],[2,4]),([5],[5]),([1,6,5],[1,6]),([0,1,2,3,4,5,6,7],[]),([8,7,7,0,1,2,3,4,5,6,7],[7,8])])
def sample_reader_set.B6:List Nat:=[0,1,0,0,8,28,60,127,255,511]
theorem sample_reader_set.tab6:rtab .any (opsOf Tryd.f18 6)=sample_reader_set.T6:=by kernel_rfl
theorem sample_reader_set.bits6:waitsOk sample_reader_set.T6.2 sample_reader_set.B6=true:=by kernel_rfl
def sample_reader_set.T10:Bool × List (List Nat × List Nat):=(true,[([],[]),([0],[0]),([],[]),([],[]),([3],[3]),([2,4],[2,4]),([5],[5]),([1,6,5],[1,6]),([0,1,2,3,4,5,6,7],[]),([8,7,7,0,1,2,3,4,5,6,7],[7,8])])
def sample_reader_set.B10:List Nat:=[0,1,0,0,8,28,60,127,255,511]
theorem sample_reader_set.tab10:rtab .any (opsOf Tryd.f18 10)=sample_reader_set.T10:=by kernel_rfl
theorem sample_reader_set.bits10:waitsOk sample_reader_set.T10.2 sample_reader_set.B10=true:=by kernel_rfl
set_option maxHeartbeats 64000000 in
set_option maxRecDepth 100000 in
theorem sample_reader_set.calls (k:Nat) (g:Nat) (s0_0:ByteArray) (s0_1:Int) (r1:Bool) (r2:List (S37)) (r3:Bool) (r4:ByteArray) (r5:Int) (w0 w:World) (hI:IsS63 w0 w g s0_0 s0_1) (hB:Below w0.heap.size w0 w) (h:sample_reader_set.f k s0_0 s0_1=some (r1,r2,r3,r4,r5)) :
  Calls Tryd.prog 18 #[.pointer (some ⟨g,0,none⟩)] w fun e w'=>∃v1_:Value,e= .returned (.agg #[.bool r1,v1_,.bool r3])∧Kd.R k37 37 w' w.heap.size (fun _=>True) v1_ r2∧IsS63 w0 w' g r4 r5∧Below w0.heap.size w0 w'∧KeepBut w w' g none:=by
 have hu35:=Tryd.underlying35
 have HI0:=Aside0.mk hI
 have HK:=Aside0.mk (KeepBut.refl w g none)
 have HL:=Aside0.mk hB.size
 clear hI
 have HW0:=Aside0.mk hB.size
 have HB:=Aside0.mk hB
 clear hB
 have H:=h
 clear h
 unfold sample_reader_set.f at H
 have HC2:=Aside0.mk H
 clear H
 go_enter Tryd.func18,Tryd.ntmps18
 go_upto_block 0 with (first|((with_reducible refine gate_dst (N:=2) rfl ?_);refine be_ 2 #[.bool false,.slice none 0 0,.bool false] 35 ?_;intro gb246 hg w3 hbox hb;have n0_:=Aside0.mk (IsS63.below (is63_ HI0) hb);have n1_:=Aside0.mk (KeepBut.trans (kp_ HK) (KeepBut.of_below hb g none) (.inl rfl));have n2_:=Aside0.mk (below_step (bs63_ HB HI0) hb);have n3_:=Aside0.mk (hbox);have n4_:=Aside0.mk ((by rw[hg];exact(keep_size (w:=w) (g:=g) (row:=none) (kp_ HK)):w.heap.size≤gb246));have n5_:=Aside0.mk ((Nat.le_trans HW0.out (by rw[hg];exact(keep_size (w:=w) (g:=g) (row:=none) (kp_ HK)):w.heap.size≤gb246):w0.heap.size≤gb246));have n6_:=Aside0.mk ((by rw[hg];exact Nat.ne_of_lt (IsS63.lt (show IsS63 w0 _ g s0_0 s0_1 from is63_ HI0)):g≠gb246));have n7_:=Aside0.mk ((by rw[hg];exact Nat.ne_of_gt (IsS63.lt (show IsS63 w0 _ g s0_0 s0_1 from is63_ HI0)):gb246≠g));clear HI0;clear HK;clear HB;revert n0_ n1_ n2_ n3_ n4_ n5_ n6_ n7_;intro HI0 HK HB BK246 GW246 GE246 NB0_246 NB246_0;clear hb hbox hg)|((with_reducible refine gate_dst (N:=3) rfl ?_);refine be_ 3 #[.bool false,.slice none 0 0,.bool false] 35 ?_;intro gb247 hg w4 hbox hb;have n0_:=Aside0.mk (IsS63.below (is63_ HI0) hb);have n1_:=bb_ BK246 hb;have n2_:=Aside0.mk (KeepBut.trans (kp_ HK) (KeepBut.of_below hb g none) (.inl rfl));have n3_:=Aside0.mk (below_step (bs63_ HB HI0) hb);have n4_:=Aside0.mk (hbox);have n5_:=Aside0.mk ((by rw[hg];exact(keep_size (w:=w) (g:=g) (row:=none) (kp_ HK)):w.heap.size≤gb247));have n6_:=Aside0.mk ((Nat.le_trans HW0.out (by rw[hg];exact(keep_size (w:=w) (g:=g) (row:=none) (kp_ HK)):w.heap.size≤gb247):w0.heap.size≤gb247));have n7_:=na_ BK246 hg;have n8_:=nb_ BK246 hg;have n9_:=Aside0.mk ((by rw[hg];exact Nat.ne_of_lt (IsS63.lt (show IsS63 w0 _ g s0_0 s0_1 from is63_ HI0)):g≠gb247));have n10_:=Aside0.mk ((by rw[hg];exact Nat.ne_of_gt (IsS63.lt (show IsS63 w0 _ g s0_0 s0_1 from is63_ HI0)):gb247≠g));clear HI0;clear BK246;clear HK;clear HB;revert n0_ n1_ n2_ n3_ n4_ n5_ n6_ n7_ n8_ n9_ n10_;intro HI0 BK246 HK HB BK247 GW247 GE247 NB246_247 NB247_246 NB0_247 NB247_0;clear hb hbox hg))
 (try simp only[Act.put,List.setIfInBounds_toArray,List.set_cons_zero,List.set_cons_succ])
 go_cut [] (fun wc=>∃(kq:Nat) (x1000_1:ByteArray) (x1001_1:Int) (x248000_1:Bool),Aside0 (sample_reader_set.j0 kq x1000_1 x1001_1 x248000_1 false=some (r1,r2,r3,r4,r5))∧Aside0 (kq≤k)∧Aside0 (wc.heap[gb246]? = some (.cells #[.bool false,(.slice none 0 0),.bool false] 35 (0,0)))∧Aside0 (wc.heap[gb247]? = some (.cells #[.bool x248000_1,(.slice none 0 0),.bool false] 35 (0,0)))∧Aside0 (IsS63 w0 wc g x1000_1 x1001_1)∧Aside0 (KeepBut w wc g none)∧Aside0 (Below w0.heap.size w0 wc))
 case first =>
  have H:=HC2.out
  clear HC2
  replace H:=Option.bind_eq_some_iff.mp H
  obtain⟨⟨t248,t249,t250⟩,A50,H⟩:=H
  dsimp only at H
  have A5:=Aside0.mk A50
  clear A50
  by_cases c6:t248=true
  ·subst c6
   rw[if_pos rfl] at H
   have H':=Aside0.mk H
   clear H
   go_wp2_with (first|((with_reducible refine gate_callee (f:=26) rfl ?_);refine gl_ (some 11) Tryd.func26 #[.pointer (some ⟨g,0,none⟩),.string (⟨#[64,105,110,116,101,103,101,114]⟩:ByteArray)] ?_;(with_reducible refine(sample_reader_take.calls _ _ _ _ _ _ _ _ w0 _ ?side1 ?side2 A5.out).mono ?_);(case side1=>exact is63_ HI0);(case side2=>exact bs63_ HB HI0);rintro e w7 ⟨rfl,hi,hb,hk⟩;refine⟨_,rfl,?_⟩;have n0_:=Aside0.mk (KeepBut.blk hk (bk_ BK246).out NB246_0.out (by simp));have n1_:=Aside0.mk (KeepBut.blk hk (bk_ BK247).out NB247_0.out (by simp));have n2_:=Aside0.mk (KeepBut.trans (kp_ HK) hk (.inl rfl));have n3_:=Aside0.mk (hb);have n4_:=Aside0.mk (hi);clear BK246;clear BK247;clear HK;clear HB;clear HI0;revert n0_ n1_ n2_ n3_ n4_;intro BK246 BK247 HK HB HI0;(try clear hb);(try clear hk);(try clear hi)))
   go_meet
   case rel=>exact⟨_,(t249),(t250),(false),H',⟨by first|omega|exact Nat.le_refl _⟩,(bk_ BK246),(bk_ BK247),⟨is63_ HI0⟩,⟨kp_ HK⟩,⟨bs63_ HB HI0⟩⟩
  replace c6:=Bool.eq_false_iff.mpr c6
  subst c6
  rw[if_neg (show ¬(false=true) by decide)] at H
  replace H:=Option.bind_eq_some_iff.mp H
  obtain⟨⟨t251,t252,t253⟩,A80,H⟩:=H
  dsimp only at H
  have A8:=Aside0.mk A80
  clear A80
  by_cases c9:t251=true
  ·subst c9
   rw[if_pos rfl] at H
   have H':=Aside0.mk H
   clear H
   go_wp2_with (first|((with_reducible refine gate_callee (f:=26) rfl ?_);refine gl_ (some 11) Tryd.func26 #[.pointer (some ⟨g,0,none⟩),.string (⟨#[64,105,110,116,101,103,101,114]⟩:ByteArray)] ?_;(with_reducible refine(sample_reader_take.calls _ _ _ _ _ _ _ _ w0 _ ?side1 ?side2 A5.out).mono ?_);(case side1=>exact is63_ HI0);(case side2=>exact bs63_ HB HI0);rintro e w10 ⟨rfl,hi,hb,hk⟩;refine⟨_,rfl,?_⟩;have n0_:=Aside0.mk (KeepBut.blk hk (bk_ BK246).out NB246_0.out (by simp));have n1_:=Aside0.mk (KeepBut.blk hk (bk_ BK247).out NB247_0.out (by simp));have n2_:=Aside0.mk (KeepBut.trans (kp_ HK) hk (.inl rfl));have n3_:=Aside0.mk (hb);have n4_:=Aside0.mk (hi);clear BK246;clear BK247;clear HK;clear HB;clear HI0;revert n0_ n1_ n2_ n3_ n4_;intro BK246 BK247 HK HB HI0;(try clear hb);(try clear hk);(try clear hi))|((with_reducible refine gate_callee (f:=26) rfl ?_);refine gl_ (some 14) Tryd.func26 #[.pointer (some ⟨g,0,none⟩),.string (⟨#[64,100,101,99,105,109,97,108]⟩:ByteArray)] ?_;(with_reducible refine(sample_reader_take.calls _ _ _ _ _ _ _ _ w0 _ ?side1 ?side2 A8.out).mono ?_);(case side1=>exact is63_ HI0);(case side2=>exact bs63_ HB HI0);rintro e w11 ⟨rfl,hi,hb,hk⟩;refine⟨_,rfl,?_⟩;have n0_:=Aside0.mk (KeepBut.blk hk (bk_ BK246).out NB246_0.out (by simp));have n1_:=Aside0.mk (KeepBut.blk hk (bk_ BK247).out NB247_0.out (by simp));have n2_:=Aside0.mk (KeepBut.trans (kp_ HK) hk (.inl rfl));have n3_:=Aside0.mk (hb);have n4_:=Aside0.mk (hi);clear BK246;clear BK247;clear HK;clear HB;clear HI0;revert n0_ n1_ n2_ n3_ n4_;intro BK246 BK247 HK HB HI0;(try clear hb);(try clear hk);(try clear hi);have hnb12:=NB247_246.out;have hnc12:=NB246_247.out;have hnb13:=NB247_0.out;have hnc13:=NB0_247.out;obtain⟨hcz14_0,hcz14_1,hcz14_2,hfz14_0,hfz14_1,hfz14_2⟩:=bo3_ BK247))
   go_meet
   case rel=>exact⟨_,(t252),(t253),(true),H',⟨by first|omega|exact Nat.le_refl _⟩,⟨(bf_ BK246).out⟩,⟨(bp_ BK247).out⟩,⟨is63_ HI0⟩,⟨kp_ HK⟩,⟨bs63_ HB HI0⟩⟩
  replace c9:=Bool.eq_false_iff.mpr c9
  subst c9
  rw[if_neg (show ¬(false=true) by decide)] at H
  exact absurd H (by simp)
 clear HC2
 obtain⟨kq,x1000_1,x1001_1,x248000_1,HA,HJ1,BK246,BK247,HI0,HK,HB⟩:=hcut
 cases kq with
 | zero=>exact absurd HA.out (by simp[sample_reader_set.j0])
 | succ kj1=>?_
 have H:=HA.out
 clear HA
 simp only[sample_reader_set.j0] at H
 replace H:=Option.bind_eq_some_iff.mp H
 obtain⟨⟨t254,t255,t256,t257⟩,A150,H⟩:=H
 dsimp only at H
 have A15:=Aside0.mk A150
 clear A150
 replace H:=ifn_ H
 obtain⟨c16,H⟩:=H
 have LMc16:=Aside0.mk c16
 clear c16
 obtain⟨y258,hy258⟩:∃y_:List (S37),y_=(([]:List (S37))++[(⟨t254,t255⟩:S37)]):=⟨_,rfl⟩
 replace H:(sample_reader_set.l0 kj1 t256 t257 x248000_1 y258 false)=some (r1,r2,r3,r4,r5):=by first|(rw[hy258];with_reducible exact H)|(have H2_:=(Option.bind_some _ _).symm.trans H;rw[hy258];with_reducible exact H2_)|(have H2_:=(Option.bind_some _ _).symm.trans H;with_reducible exact H2_)|with_reducible exact H|(rw[hy258];exact H)|exact H
 have Ny258:=Aside0.mk hy258
 clear hy258
 have H':=Aside0.mk H
 clear H
 try go_wp2
 replace BK246:=Aside0.mk (blk_drew BK246.out)
 replace BK247:=Aside0.mk (blk_drew BK247.out)
 replace HI0:=Aside0.mk (IsS63.drew HI0.out)
 replace HK:=Aside0.mk (keep_drew HK.out)
 replace HB:=Aside0.mk (below_drew1 HB.out)
 refine start_ (n:=10) (S:=fun w'=>w'.cell? ⟨gb247,0,none⟩=some (.bool x248000_1)∧w'.cell? ⟨gb247,1,none⟩=some (.slice none 0 0)∧w'.cell? ⟨gb247,2,none⟩=some (.bool false)) (ds:=[9]) #[false,false,false,false,false,false,false,false,false,false] (by kernel_rfl) rfl rfl ⟨bc_ BK247 0,bc_ BK247 1,bc_ BK247 2⟩ (fun hHeld=>?_);refine with_tabW sample_reader_set.tab6 sample_reader_set.bits6 (fun HT_ HW_=>?_)
 generalize wc.drew=w17 at BK246 BK247 HI0 HK HB hHeld ⊢
 refine pu_ 0 16 (bm_ 10 1) HT_ ?_
 refine pu_ 2 18 (bm_ 10 5) HT_ ?_
 refine pu_ 3 19 (bm_ 10 13) HT_ ?_
 refine tk_ 1 17 (bm_ 10 15) HT_ HW_ hHeld rfl (by rintro w' ⟨s0,s1,s2⟩;go_simp;with_reducible rfl) ?_
 refine tk_ 4 20 (bm_ 10 31) HT_ HW_ hHeld rfl (by rintro w' ⟨s0,s1,s2⟩;go_simp;with_reducible rfl) ?_
 refine one_ (i:=5) (N:=some 21) (bm_ 10 63) rfl rfl (one_of HT_.out (by kernel_rfl)) (by decide) (fun K hK=>?_)
 refine gs_ Tryd.func28 #[.pointer (some ⟨g,0,none⟩),.bool x248000_1] ?_
 with_reducible refine(sample_reader_item.calls _ _ _ _ _ _ _ _ _ w0 _ ?side1 ?side2 A15.out).mono ?_
 (case side1=>exact is63_ HI0)
 (case side2=>exact bs63_ HB HI0)
 rintro e w18 ⟨rfl,hi,hb,hk⟩
 refine⟨_,rfl,?_⟩
 replace BK246:=Aside0.mk (KeepBut.blk hk (bk_ BK246).out NB246_0.out (by simp))
 replace BK247:=Aside0.mk (KeepBut.blk hk (bk_ BK247).out NB247_0.out (by simp))
 replace HK:=Aside0.mk (KeepBut.trans (kp_ HK) hk (.inl rfl))
 replace HB:=Aside0.mk (hb)
 replace HI0:=Aside0.mk (hi)
 (try clear hb)
 (try clear hb2)
 (try clear hk)
 (try clear hi)
 refine hK.out _ _ ⟨bc_ BK247 0,bc_ BK247 1,bc_ BK247 2⟩ (fun hHeld=>?_)
 clear hK K
 refine nm_ 21 ?_
 refine one_ (i:=6) (N:=some 22) (bm_ 10 127) rfl rfl (one_of HT_.out (by kernel_rfl)) (by decide) (fun K hK=>?_)
 refine value_ (w1:=?_) (v:=?_) (by rfl) rfl ?_ ?_
 rotate_left 2
 ·go_simp
  constructor
  ·rfl
  rfl
 refine hK.out _ _ ⟨(blk_cell (blk_alloc BK247.out _) 0).trans rfl,(blk_cell (blk_alloc BK247.out _) 1).trans rfl,(blk_cell (blk_alloc BK247.out _) 2).trans rfl⟩ (fun hHeld=>?_)
 clear hK K
 refine nm_ 22 ?_
 refine one_ (i:=7) (N:=some 23) (bm_ 10 255) rfl rfl (one_of HT_.out (by kernel_rfl)) (by decide) (fun K hK=>?_)
 refine Kd.R_append_step k37 w.heap.size (by rfl) (.tmp 17) (.tmp 22) 33 37 (.agg #[(.string ⟨#[]⟩),(.string ⟨#[]⟩)]) 32 rfl Tryd.underlying33 info37 rfl (by decide) (by omega) (.slice none 0 0) ([]:List (S37)) (⟨t254,t255⟩:S37) [.string t254,.string t255] (fun _=>True) (fun _=>False) rfl rfl ?aP (fun _ hk=>hk.elim) ?aF ?aO (Below.refl _ _) ?aS ?aL ?_
 (case aP=>exact k37_mkM _ _ _ (⟨t254,t255⟩:S37))
 (case aF=>exact(fun _ _=>trivial))
 (case aO=>exact((Kd.R_nil _ _ _ _ (fun _=>True))))
 (case aS=>exact(keep_size (w:=w) (g:=g) (row:=none) (kp_ HK)))
 (case aL=>have:=LMc16.out;omega)
 intro v259 w19 ho hb hg hat
 rw[← Ny258.out] at ho
 have n0_:=Aside0.mk (blk_grown (bk_ BK246).out hg (by simp[Value.ownBlock]))
 have n1_:=Aside0.mk (blk_grown (bk_ BK247).out hg (by simp[Value.ownBlock]))
 have n2_:=Aside0.mk (IsS63.grown (is63_ HI0) hg (by simp[Value.ownBlock]))
 have n3_:=Aside0.mk (below_weaken (bs63_ HB HI0) HL.out hb)
 have n4_:=Aside0.mk (KeepBut.trans (kp_ HK) (KeepBut.of_grown hg g) (.inl (by simp[Value.ownBlock])))
 have n5_:=Aside0.mk (ho)
 clear BK246
 clear BK247
 clear HI0
 clear HB
 clear HK
 revert n0_ n1_ n2_ n3_ n4_ n5_
 intro BK246 BK247 HI0 HB HK HO260
 clear ho hb hg hat
 obtain⟨Ao20,co20,eo20⟩:=Kd.R_slice HO260.out
 (first|subst eo20|(injection eo20 with f1_ f2_ f3_;have f4_:=f1_.symm;have f5_:=f3_.symm;clear f1_ f2_ f3_;subst f4_;subst f5_))
 refine hK.out _ _ ⟨bc_ BK247 0,bc_ BK247 1,bc_ BK247 2⟩ (fun hHeld=>?_)
 clear hK K
 refine nm_ 23 ?_
 refine pu_ 8 24 (bm_ 10 511) HT_ ?_
 refine last_ (i:=9) (N:=none) #[true,true,true,true,true,true,true,true,true,true] rfl rfl (one_of HT_.out (by kernel_rfl)) (by decide) (fun K hK=>?_)
 have hs21:w19.cell? ⟨gb247,1,none⟩=some (.slice none 0 0):=bc_ BK247 1
 have hfs21:=blk_frozen BK247.out 1
 have hns21_0:=NB246_247.out
 have hms21_0:=NB247_246.out
 refine skip_ (w1:=?_) (by rfl) rfl ?_ ?_
 rotate_left
 ·go_simp
  rfl
 refine hK.out _ _ ?_
 clear hK K
 refine done_ (done_of HT_.out (by kernel_rfl)) ?_
 try go_wp2
 go_loopg [] kj1 (fun kq w'=>∃(x1000_2:ByteArray) (x1001_2:Int) (x248001_2:List (S37)) (x248002_2:Bool) (u248001:Value),Aside0 (sample_reader_set.l0 kq x1000_2 x1001_2 x248000_1 x248001_2 x248002_2=some (r1,r2,r3,r4,r5))∧Aside0 (kq≤kj1)∧Aside0 (Kd.R k37 37 w' w.heap.size (fun _=>True) u248001 x248001_2)∧Aside0 (w'.heap[gb246]? = some (.cells #[.bool false,(.slice none 0 0),.bool false] 35 (0,0)))∧Aside0 (w'.heap[gb247]? = some (.cells #[.bool x248000_1,u248001,.bool x248002_2] 35 (0,0)))∧Aside0 (IsS63 w0 w' g x1000_2 x1001_2)∧Aside0 (KeepBut w w' g none)∧Aside0 (Below w0.heap.size w0 w'))
 case atStart=>exact⟨(t256),(t257),(y258),(false),(.slice Ao20 y258.length co20),H',⟨Nat.le_refl _⟩,⟨kdR_ (Kd.R_mono (Kd.R_far (Kd.R_types HO260.out BK247.out (by decide)) (fun _ hk=>hk.2) _) (fun _ hk=>trivial))⟩,⟨(bf_ BK246).out⟩,⟨(bp_ BK247).out⟩,⟨is63_ HI0⟩,⟨kp_ HK⟩,⟨bs63_ HB HI0⟩⟩
 clear H'
 obtain⟨x1000_2,x1001_2,x248001_2,x248002_2,u248001,HA,HK2,HO_248001,BK246,BK247,HI0,HK,HB⟩:=hrel
 cases gk with
 | zero=>exact absurd HA.out (by simp[sample_reader_set.l0])
 | succ k2=>?_
 have H:=HA.out
 clear HA
 simp only[sample_reader_set.l0] at H
 replace H:=Option.bind_eq_some_iff.mp H
 obtain⟨⟨t261,t262,t263⟩,A220,H⟩:=H
 dsimp only at H
 have A22:=Aside0.mk A220
 clear A220
 by_cases c23:t261=true
 ·subst c23
  rw[if_pos rfl] at H
  replace H:=Option.bind_eq_some_iff.mp H
  obtain⟨⟨t264,t265,t266⟩,A240,H⟩:=H
  dsimp only at H
  have A24:=Aside0.mk A240
  clear A240
  by_cases c25:t264=true
  ·subst c25
   rw[if_pos rfl] at H
   simp only[Option.some.injEq,Prod.mk.injEq] at H
   obtain⟨rfl,rfl,rfl,rfl,rfl⟩:=H
   go_wp2_with (first|((with_reducible refine gate_callee (f:=26) rfl ?_);refine gl_ (some 26) Tryd.func26 #[.pointer (some ⟨g,0,none⟩),.string (⟨#[44]⟩:ByteArray)] ?_;(with_reducible refine(sample_reader_take.calls _ _ _ _ _ _ _ _ w0 _ ?side1 ?side2 A22.out).mono ?_);(case side1=>exact is63_ HI0);(case side2=>exact bs63_ HB HI0);rintro e w26 ⟨rfl,hi,hb,hk⟩;refine⟨_,rfl,?_⟩;have n0_:=Aside0.mk (Kd.R_mono (Kd.R_keep (IsS63.apart (show IsS63 w0 _ g x1000_2 x1001_2 from is63_ HI0) (kr_ HO_248001) (by decide)) hk (fun _ h=>h.2)) (fun _ h=>h.1));have n1_:=Aside0.mk (KeepBut.blk hk (bk_ BK246).out NB246_0.out (by simp));have n2_:=Aside0.mk (KeepBut.blk hk (bk_ BK247).out NB247_0.out (by simp));have n3_:=Aside0.mk (KeepBut.trans (kp_ HK) hk (.inl rfl));have n4_:=Aside0.mk (hb);have n5_:=Aside0.mk (hi);clear HO_248001;clear BK246;clear BK247;clear HK;clear HB;clear HI0;revert n0_ n1_ n2_ n3_ n4_ n5_;intro HO_248001 BK246 BK247 HK HB HI0;(try clear hb);(try clear hk);(try clear hi))|((with_reducible refine gate_callee (f:=26) rfl ?_);refine gl_ (some 28) Tryd.func26 #[.pointer (some ⟨g,0,none⟩),.string (⟨#[226,128,166]⟩:ByteArray)] ?_;(with_reducible refine(sample_reader_take.calls _ _ _ _ _ _ _ _ w0 _ ?side1 ?side2 A24.out).mono ?_);(case side1=>exact is63_ HI0);(case side2=>exact bs63_ HB HI0);rintro e w27 ⟨rfl,hi,hb,hk⟩;refine⟨_,rfl,?_⟩;have n0_:=Aside0.mk (Kd.R_mono (Kd.R_keep (IsS63.apart (show IsS63 w0 _ g t262 t263 from is63_ HI0) (kr_ HO_248001) (by decide)) hk (fun _ h=>h.2)) (fun _ h=>h.1));have n1_:=Aside0.mk (KeepBut.blk hk (bk_ BK246).out NB246_0.out (by simp));have n2_:=Aside0.mk (KeepBut.blk hk (bk_ BK247).out NB247_0.out (by simp));have n3_:=Aside0.mk (KeepBut.trans (kp_ HK) hk (.inl rfl));have n4_:=Aside0.mk (hb);have n5_:=Aside0.mk (hi);clear HO_248001;clear BK246;clear BK247;clear HK;clear HB;clear HI0;revert n0_ n1_ n2_ n3_ n4_ n5_;intro HO_248001 BK246 BK247 HK HB HI0;(try clear hb);(try clear hk);(try clear hi);have hnb28:=NB247_246.out;have hnc28:=NB246_247.out;have hnb29:=NB247_0.out;have hnc29:=NB0_247.out;obtain⟨hcz30_0,hcz30_1,hcz30_2,hfz30_0,hfz30_1,hfz30_2⟩:=bo3_ BK247;have hnb31:=NB246_0.out;have hnc31:=NB0_246.out;obtain⟨hcz32_0,hcz32_1,hcz32_2,hfz32_0,hfz32_1,hfz32_2⟩:=bo3_ BK246;obtain⟨Ao33,co33,eo33⟩:=Kd.R_slice HO_248001.out;subst eo33))
   refine bodyPost_ret (results_cell_row rfl _ _ gb246 35 #[.bool x248000_1,.slice Ao33 x248001_2.length co33,.bool true] (0,0) _ rfl ((bp_ BK246).out) Tryd.underlying35 rfl (by kernel_rfl)) rfl ?_
   exact⟨_,by first|rfl|(simp[errW_none,errW_some] <;> rfl)|(simp[*,errW_none,errW_some] <;> first|rfl|exact given_isEmpty _|exact(given_isEmpty _).symm),kdR_ (Kd.R_mono (Kd.R_far (Kd.R_far (Kd.R_far (Kd.R_far (Kd.R_types (Kd.R_types HO_248001.out BK247.out (by decide)) BK246.out (by decide)) (fun _ hk=>hk.1.2) (.bool true)) (fun _ hk=>hk.2) _) (fun _ hk=>hk.2) _) (fun _ hk=>hk.2) _) (fun _ hk=>trivial)),is63_ HI0,bs63_ HB HI0,kp_ HK⟩
  replace c25:=Bool.eq_false_iff.mpr c25
  subst c25
  rw[if_neg (show ¬(false=true) by decide)] at H
  replace H:=Option.bind_eq_some_iff.mp H
  obtain⟨⟨t267,t268,t269⟩,A340,H⟩:=H
  dsimp only at H
  have A34:=Aside0.mk A340
  clear A340
  by_cases c35:t267=true
  ·subst c35
   rw[if_pos rfl] at H
   simp only[Option.some.injEq,Prod.mk.injEq] at H
   obtain⟨rfl,rfl,rfl,rfl,rfl⟩:=H
   go_wp2_with (first|((with_reducible refine gate_callee (f:=26) rfl ?_);refine gl_ (some 26) Tryd.func26 #[.pointer (some ⟨g,0,none⟩),.string (⟨#[44]⟩:ByteArray)] ?_;(with_reducible refine(sample_reader_take.calls _ _ _ _ _ _ _ _ w0 _ ?side1 ?side2 A22.out).mono ?_);(case side1=>exact is63_ HI0);(case side2=>exact bs63_ HB HI0);rintro e w36 ⟨rfl,hi,hb,hk⟩;refine⟨_,rfl,?_⟩;have n0_:=Aside0.mk (Kd.R_mono (Kd.R_keep (IsS63.apart (show IsS63 w0 _ g x1000_2 x1001_2 from is63_ HI0) (kr_ HO_248001) (by decide)) hk (fun _ h=>h.2)) (fun _ h=>h.1));have n1_:=Aside0.mk (KeepBut.blk hk (bk_ BK246).out NB246_0.out (by simp));have n2_:=Aside0.mk (KeepBut.blk hk (bk_ BK247).out NB247_0.out (by simp));have n3_:=Aside0.mk (KeepBut.trans (kp_ HK) hk (.inl rfl));have n4_:=Aside0.mk (hb);have n5_:=Aside0.mk (hi);clear HO_248001;clear BK246;clear BK247;clear HK;clear HB;clear HI0;revert n0_ n1_ n2_ n3_ n4_ n5_;intro HO_248001 BK246 BK247 HK HB HI0;(try clear hb);(try clear hk);(try clear hi))|((with_reducible refine gate_callee (f:=26) rfl ?_);refine gl_ (some 28) Tryd.func26 #[.pointer (some ⟨g,0,none⟩),.string (⟨#[226,128,166]⟩:ByteArray)] ?_;(with_reducible refine(sample_reader_take.calls _ _ _ _ _ _ _ _ w0 _ ?side1 ?side2 A24.out).mono ?_);(case side1=>exact is63_ HI0);(case side2=>exact bs63_ HB HI0);rintro e w37 ⟨rfl,hi,hb,hk⟩;refine⟨_,rfl,?_⟩;have n0_:=Aside0.mk (Kd.R_mono (Kd.R_keep (IsS63.apart (show IsS63 w0 _ g t262 t263 from is63_ HI0) (kr_ HO_248001) (by decide)) hk (fun _ h=>h.2)) (fun _ h=>h.1));have n1_:=Aside0.mk (KeepBut.blk hk (bk_ BK246).out NB246_0.out (by simp));have n2_:=Aside0.mk (KeepBut.blk hk (bk_ BK247).out NB247_0.out (by simp));have n3_:=Aside0.mk (KeepBut.trans (kp_ HK) hk (.inl rfl));have n4_:=Aside0.mk (hb);have n5_:=Aside0.mk (hi);clear HO_248001;clear BK246;clear BK247;clear HK;clear HB;clear HI0;revert n0_ n1_ n2_ n3_ n4_ n5_;intro HO_248001 BK246 BK247 HK HB HI0;(try clear hb);(try clear hk);(try clear hi))|(go_at_call 26;(with_reducible refine(sample_reader_take.calls _ _ _ _ _ _ _ _ w0 _ ?side1 ?side2 A34.out).mono ?_);(case side1=>exact is63_ HI0);(case side2=>exact bs63_ HB HI0);rintro e w38 ⟨rfl,hi,hb,hk⟩;have n0_:=Aside0.mk (Kd.R_mono (Kd.R_keep (IsS63.apart (show IsS63 w0 _ g t265 t266 from is63_ HI0) (kr_ HO_248001) (by decide)) hk (fun _ h=>h.2)) (fun _ h=>h.1));have n1_:=Aside0.mk (KeepBut.blk hk (bk_ BK246).out NB246_0.out (by simp));have n2_:=Aside0.mk (KeepBut.blk hk (bk_ BK247).out NB247_0.out (by simp));have n3_:=Aside0.mk (KeepBut.trans (kp_ HK) hk (.inl rfl));have n4_:=Aside0.mk (hb);have n5_:=Aside0.mk (hi);clear HO_248001;clear BK246;clear BK247;clear HK;clear HB;clear HI0;revert n0_ n1_ n2_ n3_ n4_ n5_;intro HO_248001 BK246 BK247 HK HB HI0;(try clear hb);(try clear hk);(try clear hi);have hnb39:=NB247_246.out;have hnc39:=NB246_247.out;have hnb40:=NB247_0.out;have hnc40:=NB0_247.out;obtain⟨hcz41_0,hcz41_1,hcz41_2,hfz41_0,hfz41_1,hfz41_2⟩:=bo3_ BK247;have hnb42:=NB246_0.out;have hnc42:=NB0_246.out;obtain⟨hcz43_0,hcz43_1,hcz43_2,hfz43_0,hfz43_1,hfz43_2⟩:=bo3_ BK246;obtain⟨Ao44,co44,eo44⟩:=Kd.R_slice HO_248001.out;subst eo44))
   refine bodyPost_ret (results_cell_row rfl _ _ gb246 35 #[.bool x248000_1,.slice Ao44 x248001_2.length co44,.bool true] (0,0) _ rfl ((bp_ BK246).out) Tryd.underlying35 rfl (by kernel_rfl)) rfl ?_
   exact⟨_,by first|rfl|(simp[errW_none,errW_some] <;> rfl)|(simp[*,errW_none,errW_some] <;> first|rfl|exact given_isEmpty _|exact(given_isEmpty _).symm),kdR_ (Kd.R_mono (Kd.R_far (Kd.R_far (Kd.R_far (Kd.R_far (Kd.R_types (Kd.R_types HO_248001.out BK247.out (by decide)) BK246.out (by decide)) (fun _ hk=>hk.1.2) (.bool true)) (fun _ hk=>hk.2) _) (fun _ hk=>hk.2) _) (fun _ hk=>hk.2) _) (fun _ hk=>trivial)),is63_ HI0,bs63_ HB HI0,kp_ HK⟩
  replace c35:=Bool.eq_false_iff.mpr c35
  subst c35
  rw[if_neg (show ¬(false=true) by decide)] at H
  replace H:=Option.bind_eq_some_iff.mp H
  obtain⟨⟨t270,t271,t272,t273⟩,A450,H⟩:=H
  dsimp only at H
  have A45:=Aside0.mk A450
  clear A450
  replace H:=ifn_ H
  obtain⟨c46,H⟩:=H
  have LMc46:=Aside0.mk c46
  clear c46
  obtain⟨y274,hy274⟩:∃y_:List (S37),y_=(x248001_2++[(⟨t270,t271⟩:S37)]):=⟨_,rfl⟩
  replace H:(sample_reader_set.l0 k2 t272 t273 x248000_1 y274 false)=some (r1,r2,r3,r4,r5):=by first|(rw[hy274];with_reducible exact H)|(have H2_:=(Option.bind_some _ _).symm.trans H;rw[hy274];with_reducible exact H2_)|(have H2_:=(Option.bind_some _ _).symm.trans H;with_reducible exact H2_)|with_reducible exact H|(rw[hy274];exact H)|exact H
  have Ny274:=Aside0.mk hy274
  clear hy274
  have H':=Aside0.mk H
  clear H
  try go_wp2_with (first|((with_reducible refine gate_callee (f:=26) rfl ?_);refine gl_ (some 26) Tryd.func26 #[.pointer (some ⟨g,0,none⟩),.string (⟨#[44]⟩:ByteArray)] ?_;(with_reducible refine(sample_reader_take.calls _ _ _ _ _ _ _ _ w0 _ ?side1 ?side2 A22.out).mono ?_);(case side1=>exact is63_ HI0);(case side2=>exact bs63_ HB HI0);rintro e w47 ⟨rfl,hi,hb,hk⟩;refine⟨_,rfl,?_⟩;have n0_:=Aside0.mk (Kd.R_mono (Kd.R_keep (IsS63.apart (show IsS63 w0 _ g x1000_2 x1001_2 from is63_ HI0) (kr_ HO_248001) (by decide)) hk (fun _ h=>h.2)) (fun _ h=>h.1));have n1_:=Aside0.mk (KeepBut.blk hk (bk_ BK246).out NB246_0.out (by simp));have n2_:=Aside0.mk (KeepBut.blk hk (bk_ BK247).out NB247_0.out (by simp));have n3_:=Aside0.mk (KeepBut.trans (kp_ HK) hk (.inl rfl));have n4_:=Aside0.mk (hb);have n5_:=Aside0.mk (hi);clear HO_248001;clear BK246;clear BK247;clear HK;clear HB;clear HI0;revert n0_ n1_ n2_ n3_ n4_ n5_;intro HO_248001 BK246 BK247 HK HB HI0;(try clear hb);(try clear hk);(try clear hi))|((with_reducible refine gate_callee (f:=26) rfl ?_);refine gl_ (some 28) Tryd.func26 #[.pointer (some ⟨g,0,none⟩),.string (⟨#[226,128,166]⟩:ByteArray)] ?_;(with_reducible refine(sample_reader_take.calls _ _ _ _ _ _ _ _ w0 _ ?side1 ?side2 A24.out).mono ?_);(case side1=>exact is63_ HI0);(case side2=>exact bs63_ HB HI0);rintro e w48 ⟨rfl,hi,hb,hk⟩;refine⟨_,rfl,?_⟩;have n0_:=Aside0.mk (Kd.R_mono (Kd.R_keep (IsS63.apart (show IsS63 w0 _ g t262 t263 from is63_ HI0) (kr_ HO_248001) (by decide)) hk (fun _ h=>h.2)) (fun _ h=>h.1));have n1_:=Aside0.mk (KeepBut.blk hk (bk_ BK246).out NB246_0.out (by simp));have n2_:=Aside0.mk (KeepBut.blk hk (bk_ BK247).out NB247_0.out (by simp));have n3_:=Aside0.mk (KeepBut.trans (kp_ HK) hk (.inl rfl));have n4_:=Aside0.mk (hb);have n5_:=Aside0.mk (hi);clear HO_248001;clear BK246;clear BK247;clear HK;clear HB;clear HI0;revert n0_ n1_ n2_ n3_ n4_ n5_;intro HO_248001 BK246 BK247 HK HB HI0;(try clear hb);(try clear hk);(try clear hi))|(go_at_call 26;(with_reducible refine(sample_reader_take.calls _ _ _ _ _ _ _ _ w0 _ ?side1 ?side2 A34.out).mono ?_);(case side1=>exact is63_ HI0);(case side2=>exact bs63_ HB HI0);rintro e w49 ⟨rfl,hi,hb,hk⟩;have n0_:=Aside0.mk (Kd.R_mono (Kd.R_keep (IsS63.apart (show IsS63 w0 _ g t265 t266 from is63_ HI0) (kr_ HO_248001) (by decide)) hk (fun _ h=>h.2)) (fun _ h=>h.1));have n1_:=Aside0.mk (KeepBut.blk hk (bk_ BK246).out NB246_0.out (by simp));have n2_:=Aside0.mk (KeepBut.blk hk (bk_ BK247).out NB247_0.out (by simp));have n3_:=Aside0.mk (KeepBut.trans (kp_ HK) hk (.inl rfl));have n4_:=Aside0.mk (hb);have n5_:=Aside0.mk (hi);clear HO_248001;clear BK246;clear BK247;clear HK;clear HB;clear HI0;revert n0_ n1_ n2_ n3_ n4_ n5_;intro HO_248001 BK246 BK247 HK HB HI0;(try clear hb);(try clear hk);(try clear hi);have hnb50:=NB247_246.out;have hnc50:=NB246_247.out;have hnb51:=NB247_0.out;have hnc51:=NB0_247.out;obtain⟨hcz52_0,hcz52_1,hcz52_2,hfz52_0,hfz52_1,hfz52_2⟩:=bo3_ BK247))
  have n0_:Aside0 (Kd.R k37 37 (w49.setCell ⟨gb247,2,none⟩ (.bool false)) w.heap.size (fun _=>True) u248001 x248001_2):=⟨kdR_ (Kd.R_mono (Kd.R_far (Kd.R_types HO_248001.out BK247.out (by decide)) (fun _ hk=>hk.2) _) (fun _ hk=>trivial))⟩
  have n1_:Aside0 ((w49.setCell ⟨gb247,2,none⟩ (.bool false)).heap[gb246]? = _):=bf_ BK246
  have n2_:Aside0 ((w49.setCell ⟨gb247,2,none⟩ (.bool false)).heap[gb247]? = some (.cells #[.bool x248000_1,u248001,.bool false] 35 (0,0))):=⟨(bp_ BK247).out⟩
  have n3_:Aside0 (IsS63 w0 (w49.setCell ⟨gb247,2,none⟩ (.bool false)) g t268 t269):=⟨is63_ HI0⟩
  have n4_:Aside0 (KeepBut w (w49.setCell ⟨gb247,2,none⟩ (.bool false)) g none):=⟨kp_ HK⟩
  have n5_:Aside0 (Below w0.heap.size w0 (w49.setCell ⟨gb247,2,none⟩ (.bool false))):=⟨bs63_ HB HI0⟩
  (try clear HO_248001)
  (try clear BK246)
  (try clear BK247)
  (try clear HI0)
  (try clear HK)
  (try clear HB)
  generalize (w49.setCell ⟨gb247,2,none⟩ (.bool false))=w53 at n0_ n1_ n2_ n3_ n4_ n5_ ⊢
  revert n0_ n1_ n2_ n3_ n4_ n5_
  intro HO_248001 BK246 BK247 HI0 HK HB
  replace HO_248001:=Aside0.mk (Kd.R_drew HO_248001.out)
  replace BK246:=Aside0.mk (blk_drew BK246.out)
  replace BK247:=Aside0.mk (blk_drew BK247.out)
  replace HI0:=Aside0.mk (IsS63.drew HI0.out)
  replace HK:=Aside0.mk (keep_drew HK.out)
  replace HB:=Aside0.mk (below_drew1 HB.out)
  refine start_ (n:=10) (S:=fun w'=>w'.cell? ⟨gb247,0,none⟩=some (.bool x248000_1)∧w'.cell? ⟨gb247,1,none⟩=some (u248001)∧w'.cell? ⟨gb247,2,none⟩=some (.bool false)) (ds:=[9]) #[false,false,false,false,false,false,false,false,false,false] (by kernel_rfl) rfl rfl ⟨bc_ BK247 0,bc_ BK247 1,bc_ BK247 2⟩ (fun hHeld=>?_);refine with_tabW sample_reader_set.tab10 sample_reader_set.bits10 (fun HT_ HW_=>?_)
  generalize w53.drew=w54 at HO_248001 BK246 BK247 HI0 HK HB hHeld ⊢
  refine pu_ 0 36 (bm_ 10 1) HT_ ?_
  refine pu_ 2 38 (bm_ 10 5) HT_ ?_
  refine pu_ 3 39 (bm_ 10 13) HT_ ?_
  refine tk_ 1 37 (bm_ 10 15) HT_ HW_ hHeld rfl (by rintro w' ⟨s0,s1,s2⟩;go_simp;with_reducible rfl) ?_
  refine tk_ 4 40 (bm_ 10 31) HT_ HW_ hHeld rfl (by rintro w' ⟨s0,s1,s2⟩;go_simp;with_reducible rfl) ?_
  refine one_ (i:=5) (N:=some 41) (bm_ 10 63) rfl rfl (one_of HT_.out (by kernel_rfl)) (by decide) (fun K hK=>?_)
  refine gs_ Tryd.func28 #[.pointer (some ⟨g,0,none⟩),.bool x248000_1] ?_
  with_reducible refine(sample_reader_item.calls _ _ _ _ _ _ _ _ _ w0 _ ?side1 ?side2 A45.out).mono ?_
  (case side1=>exact is63_ HI0)
  (case side2=>exact bs63_ HB HI0)
  rintro e w55 ⟨rfl,hi,hb,hk⟩
  refine⟨_,rfl,?_⟩
  have n0_:=Aside0.mk (Kd.R_mono (Kd.R_keep (IsS63.apart (show IsS63 w0 _ g t268 t269 from is63_ HI0) (kr_ HO_248001) (by decide)) hk (fun _ h=>h.2)) (fun _ h=>h.1))
  have n1_:=Aside0.mk (KeepBut.blk hk (bk_ BK246).out NB246_0.out (by simp))
  have n2_:=Aside0.mk (KeepBut.blk hk (bk_ BK247).out NB247_0.out (by simp))
  have n3_:=Aside0.mk (KeepBut.trans (kp_ HK) hk (.inl rfl))
  have n4_:=Aside0.mk (hb)
  have n5_:=Aside0.mk (hi)
  clear HO_248001
  clear BK246
  clear BK247
  clear HK
  clear HB
  clear HI0
  revert n0_ n1_ n2_ n3_ n4_ n5_
  intro HO_248001 BK246 BK247 HK HB HI0
  (try clear hb)
  (try clear hb2)
  (try clear hk)
  (try clear hi)
  refine hK.out _ _ ⟨bc_ BK247 0,bc_ BK247 1,bc_ BK247 2⟩ (fun hHeld=>?_)
  clear hK K
  refine nm_ 41 ?_
  refine one_ (i:=6) (N:=some 42) (bm_ 10 127) rfl rfl (one_of HT_.out (by kernel_rfl)) (by decide) (fun K hK=>?_)
  refine value_ (w1:=?_) (v:=?_) (by rfl) rfl ?_ ?_
  rotate_left 2
  ·go_simp
   constructor
   ·rfl
   rfl
  refine hK.out _ _ ⟨(blk_cell (blk_alloc BK247.out _) 0).trans rfl,(blk_cell (blk_alloc BK247.out _) 1).trans rfl,(blk_cell (blk_alloc BK247.out _) 2).trans rfl⟩ (fun hHeld=>?_)
  clear hK K
  refine nm_ 42 ?_
  refine one_ (i:=7) (N:=some 43) (bm_ 10 255) rfl rfl (one_of HT_.out (by kernel_rfl)) (by decide) (fun K hK=>?_)
  refine Kd.R_append_step k37 w.heap.size (by rfl) (.tmp 37) (.tmp 42) 33 37 (.agg #[(.string ⟨#[]⟩),(.string ⟨#[]⟩)]) 32 rfl Tryd.underlying33 info37 rfl (by decide) (by omega) u248001 x248001_2 (⟨t270,t271⟩:S37) [.string t270,.string t271] (fun _=>True) (fun _=>False) rfl rfl ?aP (fun _ hk=>hk.elim) ?aF ?aO (Below.refl _ _) ?aS ?aL ?_
  (case aP=>exact k37_mkM _ _ _ (⟨t270,t271⟩:S37))
  (case aF=>exact(fun _ _=>trivial))
  (case aO=>exact(kr_ HO_248001))
  (case aS=>exact(keep_size (w:=w) (g:=g) (row:=none) (kp_ HK)))
  (case aL=>have:=LMc46.out;omega)
  intro v275 w56 ho hb hg hat
  rw[← Ny274.out] at ho
  have n0_:=Aside0.mk (blk_grown (bk_ BK246).out hg (Kd.R_ne HO_248001.out BK246.out (by decide)))
  have n1_:=Aside0.mk (blk_grown (bk_ BK247).out hg (Kd.R_ne HO_248001.out BK247.out (by decide)))
  have n2_:=Aside0.mk (IsS63.grown (is63_ HI0) hg (IsS63.own_ne HI0.out HO_248001.out (by decide)))
  have n3_:=Aside0.mk (below_weaken (bs63_ HB HI0) HL.out hb)
  have n4_:=Aside0.mk (KeepBut.trans (kp_ HK) (KeepBut.of_grown hg g) (Kd.R_base2 HO_248001.out))
  have n5_:=Aside0.mk (ho)
  clear BK246
  clear BK247
  clear HI0
  clear HB
  clear HK
  clear HO_248001
  revert n0_ n1_ n2_ n3_ n4_ n5_
  intro BK246 BK247 HI0 HB HK HO276
  clear ho hb hg hat
  obtain⟨Ao57,co57,eo57⟩:=Kd.R_slice HO276.out
  (first|subst eo57|(injection eo57 with f1_ f2_ f3_;have f4_:=f1_.symm;have f5_:=f3_.symm;clear f1_ f2_ f3_;subst f4_;subst f5_))
  refine hK.out _ _ ⟨bc_ BK247 0,bc_ BK247 1,bc_ BK247 2⟩ (fun hHeld=>?_)
  clear hK K
  refine nm_ 43 ?_
  refine pu_ 8 44 (bm_ 10 511) HT_ ?_
  refine last_ (i:=9) (N:=none) #[true,true,true,true,true,true,true,true,true,true] rfl rfl (one_of HT_.out (by kernel_rfl)) (by decide) (fun K hK=>?_)
  have hs58:w56.cell? ⟨gb247,1,none⟩=some (u248001):=bc_ BK247 1
  have hfs58:=blk_frozen BK247.out 1
  have hns58_0:=NB246_247.out
  have hms58_0:=NB247_246.out
  refine skip_ (w1:=?_) (by rfl) rfl ?_ ?_
  rotate_left
  ·go_simp
   rfl
  refine hK.out _ _ ?_
  clear hK K
  refine done_ (done_of HT_.out (by kernel_rfl)) ?_
  try go_wp2
  go_roundg k2
  case measure=>have:=HJ1.out;have:=HK2.out;omega
  case rel=>exact⟨(t272),(t273),(y274),(false),(.slice Ao57 y274.length co57),H',⟨by have:=HJ1.out;have:=HK2.out;omega⟩,⟨kdR_ (Kd.R_mono (Kd.R_far (Kd.R_types HO276.out BK247.out (by decide)) (fun _ hk=>hk.2) _) (fun _ hk=>trivial))⟩,⟨(bf_ BK246).out⟩,⟨(bp_ BK247).out⟩,⟨is63_ HI0⟩,⟨kp_ HK⟩,⟨bs63_ HB HI0⟩⟩
 replace c23:=Bool.eq_false_iff.mpr c23
 subst c23
 rw[if_neg (show ¬(false=true) by decide)] at H
 simp only[Option.some.injEq,Prod.mk.injEq] at H
 obtain⟨rfl,rfl,rfl,rfl,rfl⟩:=H
 go_wp2_with (first|((with_reducible refine gate_callee (f:=26) rfl ?_);refine gl_ (some 26) Tryd.func26 #[.pointer (some ⟨g,0,none⟩),.string (⟨#[44]⟩:ByteArray)] ?_;(with_reducible refine(sample_reader_take.calls _ _ _ _ _ _ _ _ w0 _ ?side1 ?side2 A22.out).mono ?_);(case side1=>exact is63_ HI0);(case side2=>exact bs63_ HB HI0);rintro e w59 ⟨rfl,hi,hb,hk⟩;refine⟨_,rfl,?_⟩;have n0_:=Aside0.mk (Kd.R_mono (Kd.R_keep (IsS63.apart (show IsS63 w0 _ g x1000_2 x1001_2 from is63_ HI0) (kr_ HO_248001) (by decide)) hk (fun _ h=>h.2)) (fun _ h=>h.1));have n1_:=Aside0.mk (KeepBut.blk hk (bk_ BK246).out NB246_0.out (by simp));have n2_:=Aside0.mk (KeepBut.blk hk (bk_ BK247).out NB247_0.out (by simp));have n3_:=Aside0.mk (KeepBut.trans (kp_ HK) hk (.inl rfl));have n4_:=Aside0.mk (hb);have n5_:=Aside0.mk (hi);clear HO_248001;clear BK246;clear BK247;clear HK;clear HB;clear HI0;revert n0_ n1_ n2_ n3_ n4_ n5_;intro HO_248001 BK246 BK247 HK HB HI0;(try clear hb);(try clear hk);(try clear hi);have hnb60:=NB247_246.out;have hnc60:=NB246_247.out;have hnb61:=NB247_0.out;have hnc61:=NB0_247.out;obtain⟨hcz62_0,hcz62_1,hcz62_2,hfz62_0,hfz62_1,hfz62_2⟩:=bo3_ BK247;have hnb63:=NB246_0.out;have hnc63:=NB0_246.out;obtain⟨hcz64_0,hcz64_1,hcz64_2,hfz64_0,hfz64_1,hfz64_2⟩:=bo3_ BK246;obtain⟨Ao65,co65,eo65⟩:=Kd.R_slice HO_248001.out;subst eo65))
 refine bodyPost_ret (results_cell_row rfl _ _ gb246 35 #[.bool x248000_1,.slice Ao65 x248001_2.length co65,.bool x248002_2] (0,0) _ rfl ((bp_ BK246).out) Tryd.underlying35 rfl (by kernel_rfl)) rfl ?_
 exact⟨_,by first|rfl|(simp[errW_none,errW_some] <;> rfl)|(simp[*,errW_none,errW_some] <;> first|rfl|exact given_isEmpty _|exact(given_isEmpty _).symm),kdR_ (Kd.R_mono (Kd.R_far (Kd.R_far (Kd.R_far (Kd.R_types HO_248001.out BK246.out (by decide)) (fun _ hk=>hk.2) _) (fun _ hk=>hk.2) _) (fun _ hk=>hk.2) _) (fun _ hk=>trivial)),is63_ HI0,bs63_ HB HI0,kp_ HK⟩

end Go.Proofs.YtbhhfpjiacfofaaDoor.P
