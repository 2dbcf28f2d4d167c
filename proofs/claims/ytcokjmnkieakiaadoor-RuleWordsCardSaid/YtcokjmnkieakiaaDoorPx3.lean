-- written by a program of this session (wip/p2)
import Derived.Test.YtcokjmnkieakiaaDoorPx0
import Derived.Test.YtcokjmnkieakiaaDoorPx1
import Derived.Test.YtcokjmnkieakiaaDoorPx2
namespace Go.Proofs.YtcokjmnkieakiaaDoor.P
open Go.RowKit Go.Proofs.YtcokjmnkieakiaaDoorW.PrintWords Go.Proofs.YtcokjmnkieakiaaDoorW.PrintLast Go.Proofs.YtcokjmnkieakiaaDoorW.PrintMore
attribute [local go_sem] max2_int min2_int max_two min_two max_three min_three max_four min_four   -- for this text's walks alone
set_option linter.unusedVariables false
set_option linter.unusedSimpArgs false

/-! ### rule_reader_sample: function 31 -/
def rule_reader_sample.f (k:Nat) (s0_0:ByteArray) (s0_1:Int) (s0_2:Int) (s0_3:Bool) (s0_4:Bool) (s0_5:Bool) (s0_6:Bool) (s0_7:Bool) (s0_8:Bool):Option (ByteArray × ByteArray × Int × Int × Bool × Bool × Bool × Bool × Bool × Bool):=(rule_reader_peek.f k s0_0 s0_1 s0_2 s0_3 s0_4 s0_5 s0_6 s0_7 s0_8).bind fun bt359=>(if bt359.1=64 then (if 0≤bt359.2.2.1 then (if bt359.2.2.1≤(bt359.2.1.size:Int) then ((strings_Cut.f (bt359.2.1.extract (bt359.2.2.1:Int).toNat bt359.2.1.size) (⟨#[59]⟩:ByteArray)).bind fun bt369=>((strings_TrimRight.f bt369.1 (⟨#[32]⟩:ByteArray)).bind fun t372=>(some (t372,bt359.2.1,wrap64 (bt359.2.2.1+(bt369.1.size:Int)),bt359.2.2.2.1,bt359.2.2.2.2.1,bt359.2.2.2.2.2.1,bt359.2.2.2.2.2.2.1,bt359.2.2.2.2.2.2.2.1,bt359.2.2.2.2.2.2.2.2.1,bt359.2.2.2.2.2.2.2.2.2)))) else (none)) else (none)) else (some ((⟨#[]⟩:ByteArray),bt359.2.1,bt359.2.2.1,bt359.2.2.2.1,bt359.2.2.2.2.1,bt359.2.2.2.2.2.1,bt359.2.2.2.2.2.2.1,bt359.2.2.2.2.2.2.2.1,bt359.2.2.2.2.2.2.2.2.1,bt359.2.2.2.2.2.2.2.2.2)))
set_option maxHeartbeats 64000000 in
set_option maxRecDepth 100000 in
theorem rule_reader_sample.calls (k:Nat) (g:Nat) (s0_0:ByteArray) (s0_1:Int) (s0_2:Int) (s0_3:Bool) (s0_4:Bool) (s0_5:Bool) (s0_6:Bool) (s0_7:Bool) (s0_8:Bool) (r1:ByteArray) (r2:ByteArray) (r3:Int) (r4:Int) (r5:Bool) (r6:Bool) (r7:Bool) (r8:Bool) (r9:Bool) (r10:Bool) (w0 w:World) (hI:IsS56 w0 w g s0_0 s0_1 s0_2 s0_3 s0_4 s0_5 s0_6 s0_7 s0_8) (hB:Below w0.heap.size w0 w) (h:rule_reader_sample.f k s0_0 s0_1 s0_2 s0_3 s0_4 s0_5 s0_6 s0_7 s0_8=some (r1,r2,r3,r4,r5,r6,r7,r8,r9,r10)) :
  Calls Tryd.prog 31 #[.pointer (some ⟨g,0,none⟩)] w fun e w'=>e= .returned (.string r1)∧IsS56 w0 w' g r2 r3 r4 r5 r6 r7 r8 r9 r10∧Below w0.heap.size w0 w'∧KeepBut w w' g none:=by
 have HI0:=Aside0.mk hI
 have HK:=Aside0.mk (KeepBut.refl w g none)
 have HL:=Aside0.mk hB.size
 clear hI
 have HW0:=Aside0.mk hB.size
 have HB:=Aside0.mk hB
 clear hB
 have H:((rule_reader_peek.f k s0_0 s0_1 s0_2 s0_3 s0_4 s0_5 s0_6 s0_7 s0_8).bind fun bt359=>(if bt359.1=64 then (if 0≤bt359.2.2.1 then (if bt359.2.2.1≤(bt359.2.1.size:Int) then ((strings_Cut.f (bt359.2.1.extract (bt359.2.2.1:Int).toNat bt359.2.1.size) (⟨#[59]⟩:ByteArray)).bind fun bt369=>((strings_TrimRight.f bt369.1 (⟨#[32]⟩:ByteArray)).bind fun t372=>(some (t372,bt359.2.1,wrap64 (bt359.2.2.1+(bt369.1.size:Int)),bt359.2.2.2.1,bt359.2.2.2.2.1,bt359.2.2.2.2.2.1,bt359.2.2.2.2.2.2.1,bt359.2.2.2.2.2.2.2.1,bt359.2.2.2.2.2.2.2.2.1,bt359.2.2.2.2.2.2.2.2.2)))) else (none)) else (none)) else (some ((⟨#[]⟩:ByteArray),bt359.2.1,bt359.2.2.1,bt359.2.2.2.1,bt359.2.2.2.2.1,bt359.2.2.2.2.2.1,bt359.2.2.2.2.2.2.1,bt359.2.2.2.2.2.2.2.1,bt359.2.2.2.2.2.2.2.2.1,bt359.2.2.2.2.2.2.2.2.2))))=some (r1,r2,r3,r4,r5,r6,r7,r8,r9,r10):=h
 clear h
 replace H:=Option.bind_eq_some_iff.mp H
 obtain⟨⟨t359,t360,t361,t362,t363,t364,t365,t366,t367,t368⟩,A20,H⟩:=H
 dsimp only at H
 have A2:=Aside0.mk A20
 clear A20
 by_cases c3:t359=64
 ·rw[if_pos c3] at H
  have c3b0:(t359==64)=true:=beq_iff_eq.mpr c3
  have c3b1:(t359 !=64)=false:=bne_eq_false_iff_eq.mpr c3
  clear c3
  replace H:=ifn_ H
  obtain⟨c4,H⟩:=H
  have c4b0:=eq_true c4
  have c4b1:decide (0≤t361)=true:=decide_eq_true c4
  clear c4
  replace H:=ifn_ H
  obtain⟨c5,H⟩:=H
  have c5b0:=eq_true c5
  have c5b1:decide (t361≤(t360.size:Int))=true:=decide_eq_true c5
  clear c5
  replace H:=Option.bind_eq_some_iff.mp H
  obtain⟨⟨t369,t370,t371⟩,A60,H⟩:=H
  dsimp only at H
  have A6:=Aside0.mk A60
  clear A60
  replace H:=Option.bind_eq_some_iff.mp H
  obtain⟨t372,A70,H⟩:=H
  have A7:=Aside0.mk A70
  clear A70
  simp only[Option.some.injEq,Prod.mk.injEq] at H
  obtain⟨rfl,rfl,rfl,rfl,rfl,rfl,rfl,rfl,rfl,rfl⟩:=H
  go_enter Tryd.func31,Tryd.ntmps31
  go_wp2_with (first|(go_at_call 18;(with_reducible refine(rule_reader_peek.calls _ _ _ _ _ _ _ _ _ _ _ _ _ _ _ _ _ _ _ _ _ w0 _ ?side1 ?side2 A2.out).mono ?_);(case side1=>exact is56_ HI0);(case side2=>exact bs56_ HB HI0);rintro e w8 ⟨rfl,hi,hb,hk⟩;replace HK:=Aside0.mk (KeepBut.trans (kp_ HK) hk (.inl rfl));replace HB:=Aside0.mk (hb);replace HI0:=Aside0.mk (hi);(try clear hb);(try clear hk);(try clear hi);obtain⟨hcz9_0,hcz9_1,hcz9_2,hcz9_3,hcz9_4,hcz9_5,hcz9_6,hcz9_7,hcz9_8,hfz9_0,hfz9_1,hfz9_2,hfz9_3,hfz9_4,hfz9_5,hfz9_6,hfz9_7,hfz9_8⟩:=cs56_ HI0)|(go_at_call 39;(with_reducible refine(strings_Cut.calls _ _ _ _ _ _ A6.out).mono ?_);rintro e w' ⟨rfl,⟨nd,rfl⟩⟩;(try first|exact⟨rfl,_,World.drewN_drewN _ _ _⟩|exact⟨rfl,_,Eq.trans (World.drewN_drewN _ _ _) (congrArg (World.drewN _) (Nat.add_assoc _ _ _))⟩))|(go_at_call 40;(with_reducible refine(strings_TrimRight.calls _ _ _ _ A7.out).mono ?_);rintro e w' ⟨rfl,⟨nd,rfl⟩⟩;(try first|exact⟨rfl,_,World.drewN_drewN _ _ _⟩|exact⟨rfl,_,Eq.trans (World.drewN_drewN _ _ _) (congrArg (World.drewN _) (Nat.add_assoc _ _ _))⟩)))
  repeat(go_quiet (first|(go_at_call 18;(with_reducible refine(rule_reader_peek.calls _ _ _ _ _ _ _ _ _ _ _ _ _ _ _ _ _ _ _ _ _ w0 _ ?side1 ?side2 A2.out).mono ?_);(case side1=>exact is56_ HI0);(case side2=>exact bs56_ HB HI0);rintro e w8 ⟨rfl,hi,hb,hk⟩;replace HK:=Aside0.mk (KeepBut.trans (kp_ HK) hk (.inl rfl));replace HB:=Aside0.mk (hb);replace HI0:=Aside0.mk (hi);(try clear hb);(try clear hk);(try clear hi);obtain⟨hcz9_0,hcz9_1,hcz9_2,hcz9_3,hcz9_4,hcz9_5,hcz9_6,hcz9_7,hcz9_8,hfz9_0,hfz9_1,hfz9_2,hfz9_3,hfz9_4,hfz9_5,hfz9_6,hfz9_7,hfz9_8⟩:=cs56_ HI0)|(go_at_call 39;(with_reducible refine(strings_Cut.calls _ _ _ _ _ _ A6.out).mono ?_);rintro e w' ⟨rfl,⟨nd,rfl⟩⟩;(try first|exact⟨rfl,_,World.drewN_drewN _ _ _⟩|exact⟨rfl,_,Eq.trans (World.drewN_drewN _ _ _) (congrArg (World.drewN _) (Nat.add_assoc _ _ _))⟩))|(go_at_call 40;(with_reducible refine(strings_TrimRight.calls _ _ _ _ A7.out).mono ?_);rintro e w' ⟨rfl,⟨nd,rfl⟩⟩;(try first|exact⟨rfl,_,World.drewN_drewN _ _ _⟩|exact⟨rfl,_,Eq.trans (World.drewN_drewN _ _ _) (congrArg (World.drewN _) (Nat.add_assoc _ _ _))⟩)));try go_wp2_with (first|(go_at_call 18;(with_reducible refine(rule_reader_peek.calls _ _ _ _ _ _ _ _ _ _ _ _ _ _ _ _ _ _ _ _ _ w0 _ ?side1 ?side2 A2.out).mono ?_);(case side1=>exact is56_ HI0);(case side2=>exact bs56_ HB HI0);rintro e w8 ⟨rfl,hi,hb,hk⟩;replace HK:=Aside0.mk (KeepBut.trans (kp_ HK) hk (.inl rfl));replace HB:=Aside0.mk (hb);replace HI0:=Aside0.mk (hi);(try clear hb);(try clear hk);(try clear hi);obtain⟨hcz9_0,hcz9_1,hcz9_2,hcz9_3,hcz9_4,hcz9_5,hcz9_6,hcz9_7,hcz9_8,hfz9_0,hfz9_1,hfz9_2,hfz9_3,hfz9_4,hfz9_5,hfz9_6,hfz9_7,hfz9_8⟩:=cs56_ HI0)|(go_at_call 39;(with_reducible refine(strings_Cut.calls _ _ _ _ _ _ A6.out).mono ?_);rintro e w' ⟨rfl,⟨nd,rfl⟩⟩;(try first|exact⟨rfl,_,World.drewN_drewN _ _ _⟩|exact⟨rfl,_,Eq.trans (World.drewN_drewN _ _ _) (congrArg (World.drewN _) (Nat.add_assoc _ _ _))⟩))|(go_at_call 40;(with_reducible refine(strings_TrimRight.calls _ _ _ _ A7.out).mono ?_);rintro e w' ⟨rfl,⟨nd,rfl⟩⟩;(try first|exact⟨rfl,_,World.drewN_drewN _ _ _⟩|exact⟨rfl,_,Eq.trans (World.drewN_drewN _ _ _) (congrArg (World.drewN _) (Nat.add_assoc _ _ _))⟩))))
  go_ret
  exact⟨ew_,is56_ HI0,bs56_ HB HI0,kp_ HK⟩
 ·rw[if_neg c3] at H
  have c3b0:(t359==64)=false:=beq_eq_false_iff_ne.mpr c3
  have c3b1:(t359 !=64)=true:=bne_iff_ne.mpr c3
  simp only[Option.some.injEq,Prod.mk.injEq] at H
  obtain⟨rfl,rfl,rfl,rfl,rfl,rfl,rfl,rfl,rfl,rfl⟩:=H
  go_enter Tryd.func31,Tryd.ntmps31
  go_wp2_with (first|(go_at_call 18;(with_reducible refine(rule_reader_peek.calls _ _ _ _ _ _ _ _ _ _ _ _ _ _ _ _ _ _ _ _ _ w0 _ ?side1 ?side2 A2.out).mono ?_);(case side1=>exact is56_ HI0);(case side2=>exact bs56_ HB HI0);rintro e w10 ⟨rfl,hi,hb,hk⟩;replace HK:=Aside0.mk (KeepBut.trans (kp_ HK) hk (.inl rfl));replace HB:=Aside0.mk (hb);replace HI0:=Aside0.mk (hi);(try clear hb);(try clear hk);(try clear hi)))
  repeat(go_quiet (first|(go_at_call 18;(with_reducible refine(rule_reader_peek.calls _ _ _ _ _ _ _ _ _ _ _ _ _ _ _ _ _ _ _ _ _ w0 _ ?side1 ?side2 A2.out).mono ?_);(case side1=>exact is56_ HI0);(case side2=>exact bs56_ HB HI0);rintro e w10 ⟨rfl,hi,hb,hk⟩;replace HK:=Aside0.mk (KeepBut.trans (kp_ HK) hk (.inl rfl));replace HB:=Aside0.mk (hb);replace HI0:=Aside0.mk (hi);(try clear hb);(try clear hk);(try clear hi)));try go_wp2_with (first|(go_at_call 18;(with_reducible refine(rule_reader_peek.calls _ _ _ _ _ _ _ _ _ _ _ _ _ _ _ _ _ _ _ _ _ w0 _ ?side1 ?side2 A2.out).mono ?_);(case side1=>exact is56_ HI0);(case side2=>exact bs56_ HB HI0);rintro e w10 ⟨rfl,hi,hb,hk⟩;replace HK:=Aside0.mk (KeepBut.trans (kp_ HK) hk (.inl rfl));replace HB:=Aside0.mk (hb);replace HI0:=Aside0.mk (hi);(try clear hb);(try clear hk);(try clear hi))))
  go_ret
  exact⟨ew_,is56_ HI0,bs56_ HB HI0,kp_ HK⟩

/-! ### rule_reader_rule: function 19 -/
mutual
def rule_reader_rule.j0:Nat→Int→ByteArray→Int→Int→Bool→Bool→Bool→Bool→Bool→Bool→Option (Int × (List (List (S36))) × ByteArray × ByteArray × Int × Int × Bool × Bool × Bool × Bool × Bool × Bool)
 | 0,_,_,_,_,_,_,_,_,_,_=>none
 | k+1,x5,x1000,x1001,x1002,x1003,x1004,x1005,x1006,x1007,x1008=>if x5=5 then ((rule_reader_sample.f k x1000 x1001 x1002 x1003 x1004 x1005 x1006 x1007 x1008).bind fun bt396=>(some (x5,([]:List (List (S36))),bt396.1,bt396.2.1,bt396.2.2.1,bt396.2.2.2.1,bt396.2.2.2.2.1,bt396.2.2.2.2.2.1,bt396.2.2.2.2.2.2.1,bt396.2.2.2.2.2.2.2.1,bt396.2.2.2.2.2.2.2.2.1,bt396.2.2.2.2.2.2.2.2.2))) else ((rule_reader_all.f k x1000 x1001 x1002 x1003 x1004 x1005 x1006 x1007 x1008).bind fun bt406=>(if ([]:List (List (S36))).length<5864062014805 then (rule_reader_rule.l0 k bt406.2.1 bt406.2.2.1 bt406.2.2.2.1 bt406.2.2.2.2.1 bt406.2.2.2.2.2.1 bt406.2.2.2.2.2.2.1 bt406.2.2.2.2.2.2.2.1 bt406.2.2.2.2.2.2.2.2.1 bt406.2.2.2.2.2.2.2.2.2 x5 (([]:List (List (S36)))++[bt406.1]) (⟨#[]⟩:ByteArray)) else (none)))
def rule_reader_rule.l0:Nat→ByteArray→Int→Int→Bool→Bool→Bool→Bool→Bool→Bool→Int→List (List (S36))→ByteArray→Option (Int × (List (List (S36))) × ByteArray × ByteArray × Int × Int × Bool × Bool × Bool × Bool × Bool × Bool)
 | 0,_,_,_,_,_,_,_,_,_,_,_,_=>none
 | k+1,x1000,x1001,x1002,x1003,x1004,x1005,x1006,x1007,x1008,x396000,x396001,x396002=>(rule_reader_next.f k x1000 x1001 x1002 x1003 x1004 x1005 x1006 x1007 x1008 (⟨#[111,114]⟩:ByteArray)).bind fun bt421=>(if bt421.1=true then ((rule_reader_all.f k bt421.2.1 bt421.2.2.1 bt421.2.2.2.1 bt421.2.2.2.2.1 bt421.2.2.2.2.2.1 bt421.2.2.2.2.2.2.1 bt421.2.2.2.2.2.2.2.1 bt421.2.2.2.2.2.2.2.2.1 bt421.2.2.2.2.2.2.2.2.2).bind fun bt431=>(if x396001.length<5864062014805 then (rule_reader_rule.l0 k bt431.2.1 bt431.2.2.1 bt431.2.2.2.1 bt431.2.2.2.2.1 bt431.2.2.2.2.2.1 bt431.2.2.2.2.2.2.1 bt431.2.2.2.2.2.2.2.1 bt431.2.2.2.2.2.2.2.2.1 bt431.2.2.2.2.2.2.2.2.2 x396000 (x396001++[bt431.1]) x396002) else (none))) else ((rule_reader_sample.f k bt421.2.1 bt421.2.2.1 bt421.2.2.2.1 bt421.2.2.2.2.1 bt421.2.2.2.2.2.1 bt421.2.2.2.2.2.2.1 bt421.2.2.2.2.2.2.2.1 bt421.2.2.2.2.2.2.2.2.1 bt421.2.2.2.2.2.2.2.2.2).bind fun bt446=>(some (x396000,x396001,bt446.1,bt446.2.1,bt446.2.2.1,bt446.2.2.2.1,bt446.2.2.2.2.1,bt446.2.2.2.2.2.1,bt446.2.2.2.2.2.2.1,bt446.2.2.2.2.2.2.2.1,bt446.2.2.2.2.2.2.2.2.1,bt446.2.2.2.2.2.2.2.2.2))))
end
def rule_reader_rule.f (k:Nat) (s0_0:ByteArray) (s0_1:Int) (s0_2:Int) (s0_3:Bool) (s0_4:Bool) (s0_5:Bool) (s0_6:Bool) (s0_7:Bool) (s0_8:Bool):Option (Int × (List (List (S36))) × ByteArray × ByteArray × Int × Int × Bool × Bool × Bool × Bool × Bool × Bool):=(rule_reader_word.f k s0_0 s0_1 s0_2 s0_3 s0_4 s0_5 s0_6 s0_7 s0_8).bind fun bt374=>((rule_CatOf.f k bt374.1).bind fun bt384=>(if bt384.2=true then (if 0≤bt384.1 then (if bt384.1<6 then (if rdOf false [bt374.2.2.2.2.1,bt374.2.2.2.2.2.1,bt374.2.2.2.2.2.2.1,bt374.2.2.2.2.2.2.2.1,bt374.2.2.2.2.2.2.2.2.1,bt374.2.2.2.2.2.2.2.2.2] bt384.1=true then (none) else ((rule_reader_want.f k bt374.2.1 (wrap64 (bt374.2.2.1+(bt374.1.size:Int))) bt374.2.2.2.1 (if bt384.1=0 then true else bt374.2.2.2.2.1) (if bt384.1=1 then true else bt374.2.2.2.2.2.1) (if bt384.1=2 then true else bt374.2.2.2.2.2.2.1) (if bt384.1=3 then true else bt374.2.2.2.2.2.2.2.1) (if bt384.1=4 then true else bt374.2.2.2.2.2.2.2.2.1) (if bt384.1=5 then true else bt374.2.2.2.2.2.2.2.2.2) (⟨#[58]⟩:ByteArray)).bind fun bt386=>(rule_reader_rule.j0 k bt384.1 bt386.1 bt386.2.1 bt386.2.2.1 bt386.2.2.2.1 bt386.2.2.2.2.1 bt386.2.2.2.2.2.1 bt386.2.2.2.2.2.2.1 bt386.2.2.2.2.2.2.2.1 bt386.2.2.2.2.2.2.2.2))) else (none)) else (none)) else (none)))
def rule_reader_rule.T13:Bool × List (List Nat × List Nat):=(true,[([],[]),([0],[0]),([],[]),([2],[2]),([3],[3]),([1,4,3],[1,4]),([0,1,2,3,4,5],[]),([6,5,5,0,1,2,3,4,5],[5,6])])
def rule_reader_rule.B13:List Nat:=[0,1,0,4,12,31,63,127]
theorem rule_reader_rule.tab13:rtab .any (opsOf Tryd.f19 13)=rule_reader_rule.T13:=by kernel_rfl
theorem rule_reader_rule.bits13:waitsOk rule_reader_rule.T13.2 rule_reader_rule.B13=true:=by kernel_rfl
def rule_reader_rule.T15:Bool × List (List Nat × List Nat):=(true,[([],[]),([0],[0]),([],[]),([2],[2]),([3],[3]),([1,4,3],[1,4]),([0,1,2,3,4,5],[]),([6,5,5,0,1,2,3,4,5],[5,6])])
def rule_reader_rule.B15:List Nat:=[0,1,0,4,12,31,63,127]
theorem rule_reader_rule.tab15:rtab .any (opsOf Tryd.f19 15)=rule_reader_rule.T15:=by kernel_rfl
theorem rule_reader_rule.bits15:waitsOk rule_reader_rule.T15.2 rule_reader_rule.B15=true:=by kernel_rfl
set_option maxHeartbeats 64000000 in
set_option maxRecDepth 100000 in
theorem rule_reader_rule.calls (k:Nat) (g:Nat) (s0_0:ByteArray) (s0_1:Int) (s0_2:Int) (s0_3:Bool) (s0_4:Bool) (s0_5:Bool) (s0_6:Bool) (s0_7:Bool) (s0_8:Bool) (r1:Int) (r2:List (List (S36))) (r3:ByteArray) (r4:ByteArray) (r5:Int) (r6:Int) (r7:Bool) (r8:Bool) (r9:Bool) (r10:Bool) (r11:Bool) (r12:Bool) (w0 w:World) (hI:IsS56 w0 w g s0_0 s0_1 s0_2 s0_3 s0_4 s0_5 s0_6 s0_7 s0_8) (hB:Below w0.heap.size w0 w) (h:rule_reader_rule.f k s0_0 s0_1 s0_2 s0_3 s0_4 s0_5 s0_6 s0_7 s0_8=some (r1,r2,r3,r4,r5,r6,r7,r8,r9,r10,r11,r12)) :
  Calls Tryd.prog 19 #[.pointer (some ⟨g,0,none⟩)] w fun e w'=>∃v1_:Value,e= .returned (.agg #[.int .i64 r1,v1_,.string r3])∧Kd.N (Kd.slice 36 k36) 33 w' w.heap.size (fun k_=>(w.heap.size≤k_)) v1_ r2∧IsS56 w0 w' g r4 r5 r6 r7 r8 r9 r10 r11 r12∧Below w0.heap.size w0 w'∧KeepBut w w' g none:=by
 have hu32:=Tryd.underlying32
 have HI0:=Aside0.mk hI
 have HK:=Aside0.mk (KeepBut.refl w g none)
 have HL:=Aside0.mk hB.size
 clear hI
 have HW0:=Aside0.mk hB.size
 have HB:=Aside0.mk hB
 clear hB
 have H:((rule_reader_word.f k s0_0 s0_1 s0_2 s0_3 s0_4 s0_5 s0_6 s0_7 s0_8).bind fun bt374=>((rule_CatOf.f k bt374.1).bind fun bt384=>(if bt384.2=true then (if 0≤bt384.1 then (if bt384.1<6 then (if rdOf false [bt374.2.2.2.2.1,bt374.2.2.2.2.2.1,bt374.2.2.2.2.2.2.1,bt374.2.2.2.2.2.2.2.1,bt374.2.2.2.2.2.2.2.2.1,bt374.2.2.2.2.2.2.2.2.2] bt384.1=true then (none) else ((rule_reader_want.f k bt374.2.1 (wrap64 (bt374.2.2.1+(bt374.1.size:Int))) bt374.2.2.2.1 (if bt384.1=0 then true else bt374.2.2.2.2.1) (if bt384.1=1 then true else bt374.2.2.2.2.2.1) (if bt384.1=2 then true else bt374.2.2.2.2.2.2.1) (if bt384.1=3 then true else bt374.2.2.2.2.2.2.2.1) (if bt384.1=4 then true else bt374.2.2.2.2.2.2.2.2.1) (if bt384.1=5 then true else bt374.2.2.2.2.2.2.2.2.2) (⟨#[58]⟩:ByteArray)).bind fun bt386=>(rule_reader_rule.j0 k bt384.1 bt386.1 bt386.2.1 bt386.2.2.1 bt386.2.2.2.1 bt386.2.2.2.2.1 bt386.2.2.2.2.2.1 bt386.2.2.2.2.2.2.1 bt386.2.2.2.2.2.2.2.1 bt386.2.2.2.2.2.2.2.2))) else (none)) else (none)) else (none))))=some (r1,r2,r3,r4,r5,r6,r7,r8,r9,r10,r11,r12):=h
 clear h
 replace H:=Option.bind_eq_some_iff.mp H
 obtain⟨⟨t374,t375,t376,t377,t378,t379,t380,t381,t382,t383⟩,A20,H⟩:=H
 dsimp only at H
 have A2:=Aside0.mk A20
 clear A20
 replace H:=Option.bind_eq_some_iff.mp H
 obtain⟨⟨t384,t385⟩,A30,H⟩:=H
 dsimp only at H
 have A3:=Aside0.mk A30
 clear A30
 by_cases c4:t385=true
 ·subst c4
  have H1:(if 0≤t384 then (if t384<6 then (if rdOf false [t378,t379,t380,t381,t382,t383] t384=true then (none) else ((rule_reader_want.f k t375 (wrap64 (t376+(t374.size:Int))) t377 (if t384=0 then true else t378) (if t384=1 then true else t379) (if t384=2 then true else t380) (if t384=3 then true else t381) (if t384=4 then true else t382) (if t384=5 then true else t383) (⟨#[58]⟩:ByteArray)).bind fun bt386=>(rule_reader_rule.j0 k t384 bt386.1 bt386.2.1 bt386.2.2.1 bt386.2.2.2.1 bt386.2.2.2.2.1 bt386.2.2.2.2.2.1 bt386.2.2.2.2.2.2.1 bt386.2.2.2.2.2.2.2.1 bt386.2.2.2.2.2.2.2.2))) else (none)) else (none))=some (r1,r2,r3,r4,r5,r6,r7,r8,r9,r10,r11,r12):=by rw[if_pos rfl] at H;exact H
  clear H
  have H:=H1
  clear H1
  replace H:=ifn_ H
  obtain⟨c5,H⟩:=H
  have c5b0:decide (0≤t384)=true:=decide_eq_true c5
  clear c5
  replace H:=ifn_ H
  obtain⟨c6,H⟩:=H
  have c6b0:decide (t384<6)=true:=decide_eq_true c6
  clear c6
  obtain⟨bq7,hbq7⟩:∃b_:Bool,b_=(rdOf false [t378,t379,t380,t381,t382,t383] t384):=⟨_,rfl⟩
  replace H:(if bq7=true then (none) else ((rule_reader_want.f k t375 (wrap64 (t376+(t374.size:Int))) t377 (if t384=0 then true else t378) (if t384=1 then true else t379) (if t384=2 then true else t380) (if t384=3 then true else t381) (if t384=4 then true else t382) (if t384=5 then true else t383) (⟨#[58]⟩:ByteArray)).bind fun bt386=>(rule_reader_rule.j0 k t384 bt386.1 bt386.2.1 bt386.2.2.1 bt386.2.2.2.1 bt386.2.2.2.2.1 bt386.2.2.2.2.2.1 bt386.2.2.2.2.2.2.1 bt386.2.2.2.2.2.2.2.1 bt386.2.2.2.2.2.2.2.2)))=some (r1,r2,r3,r4,r5,r6,r7,r8,r9,r10,r11,r12):=by rw[← hbq7] at H;exact H
  have Nbq7:=Aside0.mk hbq7
  clear hbq7
  by_cases c8:bq7=true
  ·subst c8
   have H1:(none)=some (r1,r2,r3,r4,r5,r6,r7,r8,r9,r10,r11,r12):=by rw[if_pos rfl] at H;exact H
   clear H
   have H:=H1
   clear H1
   exact absurd H (by simp)
  ·replace c8:=Bool.eq_false_iff.mpr c8
   subst c8
   have H1:((rule_reader_want.f k t375 (wrap64 (t376+(t374.size:Int))) t377 (if t384=0 then true else t378) (if t384=1 then true else t379) (if t384=2 then true else t380) (if t384=3 then true else t381) (if t384=4 then true else t382) (if t384=5 then true else t383) (⟨#[58]⟩:ByteArray)).bind fun bt386=>(rule_reader_rule.j0 k t384 bt386.1 bt386.2.1 bt386.2.2.1 bt386.2.2.2.1 bt386.2.2.2.2.1 bt386.2.2.2.2.2.1 bt386.2.2.2.2.2.2.1 bt386.2.2.2.2.2.2.2.1 bt386.2.2.2.2.2.2.2.2))=some (r1,r2,r3,r4,r5,r6,r7,r8,r9,r10,r11,r12):=by rw[if_neg (show ¬(false=true) by decide)] at H;exact H
   clear H
   have H:=H1
   clear H1
   have HC9:=Aside0.mk H
   clear H
   go_enter Tryd.func19,Tryd.ntmps19
   go_upto_region 10 with (first|((with_reducible refine gate_dst (N:=2) rfl ?_);refine be_ 2 #[.int .i64 0,.slice none 0 0,.string (⟨#[]⟩:ByteArray)] 32 ?_;intro gb373 hg w10 hbox hb;have n0_:=Aside0.mk (IsS56.below (is56_ HI0) hb);have n1_:=Aside0.mk (KeepBut.trans (kp_ HK) (KeepBut.of_below hb g none) (.inl rfl));have n2_:=Aside0.mk (below_step (bs56_ HB HI0) hb);have n3_:=Aside0.mk (hbox);have n4_:=Aside0.mk ((by rw[hg];exact(keep_size (w:=w) (g:=g) (row:=none) (kp_ HK)):w.heap.size≤gb373));have n5_:=Aside0.mk ((Nat.le_trans HW0.out (by rw[hg];exact(keep_size (w:=w) (g:=g) (row:=none) (kp_ HK)):w.heap.size≤gb373):w0.heap.size≤gb373));have n6_:=Aside0.mk ((by rw[hg];exact Nat.ne_of_lt (IsS56.lt (show IsS56 w0 _ g s0_0 s0_1 s0_2 s0_3 s0_4 s0_5 s0_6 s0_7 s0_8 from is56_ HI0)):g≠gb373));have n7_:=Aside0.mk ((by rw[hg];exact Nat.ne_of_gt (IsS56.lt (show IsS56 w0 _ g s0_0 s0_1 s0_2 s0_3 s0_4 s0_5 s0_6 s0_7 s0_8 from is56_ HI0)):gb373≠g));clear HI0;clear HK;clear HB;have HI0:=n0_;have HK:=n1_;have HB:=n2_;have BK373:=n3_;have GW373:=n4_;have GE373:=n5_;have NB0_373:=n6_;have NB373_0:=n7_;clear n0_ n1_ n2_ n3_ n4_ n5_ n6_ n7_;clear hb hbox hg)|((with_reducible refine gate_callee (f:=27) rfl ?_);refine gl_ (some 9) Tryd.func27 #[.pointer (some ⟨g,0,none⟩)] ?_;(with_reducible refine(rule_reader_word.calls _ _ _ _ _ _ _ _ _ _ _ _ _ _ _ _ _ _ _ _ _ w0 _ ?side1 ?side2 A2.out).mono ?_);(case side1=>exact is56_ HI0);(case side2=>exact bs56_ HB HI0);rintro e w11 ⟨rfl,hi,hb,hk⟩;refine⟨_,rfl,?_⟩;have n0_:=Aside0.mk (KeepBut.blk hk (bk_ BK373).out NB373_0.out (by simp));have n1_:=Aside0.mk (KeepBut.trans (kp_ HK) hk (.inl rfl));have n2_:=Aside0.mk (hb);have n3_:=Aside0.mk (hi);clear BK373;clear HK;clear HB;clear HI0;have BK373:=n0_;have HK:=n1_;have HB:=n2_;have HI0:=n3_;clear n0_ n1_ n2_ n3_;(try clear hb);(try clear hk);(try clear hi);obtain⟨hcz12_0,hcz12_1,hcz12_2,hcz12_3,hcz12_4,hcz12_5,hcz12_6,hcz12_7,hcz12_8,hfz12_0,hfz12_1,hfz12_2,hfz12_3,hfz12_4,hfz12_5,hfz12_6,hfz12_7,hfz12_8⟩:=cs56_ HI0)|((with_reducible refine gate_callee (f:=11) rfl ?_);refine gl_ (some 16) Tryd.func11 #[.string t374] ?_;(with_reducible refine(rule_CatOf.calls _ _ _ _ _ A3.out).mono ?_);rintro e w13 ⟨rfl,hb⟩;refine⟨_,rfl,?_⟩;have n0_:=Aside0.mk (IsS56.below (is56_ HI0) hb);have n1_:=bb_ BK373 hb;have n2_:=Aside0.mk (KeepBut.trans (kp_ HK) (KeepBut.of_below hb g none) (.inl rfl));have n3_:=Aside0.mk (below_step (bs56_ HB HI0) hb);clear HI0;clear BK373;clear HK;clear HB;have HI0:=n0_;have BK373:=n1_;have HK:=n2_;have HB:=n3_;clear n0_ n1_ n2_ n3_;(try clear hb);obtain⟨hcz14_0,hcz14_1,hcz14_2,hcz14_3,hcz14_4,hcz14_5,hcz14_6,hcz14_7,hcz14_8,hfz14_0,hfz14_1,hfz14_2,hfz14_3,hfz14_4,hfz14_5,hfz14_6,hfz14_7,hfz14_8⟩:=cs56_ HI0;have hpx15:0≤t384:=od_;have hqx15:t384<6:=od_;have hax15:=ax6_ t384 (od_) (od_);have hcx15:w13.cell? ⟨g,3+t384.toNat,none⟩=some (.bool (rdOf false [t378,t379,t380,t381,t382,t383] t384)):=(blk_cell HI0.out.1 (3+t384.toNat)).trans (by rcases hax15 with h_|h_|h_|h_|h_|h_ <;> (rw[h_];rfl));clear hax15;(try rw[← Nbq7.out] at hcx15);have hfx16:=blk_frozen HI0.out.1 (3+t384.toNat);have hqx16_0:0≤t384:=od_;have hqx16_1:t384<6:=od_;have hax16:=ax6_ t384 (od_) (od_);have hcx16:w13.cell? ⟨g,3+t384.toNat,none⟩=some (.bool (rdOf false [t378,t379,t380,t381,t382,t383] t384)):=(blk_cell HI0.out.1 (3+t384.toNat)).trans (by rcases hax16 with h_|h_|h_|h_|h_|h_ <;> (rw[h_];rfl));clear hax16)|((with_reducible refine gate_store (t:=4) (p:=37) rfl ?_);refine store_event (t:=4) (p:=37) (v:=?vo_w17) (w1:=(w13.setCell ⟨g,3+t384.toNat,none⟩ (.bool true))) ?hg ?ho ?hn ?hr ?_;(case ho=>rfl);(case hg=>rfl);(case hn=>rfl);(case hr=>first|(go_simp;done)|(go_simp;rfl));intro w17 hw;have n0_:Aside0 (w17.heap[gb373]? = some (.cells #[.int .i64 0,.slice none 0 0,.string (⟨#[]⟩:ByteArray)] 32 (0,0))):=⟨(by rw[hw];exact((bf_ BK373).out))⟩;have n1_:Aside0 (IsS56 w0 w17 g t375 t376 t377 (if t384=0 then true else t378) (if t384=1 then true else t379) (if t384=2 then true else t380) (if t384=3 then true else t381) (if t384=4 then true else t382) (if t384=5 then true else t383)):=⟨(by rw[hw];exact(is56_ HI0))⟩;have n2_:Aside0 (KeepBut w w17 g none):=⟨(by rw[hw];exact(kp_ HK))⟩;have n3_:Aside0 (Below w0.heap.size w0 w17):=⟨(by rw[hw];exact(bs56_ HB HI0))⟩;clear hw;clear BK373;clear HI0;clear HK;clear HB;have BK373:=n0_;have HI0:=n1_;have HK:=n2_;have HB:=n3_;clear n0_ n1_ n2_ n3_;obtain⟨hcz18_0,hcz18_1,hcz18_2,hcz18_3,hcz18_4,hcz18_5,hcz18_6,hcz18_7,hcz18_8,hfz18_0,hfz18_1,hfz18_2,hfz18_3,hfz18_4,hfz18_5,hfz18_6,hfz18_7,hfz18_8⟩:=cs56_ HI0))
   (try simp only[Act.put,List.setIfInBounds_toArray,List.set_cons_zero,List.set_cons_succ])
   go_cut [] (fun wc=>∃(kq:Nat) (x1000_8:ByteArray) (x1001_8:Int) (x1002_8:Int) (x1003_8:Bool) (x1004_8:Bool) (x1005_8:Bool) (x1006_8:Bool) (x1007_8:Bool) (x1008_8:Bool),Aside0 (rule_reader_rule.j0 kq t384 x1000_8 x1001_8 x1002_8 x1003_8 x1004_8 x1005_8 x1006_8 x1007_8 x1008_8=some (r1,r2,r3,r4,r5,r6,r7,r8,r9,r10,r11,r12))∧Aside0 (kq≤k)∧Aside0 (wc.heap[gb373]? = some (.cells #[.int .i64 0,(.slice none 0 0),.string (⟨#[]⟩:ByteArray)] 32 (0,0)))∧Aside0 (IsS56 w0 wc g x1000_8 x1001_8 x1002_8 x1003_8 x1004_8 x1005_8 x1006_8 x1007_8 x1008_8)∧Aside0 (KeepBut w wc g none)∧Aside0 (Below w0.heap.size w0 wc))
   case first =>
    have H:=HC9.out
    clear HC9
    replace H:=Option.bind_eq_some_iff.mp H
    obtain⟨⟨t386,t387,t388,t389,t390,t391,t392,t393,t394⟩,A190,H⟩:=H
    dsimp only at H
    have A19:=Aside0.mk A190
    clear A190
    have H':=Aside0.mk H
    clear H
    go_wp2_with (first|((with_reducible refine gate_callee (f:=28) rfl ?_);refine gl_ (some 48) Tryd.func28 #[.pointer (some ⟨g,0,none⟩),.string (⟨#[58]⟩:ByteArray)] ?_;(with_reducible refine(rule_reader_want.calls _ _ _ _ _ _ _ _ _ _ _ _ _ _ _ _ _ _ _ _ _ w0 _ ?side1 ?side2 A19.out).mono ?_);(case side1=>exact is56_ HI0);(case side2=>exact bs56_ HB HI0);rintro e w20 ⟨rfl,hi,hb,hk⟩;refine⟨_,rfl,?_⟩;have n0_:=Aside0.mk (KeepBut.blk hk (g':=gb373) (o:= .cells #[.int .i64 0,.slice none 0 0,.string (⟨#[]⟩:ByteArray)] 32 (0,0)) ((bf_ BK373).out) NB373_0.out (by simp));have n1_:=Aside0.mk (KeepBut.trans (kp_ HK) hk (.inl rfl));have n2_:=Aside0.mk (hb);have n3_:=Aside0.mk (hi);clear BK373;clear HK;clear HB;clear HI0;have BK373:=n0_;have HK:=n1_;have HB:=n2_;have HI0:=n3_;clear n0_ n1_ n2_ n3_;(try clear hb);(try clear hk);(try clear hi)))
    go_meet
    case rel=>exact⟨_,(t386),(t387),(t388),(t389),(t390),(t391),(t392),(t393),(t394),H',⟨by first|omega|exact Nat.le_refl _⟩,(bk_ BK373),⟨is56_ HI0⟩,⟨kp_ HK⟩,⟨bs56_ HB HI0⟩⟩
   case rest =>
    clear HC9
    obtain⟨kq,x1000_8,x1001_8,x1002_8,x1003_8,x1004_8,x1005_8,x1006_8,x1007_8,x1008_8,HA,HJ8,BK373,HI0,HK,HB⟩:=hcut
    cases kq with
    | zero=>exact absurd HA.out (by simp[rule_reader_rule.j0])
    | succ kj8 =>
     have H:=HA.out
     clear HA
     simp only[rule_reader_rule.j0] at H
     by_cases c21:t384=5
     ·rw[if_pos c21] at H
      have c21b0:(t384==5)=true:=beq_iff_eq.mpr c21
      have c21b1:(t384 !=5)=false:=bne_eq_false_iff_eq.mpr c21
      clear c21
      replace H:=Option.bind_eq_some_iff.mp H
      obtain⟨⟨t396,t397,t398,t399,t400,t401,t402,t403,t404,t405⟩,A220,H⟩:=H
      dsimp only at H
      have A22:=Aside0.mk A220
      clear A220
      simp only[Option.some.injEq,Prod.mk.injEq] at H
      obtain⟨rfl,rfl,rfl,rfl,rfl,rfl,rfl,rfl,rfl,rfl,rfl,rfl⟩:=H
      go_wp2_with (first|((with_reducible refine gate_dst (N:=7) rfl ?_);refine be_ 7 #[.int .i64 0,.slice none 0 0,.string (⟨#[]⟩:ByteArray)] 32 ?_;intro gb395 hg w23 hbox hb;have n0_:=bb_ BK373 hb;have n1_:=Aside0.mk (IsS56.below (is56_ HI0) hb);have n2_:=Aside0.mk (KeepBut.trans (kp_ HK) (KeepBut.of_below hb g none) (.inl rfl));have n3_:=Aside0.mk (below_step (bs56_ HB HI0) hb);have n4_:=Aside0.mk (hbox);have n5_:=Aside0.mk ((by rw[hg];exact(keep_size (w:=w) (g:=g) (row:=none) (kp_ HK)):w.heap.size≤gb395));have n6_:=Aside0.mk ((Nat.le_trans HW0.out (by rw[hg];exact(keep_size (w:=w) (g:=g) (row:=none) (kp_ HK)):w.heap.size≤gb395):w0.heap.size≤gb395));have n7_:=na_ BK373 hg;have n8_:=nb_ BK373 hg;have n9_:=Aside0.mk ((by rw[hg];exact Nat.ne_of_lt (IsS56.lt (show IsS56 w0 _ g x1000_8 x1001_8 x1002_8 x1003_8 x1004_8 x1005_8 x1006_8 x1007_8 x1008_8 from is56_ HI0)):g≠gb395));have n10_:=Aside0.mk ((by rw[hg];exact Nat.ne_of_gt (IsS56.lt (show IsS56 w0 _ g x1000_8 x1001_8 x1002_8 x1003_8 x1004_8 x1005_8 x1006_8 x1007_8 x1008_8 from is56_ HI0)):gb395≠g));clear BK373;clear HI0;clear HK;clear HB;have BK373:=n0_;have HI0:=n1_;have HK:=n2_;have HB:=n3_;have BK395:=n4_;have GW395:=n5_;have GE395:=n6_;have NB373_395:=n7_;have NB395_373:=n8_;have NB0_395:=n9_;have NB395_0:=n10_;clear n0_ n1_ n2_ n3_ n4_ n5_ n6_ n7_ n8_ n9_ n10_;clear hb hbox hg;have hnb24:=NB395_373.out;have hnc24:=NB373_395.out;have hnb25:=NB395_0.out;have hnc25:=NB0_395.out;obtain⟨hcz26_0,hcz26_1,hcz26_2,hfz26_0,hfz26_1,hfz26_2⟩:=bo3_ BK395)|((with_reducible refine gate_callee (f:=31) rfl ?_);refine gl_ (some 70) Tryd.func31 #[.pointer (some ⟨g,0,none⟩)] ?_;(with_reducible refine(rule_reader_sample.calls _ _ _ _ _ _ _ _ _ _ _ _ _ _ _ _ _ _ _ _ _ w0 _ ?side1 ?side2 A22.out).mono ?_);(case side1=>exact is56_ HI0);(case side2=>exact bs56_ HB HI0);rintro e w27 ⟨rfl,hi,hb,hk⟩;refine⟨_,rfl,?_⟩;have n0_:=Aside0.mk (KeepBut.blk hk (g':=gb373) (o:= .cells #[.int .i64 0,.slice none 0 0,.string (⟨#[]⟩:ByteArray)] 32 (0,0)) ((bf_ BK373).out) NB373_0.out (by simp));have n1_:=Aside0.mk (KeepBut.blk hk (g':=gb395) (o:= .cells #[.int .i64 t384,.slice none 0 0,.string (⟨#[]⟩:ByteArray)] 32 (0,0)) ((bp_ BK395).out) NB395_0.out (by simp));have n2_:=Aside0.mk (KeepBut.trans (kp_ HK) hk (.inl rfl));have n3_:=Aside0.mk (hb);have n4_:=Aside0.mk (hi);clear BK373;clear BK395;clear HK;clear HB;clear HI0;have BK373:=n0_;have BK395:=n1_;have HK:=n2_;have HB:=n3_;have HI0:=n4_;clear n0_ n1_ n2_ n3_ n4_;(try clear hb);(try clear hk);(try clear hi);obtain⟨hcz28_0,hcz28_1,hcz28_2,hfz28_0,hfz28_1,hfz28_2⟩:=bo3_ BK395;have hnb29:=NB373_0.out;have hnc29:=NB0_373.out;obtain⟨hcz30_0,hcz30_1,hcz30_2,hfz30_0,hfz30_1,hfz30_2⟩:=bo3_ BK373))
      refine bodyPost_ret (results_cell_row rfl _ _ gb373 32 #[.int .i64 t384,.slice none 0 0,.string t396] (0,0) _ rfl ((bp_ BK373).out) Tryd.underlying32 rfl (by kernel_rfl)) rfl ?_
      exact⟨_,by first|rfl|(simp[errW_none,errW_some] <;> rfl)|(simp[*,errW_none,errW_some] <;> first|rfl|exact given_isEmpty _|exact(given_isEmpty _).symm),by first|exact Kd.R_nil _ _ _ _ _|exact Kd.N_nil _ _ _ _ _|exact Kd.V_nil _ _ _ _ _|exact Kd.Q_nil _ _ _ _ _|exact Kd.S_nil _ _ _ _ _,is56_ HI0,bs56_ HB HI0,kp_ HK⟩
     ·rw[if_neg c21] at H
      have c21b0:(t384==5)=false:=beq_eq_false_iff_ne.mpr c21
      have c21b1:(t384 !=5)=true:=bne_iff_ne.mpr c21
      replace H:=Option.bind_eq_some_iff.mp H
      obtain⟨⟨t406,t409,t410,t411,t412,t413,t414,t415,t416,t417⟩,A310,H⟩:=H
      dsimp only at H
      have A31:=Aside0.mk A310
      clear A310
      replace H:=ifn_ H
      obtain⟨c32,H⟩:=H
      have LMc32:=Aside0.mk c32
      clear c32
      obtain⟨y418,hy418⟩:∃y_:List (List (S36)),y_=(([]:List (List (S36)))++[t406]):=⟨_,rfl⟩
      replace H:(rule_reader_rule.l0 kj8 t409 t410 t411 t412 t413 t414 t415 t416 t417 t384 y418 (⟨#[]⟩:ByteArray))=some (r1,r2,r3,r4,r5,r6,r7,r8,r9,r10,r11,r12):=by first|(rw[hy418];with_reducible exact H)|(have H2_:=(Option.bind_some _ _).symm.trans H;rw[hy418];with_reducible exact H2_)|(have H2_:=(Option.bind_some _ _).symm.trans H;with_reducible exact H2_)|with_reducible exact H|(rw[hy418];exact H)|exact H
      have Ny418:=Aside0.mk hy418
      clear hy418
      have H':=Aside0.mk H
      clear H
      try go_wp2_with (first|((with_reducible refine gate_dst (N:=7) rfl ?_);refine be_ 7 #[.int .i64 0,.slice none 0 0,.string (⟨#[]⟩:ByteArray)] 32 ?_;intro gb395 hg w33 hbox hb;have n0_:=bb_ BK373 hb;have n1_:=Aside0.mk (IsS56.below (is56_ HI0) hb);have n2_:=Aside0.mk (KeepBut.trans (kp_ HK) (KeepBut.of_below hb g none) (.inl rfl));have n3_:=Aside0.mk (below_step (bs56_ HB HI0) hb);have n4_:=Aside0.mk (hbox);have n5_:=Aside0.mk ((by rw[hg];exact(keep_size (w:=w) (g:=g) (row:=none) (kp_ HK)):w.heap.size≤gb395));have n6_:=Aside0.mk ((Nat.le_trans HW0.out (by rw[hg];exact(keep_size (w:=w) (g:=g) (row:=none) (kp_ HK)):w.heap.size≤gb395):w0.heap.size≤gb395));have n7_:=na_ BK373 hg;have n8_:=nb_ BK373 hg;have n9_:=Aside0.mk ((by rw[hg];exact Nat.ne_of_lt (IsS56.lt (show IsS56 w0 _ g x1000_8 x1001_8 x1002_8 x1003_8 x1004_8 x1005_8 x1006_8 x1007_8 x1008_8 from is56_ HI0)):g≠gb395));have n10_:=Aside0.mk ((by rw[hg];exact Nat.ne_of_gt (IsS56.lt (show IsS56 w0 _ g x1000_8 x1001_8 x1002_8 x1003_8 x1004_8 x1005_8 x1006_8 x1007_8 x1008_8 from is56_ HI0)):gb395≠g));clear BK373;clear HI0;clear HK;clear HB;have BK373:=n0_;have HI0:=n1_;have HK:=n2_;have HB:=n3_;have BK395:=n4_;have GW395:=n5_;have GE395:=n6_;have NB373_395:=n7_;have NB395_373:=n8_;have NB0_395:=n9_;have NB395_0:=n10_;clear n0_ n1_ n2_ n3_ n4_ n5_ n6_ n7_ n8_ n9_ n10_;clear hb hbox hg;have hnb34:=NB395_373.out;have hnc34:=NB373_395.out;have hnb35:=NB395_0.out;have hnc35:=NB0_395.out;obtain⟨hcz36_0,hcz36_1,hcz36_2,hfz36_0,hfz36_1,hfz36_2⟩:=bo3_ BK395))
      obtain⟨w37,hWz1⟩:∃W_,W_=(((w33.setCell ⟨gb395,0,none⟩ (.int .i64 t384)).setCell ⟨gb395,1,none⟩ (.slice none 0 0)).setCell ⟨gb395,2,none⟩ (.string (⟨#[]⟩:ByteArray))):=⟨_,rfl⟩
      have n0_:=wh_ hWz1 (bf_ BK373)
      have n1_:Aside0 (w37.heap[gb395]? = some (.cells #[.int .i64 t384,.slice none 0 0,.string (⟨#[]⟩:ByteArray)] 32 (0,0))):=by rw[hWz1];exact⟨(bp_ BK395).out⟩
      have n2_:Aside0 (IsS56 w0 w37 g x1000_8 x1001_8 x1002_8 x1003_8 x1004_8 x1005_8 x1006_8 x1007_8 x1008_8):=by rw[hWz1];exact⟨is56_ HI0⟩
      have n3_:Aside0 (KeepBut w w37 g none):=by rw[hWz1];exact⟨kp_ HK⟩
      have n4_:Aside0 (Below w0.heap.size w0 w37):=by rw[hWz1];exact⟨bs56_ HB HI0⟩
      (try clear BK373)
      (try clear BK395)
      (try clear HI0)
      (try clear HK)
      (try clear HB)
      rw[← hWz1]
      clear hWz1
      have BK373:=n0_
      have BK395:=n1_
      have HI0:=n2_
      have HK:=n3_
      have HB:=n4_
      clear n0_ n1_ n2_ n3_ n4_
      replace BK373:=Aside0.mk (blk_drew BK373.out)
      replace BK395:=Aside0.mk (blk_drew BK395.out)
      replace HI0:=Aside0.mk (IsS56.drew HI0.out)
      replace HK:=Aside0.mk (keep_drew HK.out)
      replace HB:=Aside0.mk (below_drew1 HB.out)
      refine start_ (n:=8) (S:=fun w'=>w'.cell? ⟨gb395,0,none⟩=some (.int .i64 t384)∧w'.cell? ⟨gb395,1,none⟩=some (.slice none 0 0)∧w'.cell? ⟨gb395,2,none⟩=some (.string (⟨#[]⟩:ByteArray))) (ds:=[7]) #[false,false,false,false,false,false,false,false] (by kernel_rfl) rfl rfl ⟨bc_ BK395 0,bc_ BK395 1,bc_ BK395 2⟩ (fun hHeld=>?_);refine with_tabW rule_reader_rule.tab13 rule_reader_rule.bits13 (fun HT_ HW_=>?_)
      generalize w37.drew=w38 at BK373 BK395 HI0 HK HB hHeld ⊢
      refine pu_ 0 53 #[true,false,false,false,false,false,false,false] HT_ ?_
      refine pu_ 2 55 #[true,false,true,false,false,false,false,false] HT_ ?_
      refine tk_ 1 54 #[true,true,true,false,false,false,false,false] HT_ HW_ hHeld rfl (by rintro w' ⟨s0,s1,s2⟩;go_simp;with_reducible rfl) ?_
      refine one_ (i:=3) (N:=some 56) #[true,true,true,true,false,false,false,false] rfl rfl (one_of HT_.out (by kernel_rfl)) (by decide) (fun K hK=>?_)
      refine gs_ Tryd.func29 #[.pointer (some ⟨g,0,none⟩)] ?_
      with_reducible refine(rule_reader_all.calls _ _ _ _ _ _ _ _ _ _ _ _ _ _ _ _ _ _ _ _ _ w0 _ ?side1 ?side2 A31.out).mono ?_
      (case side1=>exact is56_ HI0)
      (case side2=>exact bs56_ HB HI0)
      rintro e w39 ⟨v407,rfl,ho0,hi,hb,hk⟩
      refine⟨_,rfl,?_⟩
      have n0_:=Aside0.mk (KeepBut.blk hk (bk_ BK373).out NB373_0.out (by simp))
      have n1_:=Aside0.mk (KeepBut.blk hk (bk_ BK395).out NB395_0.out (by simp))
      have n2_:=Aside0.mk (Kd.N_lower (Kd.N_mono (ok':=fun k_=>(w.heap.size≤k_)∧k_≠gb373∧k_≠gb395∧k_≠g) ho0 (fun k_ hk_=>⟨(Nat.le_trans (keep_size (w:=w) (g:=g) (row:=none) (kp_ HK)) hk_),(Kd.freshB (bk_ BK373).out k_ hk_),(Kd.freshB (bk_ BK395).out k_ hk_),(IsS56.fresh (is56_ HI0) k_ hk_)⟩)) (keep_size (w:=w) (g:=g) (row:=none) (kp_ HK)))
      have n3_:=Aside0.mk (KeepBut.trans (kp_ HK) hk (.inl rfl))
      have n4_:=Aside0.mk (hb)
      have n5_:=Aside0.mk (hi)
      clear BK373
      clear BK395
      clear HK
      clear HB
      clear HI0
      have BK373:=n0_
      have BK395:=n1_
      have HO408:=n2_
      have HK:=n3_
      have HB:=n4_
      have HI0:=n5_
      clear n0_ n1_ n2_ n3_ n4_ n5_
      (try clear hb)
      (try clear hb2)
      (try clear hk)
      (try clear hi)
      (try clear ho0)
      obtain⟨Ao41,co41,eo41⟩:=Kd.N_slice HO408.out
      (first|subst eo41|(injection eo41 with f1_ f2_ f3_;have f4_:=f1_.symm;have f5_:=f3_.symm;clear f1_ f2_ f3_;subst f4_;subst f5_))
      refine hK.out _ _ ⟨bc_ BK395 0,bc_ BK395 1,bc_ BK395 2⟩ (fun hHeld=>?_)
      clear hK K
      refine nm_ 56 ?_
      refine one_ (i:=4) (N:=some 57) #[true,true,true,true,true,false,false,false] rfl rfl (one_of HT_.out (by kernel_rfl)) (by decide) (fun K hK=>?_)
      refine value_ (w1:=?_) (v:=?_) (by rfl) rfl ?_ ?_
      rotate_left 2
      ·go_simp
       constructor
       ·rfl
       ·rfl
      refine hK.out _ _ ⟨(blk_cell (blk_alloc BK395.out _) 0).trans rfl,(blk_cell (blk_alloc BK395.out _) 1).trans rfl,(blk_cell (blk_alloc BK395.out _) 2).trans rfl⟩ (fun hHeld=>?_)
      clear hK K
      refine nm_ 57 ?_
      refine one_ (i:=5) (N:=some 58) #[true,true,true,true,true,true,false,false] rfl rfl (one_of HT_.out (by kernel_rfl)) (by decide) (fun K hK=>?_)
      refine Kd.N_append_step (Kd.slice 36 k36) w.heap.size (by rfl) (.tmp 54) (.tmp 57) 30 33 (.slice none 0 0) 24 rfl Tryd.underlying30 info33 rfl (by decide) (by omega) (.slice none 0 0) ([]:List (List (S36))) t406 [.slice Ao41 t406.length co41] (fun k_=>(w.heap.size≤k_)∧k_≠gb373∧k_≠gb395∧k_≠g) (fun k_=>((fun k_=>(w.heap.size≤k_)∧k_≠gb373∧k_≠gb395∧k_≠g)) k_∧some k_≠(.slice none 0 0:Value).ownBlock) rfl rfl ?aP (fun _ hk=>hk) ?aF ?aO (Below.refl _ _) ?aS ?aL ?_
      (case aP=>exact(Kd.FK_slice_mk (Kd.N_reads' (Kd.N_mono (ok':=(fun k_=>((fun k_=>(w.heap.size≤k_)∧k_≠gb373∧k_≠gb395∧k_≠g)) k_∧some k_≠(.slice none 0 0:Value).ownBlock)) (HO408.out) (fun k_ hk=>⟨⟨hk.1,⟨hk.2.1,⟨hk.2.2.1,hk.2.2.2⟩⟩⟩,(by simp[Value.ownBlock])⟩))).2.1 (Kd.N_F (Kd.N_mono (ok':=(fun k_=>((fun k_=>(w.heap.size≤k_)∧k_≠gb373∧k_≠gb395∧k_≠g)) k_∧some k_≠(.slice none 0 0:Value).ownBlock)) (HO408.out) (fun k_ hk=>⟨⟨hk.1,⟨hk.2.1,⟨hk.2.2.1,hk.2.2.2⟩⟩⟩,(by simp[Value.ownBlock])⟩)))))
      (case aF=>exact(fun k_ hk=>⟨(Nat.le_trans (keep_size (w:=w) (g:=g) (row:=none) (kp_ HK)) hk),Kd.freshB (bk_ BK373).out k_ hk,Kd.freshB (bk_ BK395).out k_ hk,IsS56.fresh (is56_ HI0) k_ hk⟩))
      (case aO=>exact((Kd.N_nil _ _ _ _ (fun k_=>(w.heap.size≤k_)∧k_≠gb373∧k_≠gb395∧k_≠g))))
      (case aS=>exact(keep_size (w:=w) (g:=g) (row:=none) (kp_ HK)))
      (case aL=>have:=LMc32.out;omega)
      intro v419 w40 ho hb hg hat
      rw[← Ny418.out] at ho
      have n0_:=Aside0.mk (blk_grown (bk_ BK373).out hg (by simp[Value.ownBlock]))
      have n1_:=Aside0.mk (IsS56.grown (is56_ HI0) hg (by simp[Value.ownBlock]))
      have n2_:=Aside0.mk (blk_grown (bk_ BK395).out hg (by simp[Value.ownBlock]))
      have n3_:=Aside0.mk (below_weaken (bs56_ HB HI0) HL.out hb)
      have n4_:=Aside0.mk (KeepBut.trans (kp_ HK) (KeepBut.of_grown hg g) (.inl (by simp[Value.ownBlock])))
      have n5_:=Aside0.mk (ho)
      clear BK373
      clear HI0
      clear BK395
      clear HB
      clear HK
      clear HO408
      have BK373:=n0_
      have HI0:=n1_
      have BK395:=n2_
      have HB:=n3_
      have HK:=n4_
      have HO420:=n5_
      clear n0_ n1_ n2_ n3_ n4_ n5_
      clear ho hb hg hat
      obtain⟨Ao42,co42,eo42⟩:=Kd.N_slice HO420.out
      (first|subst eo42|(injection eo42 with f1_ f2_ f3_;have f4_:=f1_.symm;have f5_:=f3_.symm;clear f1_ f2_ f3_;subst f4_;subst f5_))
      refine hK.out _ _ ⟨bc_ BK395 0,bc_ BK395 1,bc_ BK395 2⟩ (fun hHeld=>?_)
      clear hK K
      refine nm_ 58 ?_
      refine pu_ 6 59 #[true,true,true,true,true,true,true,false] HT_ ?_
      refine last_ (i:=7) (N:=none) #[true,true,true,true,true,true,true,true] rfl rfl (one_of HT_.out (by kernel_rfl)) (by decide) (fun K hK=>?_)
      have hs43:w40.cell? ⟨gb395,1,none⟩=some (.slice none 0 0):=bc_ BK395 1
      have hfs43:=blk_frozen BK395.out 1
      have hns43_0:=NB373_395.out
      have hms43_0:=NB395_373.out
      refine skip_ (w1:=?_) (by rfl) rfl ?_ ?_
      rotate_left
      ·go_simp
       rfl
      refine hK.out _ _ ?_
      clear hK K
      refine done_ (done_of HT_.out (by kernel_rfl)) ?_
      try go_wp2
      go_loopg [] kj8 (fun kq w'=>∃(x1000_2:ByteArray) (x1001_2:Int) (x1002_2:Int) (x1003_2:Bool) (x1004_2:Bool) (x1005_2:Bool) (x1006_2:Bool) (x1007_2:Bool) (x1008_2:Bool) (x396001_2:List (List (S36))) (u396001:Value),Aside0 (rule_reader_rule.l0 kq x1000_2 x1001_2 x1002_2 x1003_2 x1004_2 x1005_2 x1006_2 x1007_2 x1008_2 t384 x396001_2 (⟨#[]⟩:ByteArray)=some (r1,r2,r3,r4,r5,r6,r7,r8,r9,r10,r11,r12))∧Aside0 (kq≤kj8)∧Aside0 (Kd.N (Kd.slice 36 k36) 33 w' w.heap.size (fun k_=>(w.heap.size≤k_)∧k_≠gb373∧k_≠gb395∧k_≠g) u396001 x396001_2)∧Aside0 (w'.heap[gb373]? = some (.cells #[.int .i64 0,(.slice none 0 0),.string (⟨#[]⟩:ByteArray)] 32 (0,0)))∧Aside0 (w'.heap[gb395]? = some (.cells #[.int .i64 t384,u396001,.string (⟨#[]⟩:ByteArray)] 32 (0,0)))∧Aside0 (IsS56 w0 w' g x1000_2 x1001_2 x1002_2 x1003_2 x1004_2 x1005_2 x1006_2 x1007_2 x1008_2)∧Aside0 (KeepBut w w' g none)∧Aside0 (Below w0.heap.size w0 w'))
      case atStart=>exact⟨(t409),(t410),(t411),(t412),(t413),(t414),(t415),(t416),(t417),(y418),(.slice Ao42 y418.length co42),H',⟨Nat.le_refl _⟩,⟨kdN_ (Kd.N_mono (Kd.N_far (Kd.N_mono HO420.out (fun k_ hk=>(⟨hk,hk.2.2.1⟩:_∧k_≠gb395))) (fun _ hk=>hk.2) _) (fun _ hk=>⟨hk.1.1,⟨hk.1.2.1,⟨hk.1.2.2.1,hk.1.2.2.2⟩⟩⟩))⟩,⟨(bf_ BK373).out⟩,⟨(bp_ BK395).out⟩,⟨is56_ HI0⟩,⟨kp_ HK⟩,⟨bs56_ HB HI0⟩⟩
      case round =>
       clear H'
       obtain⟨x1000_2,x1001_2,x1002_2,x1003_2,x1004_2,x1005_2,x1006_2,x1007_2,x1008_2,x396001_2,u396001,HA,HK2,HO_396001,BK373,BK395,HI0,HK,HB⟩:=hrel
       cases gk with
       | zero=>exact absurd HA.out (by simp[rule_reader_rule.l0])
       | succ k2 =>
        have H:=HA.out
        clear HA
        simp only[rule_reader_rule.l0] at H
        replace H:=Option.bind_eq_some_iff.mp H
        obtain⟨⟨t421,t422,t423,t424,t425,t426,t427,t428,t429,t430⟩,A440,H⟩:=H
        dsimp only at H
        have A44:=Aside0.mk A440
        clear A440
        by_cases c45:t421=true
        ·subst c45
         have H1:((rule_reader_all.f k2 t422 t423 t424 t425 t426 t427 t428 t429 t430).bind fun bt431=>(if x396001_2.length<5864062014805 then (rule_reader_rule.l0 k2 bt431.2.1 bt431.2.2.1 bt431.2.2.2.1 bt431.2.2.2.2.1 bt431.2.2.2.2.2.1 bt431.2.2.2.2.2.2.1 bt431.2.2.2.2.2.2.2.1 bt431.2.2.2.2.2.2.2.2.1 bt431.2.2.2.2.2.2.2.2.2 t384 (x396001_2++[bt431.1]) (⟨#[]⟩:ByteArray)) else (none)))=some (r1,r2,r3,r4,r5,r6,r7,r8,r9,r10,r11,r12):=by rw[if_pos rfl] at H;exact H
         clear H
         have H:=H1
         clear H1
         replace H:=Option.bind_eq_some_iff.mp H
         obtain⟨⟨t431,t434,t435,t436,t437,t438,t439,t440,t441,t442⟩,A460,H⟩:=H
         dsimp only at H
         have A46:=Aside0.mk A460
         clear A460
         replace H:=ifn_ H
         obtain⟨c47,H⟩:=H
         have LMc47:=Aside0.mk c47
         clear c47
         obtain⟨y443,hy443⟩:∃y_:List (List (S36)),y_=(x396001_2++[t431]):=⟨_,rfl⟩
         replace H:(rule_reader_rule.l0 k2 t434 t435 t436 t437 t438 t439 t440 t441 t442 t384 y443 (⟨#[]⟩:ByteArray))=some (r1,r2,r3,r4,r5,r6,r7,r8,r9,r10,r11,r12):=by first|(rw[hy443];with_reducible exact H)|(have H2_:=(Option.bind_some _ _).symm.trans H;rw[hy443];with_reducible exact H2_)|(have H2_:=(Option.bind_some _ _).symm.trans H;with_reducible exact H2_)|with_reducible exact H|(rw[hy443];exact H)|exact H
         have Ny443:=Aside0.mk hy443
         clear hy443
         have H':=Aside0.mk H
         clear H
         try go_wp2_with (first|((with_reducible refine gate_callee (f:=30) rfl ?_);refine gl_ (some 61) Tryd.func30 #[.pointer (some ⟨g,0,none⟩),.string (⟨#[111,114]⟩:ByteArray)] ?_;(with_reducible refine(rule_reader_next.calls _ _ _ _ _ _ _ _ _ _ _ _ _ _ _ _ _ _ _ _ _ _ w0 _ ?side1 ?side2 A44.out).mono ?_);(case side1=>exact is56_ HI0);(case side2=>exact bs56_ HB HI0);rintro e w48 ⟨rfl,hi,hb,hk⟩;refine⟨_,rfl,?_⟩;have n0_:=Aside0.mk (Kd.N_mono (Kd.N_keep (Kd.N_mono (ok:=fun k_=>(((w.heap.size≤k_))∧(k_≠gb373∧(k_≠gb395∧k_≠g)))) (krN_ HO_396001) (fun k_ hk_=>(⟨hk_,hk_.2.2.2⟩:_∧k_≠g))) hk (fun _ h=>h.2)) (fun _ h=>h.1));have n1_:=Aside0.mk (KeepBut.blk hk (bk_ BK373).out NB373_0.out (by simp));have n2_:=Aside0.mk (KeepBut.blk hk (bk_ BK395).out NB395_0.out (by simp));have n3_:=Aside0.mk (KeepBut.trans (kp_ HK) hk (.inl rfl));have n4_:=Aside0.mk (hb);have n5_:=Aside0.mk (hi);clear HO_396001;clear BK373;clear BK395;clear HK;clear HB;clear HI0;have HO_396001:=n0_;have BK373:=n1_;have BK395:=n2_;have HK:=n3_;have HB:=n4_;have HI0:=n5_;clear n0_ n1_ n2_ n3_ n4_ n5_;(try clear hb);(try clear hk);(try clear hi)))
         replace HO_396001:=Aside0.mk (Kd.N_drew HO_396001.out)
         replace BK373:=Aside0.mk (blk_drew BK373.out)
         replace BK395:=Aside0.mk (blk_drew BK395.out)
         replace HI0:=Aside0.mk (IsS56.drew HI0.out)
         replace HK:=Aside0.mk (keep_drew HK.out)
         replace HB:=Aside0.mk (below_drew1 HB.out)
         refine start_ (n:=8) (S:=fun w'=>w'.cell? ⟨gb395,0,none⟩=some (.int .i64 t384)∧w'.cell? ⟨gb395,1,none⟩=some (u396001)∧w'.cell? ⟨gb395,2,none⟩=some (.string (⟨#[]⟩:ByteArray))) (ds:=[7]) #[false,false,false,false,false,false,false,false] (by kernel_rfl) rfl rfl ⟨bc_ BK395 0,bc_ BK395 1,bc_ BK395 2⟩ (fun hHeld=>?_);refine with_tabW rule_reader_rule.tab15 rule_reader_rule.bits15 (fun HT_ HW_=>?_)
         generalize w48.drew=w49 at HO_396001 BK373 BK395 HI0 HK HB hHeld ⊢
         refine pu_ 0 62 #[true,false,false,false,false,false,false,false] HT_ ?_
         refine pu_ 2 64 #[true,false,true,false,false,false,false,false] HT_ ?_
         refine tk_ 1 63 #[true,true,true,false,false,false,false,false] HT_ HW_ hHeld rfl (by rintro w' ⟨s0,s1,s2⟩;go_simp;with_reducible rfl) ?_
         refine one_ (i:=3) (N:=some 65) #[true,true,true,true,false,false,false,false] rfl rfl (one_of HT_.out (by kernel_rfl)) (by decide) (fun K hK=>?_)
         refine gs_ Tryd.func29 #[.pointer (some ⟨g,0,none⟩)] ?_
         with_reducible refine(rule_reader_all.calls _ _ _ _ _ _ _ _ _ _ _ _ _ _ _ _ _ _ _ _ _ w0 _ ?side1 ?side2 A46.out).mono ?_
         (case side1=>exact is56_ HI0)
         (case side2=>exact bs56_ HB HI0)
         rintro e w50 ⟨v432,rfl,ho0,hi,hb,hk⟩
         refine⟨_,rfl,?_⟩
         have n0_:=Aside0.mk (Kd.N_mono (Kd.N_told (Kd.N_oldK (Kd.N_mono (ok:=fun k_=>(((w.heap.size≤k_))∧(k_≠gb373∧(k_≠gb395∧k_≠g)))) (krN_ HO_396001) (fun k_ hk_=>(⟨hk_,hk_.2.2.2⟩:_∧k_≠g))) hk) (Kd.N_base ho0)) (fun _ h_=>h_.1))
         have n1_:=Aside0.mk (KeepBut.blk hk (bk_ BK373).out NB373_0.out (by simp))
         have n2_:=Aside0.mk (KeepBut.blk hk (bk_ BK395).out NB395_0.out (by simp))
         have n3_:=Aside0.mk (Kd.N_lower (Kd.N_mono (ok':=fun k_=>(w.heap.size≤k_)∧some k_≠(u396001:Value).ownBlock∧k_≠gb373∧k_≠gb395∧k_≠g) ho0 (fun k_ hk_=>⟨(Nat.le_trans (keep_size (w:=w) (g:=g) (row:=none) (kp_ HK)) hk_),(Kd.fresh' (Kd.N_lt (krN_ HO_396001)) k_ hk_),(Kd.freshB (bk_ BK373).out k_ hk_),(Kd.freshB (bk_ BK395).out k_ hk_),(IsS56.fresh (is56_ HI0) k_ hk_)⟩)) (keep_size (w:=w) (g:=g) (row:=none) (kp_ HK)))
         have n4_:=Aside0.mk (KeepBut.trans (kp_ HK) hk (.inl rfl))
         have n5_:=Aside0.mk (hb)
         have n6_:=Aside0.mk (hi)
         clear HO_396001
         clear BK373
         clear BK395
         clear HK
         clear HB
         clear HI0
         have HO_396001:=n0_
         have BK373:=n1_
         have BK395:=n2_
         have HO433:=n3_
         have HK:=n4_
         have HB:=n5_
         have HI0:=n6_
         clear n0_ n1_ n2_ n3_ n4_ n5_ n6_
         (try clear hb)
         (try clear hb2)
         (try clear hk)
         (try clear hi)
         (try clear ho0)
         obtain⟨Ao52,co52,eo52⟩:=Kd.N_slice HO433.out
         (first|subst eo52|(injection eo52 with f1_ f2_ f3_;have f4_:=f1_.symm;have f5_:=f3_.symm;clear f1_ f2_ f3_;subst f4_;subst f5_))
         refine hK.out _ _ ⟨bc_ BK395 0,bc_ BK395 1,bc_ BK395 2⟩ (fun hHeld=>?_)
         clear hK K
         refine nm_ 65 ?_
         refine one_ (i:=4) (N:=some 66) #[true,true,true,true,true,false,false,false] rfl rfl (one_of HT_.out (by kernel_rfl)) (by decide) (fun K hK=>?_)
         refine value_ (w1:=?_) (v:=?_) (by rfl) rfl ?_ ?_
         rotate_left 2
         ·go_simp
          constructor
          ·rfl
          ·rfl
         refine hK.out _ _ ⟨(blk_cell (blk_alloc BK395.out _) 0).trans rfl,(blk_cell (blk_alloc BK395.out _) 1).trans rfl,(blk_cell (blk_alloc BK395.out _) 2).trans rfl⟩ (fun hHeld=>?_)
         clear hK K
         refine nm_ 66 ?_
         refine one_ (i:=5) (N:=some 67) #[true,true,true,true,true,true,false,false] rfl rfl (one_of HT_.out (by kernel_rfl)) (by decide) (fun K hK=>?_)
         refine Kd.N_append_step (Kd.slice 36 k36) w.heap.size (by rfl) (.tmp 63) (.tmp 66) 30 33 (.slice none 0 0) 24 rfl Tryd.underlying30 info33 rfl (by decide) (by omega) u396001 x396001_2 t431 [.slice Ao52 t431.length co52] (fun k_=>(w.heap.size≤k_)∧k_≠gb373∧k_≠gb395∧k_≠g) (fun k_=>((fun k_=>(w.heap.size≤k_)∧k_≠gb373∧k_≠gb395∧k_≠g)) k_∧some k_≠(u396001:Value).ownBlock) rfl rfl ?aP (fun _ hk=>hk) ?aF ?aO (Below.refl _ _) ?aS ?aL ?_
         (case aP=>exact(Kd.FK_slice_mk (Kd.N_reads' (Kd.N_mono (ok':=(fun k_=>((fun k_=>(w.heap.size≤k_)∧k_≠gb373∧k_≠gb395∧k_≠g)) k_∧some k_≠(u396001:Value).ownBlock)) (HO433.out) (fun k_ hk=>⟨⟨hk.1,⟨hk.2.2.1,⟨hk.2.2.2.1,hk.2.2.2.2⟩⟩⟩,hk.2.1⟩))).2.1 (Kd.N_F (Kd.N_mono (ok':=(fun k_=>((fun k_=>(w.heap.size≤k_)∧k_≠gb373∧k_≠gb395∧k_≠g)) k_∧some k_≠(u396001:Value).ownBlock)) (HO433.out) (fun k_ hk=>⟨⟨hk.1,⟨hk.2.2.1,⟨hk.2.2.2.1,hk.2.2.2.2⟩⟩⟩,hk.2.1⟩)))))
         (case aF=>exact(fun k_ hk=>⟨(Nat.le_trans (keep_size (w:=w) (g:=g) (row:=none) (kp_ HK)) hk),Kd.freshB (bk_ BK373).out k_ hk,Kd.freshB (bk_ BK395).out k_ hk,IsS56.fresh (is56_ HI0) k_ hk⟩))
         (case aO=>exact(kdN_ (Kd.N_mono HO_396001.out (fun _ hk=>⟨hk.1.1,⟨hk.1.2.1,⟨hk.1.2.2.1,hk.1.2.2.2⟩⟩⟩))))
         (case aS=>exact(keep_size (w:=w) (g:=g) (row:=none) (kp_ HK)))
         (case aL=>have:=LMc47.out;omega)
         intro v444 w51 ho hb hg hat
         rw[← Ny443.out] at ho
         have n0_:=Aside0.mk (blk_grown (bk_ BK373).out hg (Kd.N_ne HO_396001.out BK373.out (by decide)))
         have n1_:=Aside0.mk (blk_grown (bk_ BK395).out hg (Kd.N_ne HO_396001.out BK395.out (by decide)))
         have n2_:=Aside0.mk (IsS56.grown (is56_ HI0) hg (IsS56.own_neN HI0.out HO_396001.out (by decide)))
         have n3_:=Aside0.mk (below_weaken (bs56_ HB HI0) HL.out hb)
         have n4_:=Aside0.mk (KeepBut.trans (kp_ HK) (KeepBut.of_grown hg g) (Kd.N_base2 HO_396001.out))
         have n5_:=Aside0.mk (ho)
         clear BK373
         clear BK395
         clear HI0
         clear HB
         clear HK
         clear HO_396001
         clear HO433
         have BK373:=n0_
         have BK395:=n1_
         have HI0:=n2_
         have HB:=n3_
         have HK:=n4_
         have HO445:=n5_
         clear n0_ n1_ n2_ n3_ n4_ n5_
         clear ho hb hg hat
         obtain⟨Ao53,co53,eo53⟩:=Kd.N_slice HO445.out
         (first|subst eo53|(injection eo53 with f1_ f2_ f3_;have f4_:=f1_.symm;have f5_:=f3_.symm;clear f1_ f2_ f3_;subst f4_;subst f5_))
         refine hK.out _ _ ⟨bc_ BK395 0,bc_ BK395 1,bc_ BK395 2⟩ (fun hHeld=>?_)
         clear hK K
         refine nm_ 67 ?_
         refine pu_ 6 68 #[true,true,true,true,true,true,true,false] HT_ ?_
         refine last_ (i:=7) (N:=none) #[true,true,true,true,true,true,true,true] rfl rfl (one_of HT_.out (by kernel_rfl)) (by decide) (fun K hK=>?_)
         have hs54:w51.cell? ⟨gb395,1,none⟩=some (u396001):=bc_ BK395 1
         have hfs54:=blk_frozen BK395.out 1
         have hns54_0:=NB373_395.out
         have hms54_0:=NB395_373.out
         refine skip_ (w1:=?_) (by rfl) rfl ?_ ?_
         rotate_left
         ·go_simp
          rfl
         refine hK.out _ _ ?_
         clear hK K
         refine done_ (done_of HT_.out (by kernel_rfl)) ?_
         try go_wp2
         go_roundg k2
         case measure=>have:=HJ8.out;have:=HK2.out;omega
         case rel=>exact⟨(t434),(t435),(t436),(t437),(t438),(t439),(t440),(t441),(t442),(y443),(.slice Ao53 y443.length co53),H',⟨by have:=HJ8.out;have:=HK2.out;omega⟩,⟨kdN_ (Kd.N_mono (Kd.N_far (Kd.N_mono HO445.out (fun k_ hk=>(⟨hk,hk.2.2.1⟩:_∧k_≠gb395))) (fun _ hk=>hk.2) _) (fun _ hk=>⟨hk.1.1,⟨hk.1.2.1,⟨hk.1.2.2.1,hk.1.2.2.2⟩⟩⟩))⟩,⟨(bf_ BK373).out⟩,⟨(bp_ BK395).out⟩,⟨is56_ HI0⟩,⟨kp_ HK⟩,⟨bs56_ HB HI0⟩⟩
        ·replace c45:=Bool.eq_false_iff.mpr c45
         subst c45
         have H1:((rule_reader_sample.f k2 t422 t423 t424 t425 t426 t427 t428 t429 t430).bind fun bt446=>(some (t384,x396001_2,bt446.1,bt446.2.1,bt446.2.2.1,bt446.2.2.2.1,bt446.2.2.2.2.1,bt446.2.2.2.2.2.1,bt446.2.2.2.2.2.2.1,bt446.2.2.2.2.2.2.2.1,bt446.2.2.2.2.2.2.2.2.1,bt446.2.2.2.2.2.2.2.2.2)))=some (r1,r2,r3,r4,r5,r6,r7,r8,r9,r10,r11,r12):=by rw[if_neg (show ¬(false=true) by decide)] at H;exact H
         clear H
         have H:=H1
         clear H1
         replace H:=Option.bind_eq_some_iff.mp H
         obtain⟨⟨t446,t447,t448,t449,t450,t451,t452,t453,t454,t455⟩,A550,H⟩:=H
         dsimp only at H
         have A55:=Aside0.mk A550
         clear A550
         simp only[Option.some.injEq,Prod.mk.injEq] at H
         obtain⟨rfl,rfl,rfl,rfl,rfl,rfl,rfl,rfl,rfl,rfl,rfl,rfl⟩:=H
         go_wp2_with (first|((with_reducible refine gate_callee (f:=30) rfl ?_);refine gl_ (some 61) Tryd.func30 #[.pointer (some ⟨g,0,none⟩),.string (⟨#[111,114]⟩:ByteArray)] ?_;(with_reducible refine(rule_reader_next.calls _ _ _ _ _ _ _ _ _ _ _ _ _ _ _ _ _ _ _ _ _ _ w0 _ ?side1 ?side2 A44.out).mono ?_);(case side1=>exact is56_ HI0);(case side2=>exact bs56_ HB HI0);rintro e w56 ⟨rfl,hi,hb,hk⟩;refine⟨_,rfl,?_⟩;have n0_:=Aside0.mk (Kd.N_mono (Kd.N_keep (Kd.N_mono (ok:=fun k_=>(((w.heap.size≤k_))∧(k_≠gb373∧(k_≠gb395∧k_≠g)))) (krN_ HO_396001) (fun k_ hk_=>(⟨hk_,hk_.2.2.2⟩:_∧k_≠g))) hk (fun _ h=>h.2)) (fun _ h=>h.1));have n1_:=Aside0.mk (KeepBut.blk hk (bk_ BK373).out NB373_0.out (by simp));have n2_:=Aside0.mk (KeepBut.blk hk (bk_ BK395).out NB395_0.out (by simp));have n3_:=Aside0.mk (KeepBut.trans (kp_ HK) hk (.inl rfl));have n4_:=Aside0.mk (hb);have n5_:=Aside0.mk (hi);clear HO_396001;clear BK373;clear BK395;clear HK;clear HB;clear HI0;have HO_396001:=n0_;have BK373:=n1_;have BK395:=n2_;have HK:=n3_;have HB:=n4_;have HI0:=n5_;clear n0_ n1_ n2_ n3_ n4_ n5_;(try clear hb);(try clear hk);(try clear hi))|((with_reducible refine gate_callee (f:=31) rfl ?_);refine gl_ (some 70) Tryd.func31 #[.pointer (some ⟨g,0,none⟩)] ?_;(with_reducible refine(rule_reader_sample.calls _ _ _ _ _ _ _ _ _ _ _ _ _ _ _ _ _ _ _ _ _ w0 _ ?side1 ?side2 A55.out).mono ?_);(case side1=>exact is56_ HI0);(case side2=>exact bs56_ HB HI0);rintro e w57 ⟨rfl,hi,hb,hk⟩;refine⟨_,rfl,?_⟩;have n0_:=Aside0.mk (Kd.N_mono (Kd.N_keep (Kd.N_mono (ok:=fun k_=>(((w.heap.size≤k_))∧(k_≠gb373∧(k_≠gb395∧k_≠g)))) (krN_ HO_396001) (fun k_ hk_=>(⟨hk_,hk_.2.2.2⟩:_∧k_≠g))) hk (fun _ h=>h.2)) (fun _ h=>h.1));have n1_:=Aside0.mk (KeepBut.blk hk (bk_ BK373).out NB373_0.out (by simp));have n2_:=Aside0.mk (KeepBut.blk hk (bk_ BK395).out NB395_0.out (by simp));have n3_:=Aside0.mk (KeepBut.trans (kp_ HK) hk (.inl rfl));have n4_:=Aside0.mk (hb);have n5_:=Aside0.mk (hi);clear HO_396001;clear BK373;clear BK395;clear HK;clear HB;clear HI0;have HO_396001:=n0_;have BK373:=n1_;have BK395:=n2_;have HK:=n3_;have HB:=n4_;have HI0:=n5_;clear n0_ n1_ n2_ n3_ n4_ n5_;(try clear hb);(try clear hk);(try clear hi);have hnb58:=NB395_373.out;have hnc58:=NB373_395.out;have hnb59:=NB395_0.out;have hnc59:=NB0_395.out;obtain⟨hcz60_0,hcz60_1,hcz60_2,hfz60_0,hfz60_1,hfz60_2⟩:=bo3_ BK395;have hnb61:=NB373_0.out;have hnc61:=NB0_373.out;obtain⟨hcz62_0,hcz62_1,hcz62_2,hfz62_0,hfz62_1,hfz62_2⟩:=bo3_ BK373;obtain⟨Ao63,co63,eo63⟩:=Kd.N_slice HO_396001.out;subst eo63))
         refine bodyPost_ret (results_cell_row rfl _ _ gb373 32 #[.int .i64 t384,.slice Ao63 x396001_2.length co63,.string t446] (0,0) _ rfl ((bp_ BK373).out) Tryd.underlying32 rfl (by kernel_rfl)) rfl ?_
         exact⟨_,by first|rfl|(simp[errW_none,errW_some] <;> rfl)|(simp[*,errW_none,errW_some] <;> first|rfl|exact given_isEmpty _|exact(given_isEmpty _).symm),kdN_ (Kd.N_mono (Kd.N_far (Kd.N_far (Kd.N_far (Kd.N_far (Kd.N_mono (Kd.N_mono HO_396001.out (fun k_ hk=>(⟨hk,hk.2.2.1⟩:_∧k_≠gb395))) (fun k_ hk=>(⟨hk,hk.1.2.1⟩:_∧k_≠gb373))) (fun _ hk=>hk.1.2) (.string t446)) (fun _ hk=>hk.2) _) (fun _ hk=>hk.2) _) (fun _ hk=>hk.2) _) (fun _ hk=>hk.1.1.1)),is56_ HI0,bs56_ HB HI0,kp_ HK⟩
 ·replace c4:=Bool.eq_false_iff.mpr c4
  subst c4
  have H1:(none)=some (r1,r2,r3,r4,r5,r6,r7,r8,r9,r10,r11,r12):=by rw[if_neg (show ¬(false=true) by decide)] at H;exact H
  clear H
  have H:=H1
  clear H1
  exact absurd H (by simp)

/-! ### rule_reader_rules: function 14 -/
mutual
def rule_reader_rules.j2:Nat→List (S32)→ByteArray→Int→Int→Bool→Bool→Bool→Bool→Bool→Bool→Option ((List (S32)) × ByteArray × Int × Int × Bool × Bool × Bool × Bool × Bool × Bool)
 | 0,_,_,_,_,_,_,_,_,_,_=>none
 | k+1,x3,x1000,x1001,x1002,x1003,x1004,x1005,x1006,x1007,x1008=>(rule_reader_peek.f k x1000 x1001 x1002 x1003 x1004 x1005 x1006 x1007 x1008).bind fun bt493=>(if bt493.1=0 then (if bt493.2.2.1<(bt493.2.1.size:Int) then (none) else (some (x3,bt493.2.1,bt493.2.2.1,bt493.2.2.2.1,bt493.2.2.2.2.1,bt493.2.2.2.2.2.1,bt493.2.2.2.2.2.2.1,bt493.2.2.2.2.2.2.2.1,bt493.2.2.2.2.2.2.2.2.1,bt493.2.2.2.2.2.2.2.2.2))) else (none))
def rule_reader_rules.l0:Nat→List (S32)→ByteArray→Int→Int→Bool→Bool→Bool→Bool→Bool→Bool→Option ((List (S32)) × ByteArray × Int × Int × Bool × Bool × Bool × Bool × Bool × Bool)
 | 0,_,_,_,_,_,_,_,_,_,_=>none
 | k+1,x3,x1000,x1001,x1002,x1003,x1004,x1005,x1006,x1007,x1008=>(rule_reader_peek.f k x1000 x1001 x1002 x1003 x1004 x1005 x1006 x1007 x1008).bind fun bt456=>(if bt456.1=0 then (rule_reader_rules.j2 k x3 bt456.2.1 bt456.2.2.1 bt456.2.2.2.1 bt456.2.2.2.2.1 bt456.2.2.2.2.2.1 bt456.2.2.2.2.2.2.1 bt456.2.2.2.2.2.2.2.1 bt456.2.2.2.2.2.2.2.2.1 bt456.2.2.2.2.2.2.2.2.2) else ((rule_reader_rule.f k bt456.2.1 bt456.2.2.1 bt456.2.2.2.1 bt456.2.2.2.2.1 bt456.2.2.2.2.2.1 bt456.2.2.2.2.2.2.1 bt456.2.2.2.2.2.2.2.1 bt456.2.2.2.2.2.2.2.2.1 bt456.2.2.2.2.2.2.2.2.2).bind fun bt466=>(if x3.length<2932031007402 then (rule_reader_rules.j1 k (x3++[(⟨bt466.1,bt466.2.1,bt466.2.2.1⟩:S32)]) bt466.2.2.2.1 bt466.2.2.2.2.1 bt466.2.2.2.2.2.1 bt466.2.2.2.2.2.2.1 bt466.2.2.2.2.2.2.2.1 bt466.2.2.2.2.2.2.2.2.1 bt466.2.2.2.2.2.2.2.2.2.1 bt466.2.2.2.2.2.2.2.2.2.2.1 bt466.2.2.2.2.2.2.2.2.2.2.2) else (none))))
def rule_reader_rules.j1:Nat→List (S32)→ByteArray→Int→Int→Bool→Bool→Bool→Bool→Bool→Bool→Option ((List (S32)) × ByteArray × Int × Int × Bool × Bool × Bool × Bool × Bool × Bool)
 | 0,_,_,_,_,_,_,_,_,_,_=>none
 | k+1,x3,x1000,x1001,x1002,x1003,x1004,x1005,x1006,x1007,x1008=>(rule_reader_take.f k x1000 x1001 x1002 x1003 x1004 x1005 x1006 x1007 x1008 (⟨#[59]⟩:ByteArray)).bind fun bt483=>(if bt483.1=true then (rule_reader_rules.l0 k x3 bt483.2.1 bt483.2.2.1 bt483.2.2.2.1 bt483.2.2.2.2.1 bt483.2.2.2.2.2.1 bt483.2.2.2.2.2.2.1 bt483.2.2.2.2.2.2.2.1 bt483.2.2.2.2.2.2.2.2.1 bt483.2.2.2.2.2.2.2.2.2) else (rule_reader_rules.j2 k x3 bt483.2.1 bt483.2.2.1 bt483.2.2.2.1 bt483.2.2.2.2.1 bt483.2.2.2.2.2.1 bt483.2.2.2.2.2.2.1 bt483.2.2.2.2.2.2.2.1 bt483.2.2.2.2.2.2.2.2.1 bt483.2.2.2.2.2.2.2.2.2))
end
def rule_reader_rules.f (k:Nat) (s0_0:ByteArray) (s0_1:Int) (s0_2:Int) (s0_3:Bool) (s0_4:Bool) (s0_5:Bool) (s0_6:Bool) (s0_7:Bool) (s0_8:Bool):Option ((List (S32)) × ByteArray × Int × Int × Bool × Bool × Bool × Bool × Bool × Bool):=rule_reader_rules.l0 k ([]:List (S32)) s0_0 s0_1 s0_2 s0_3 s0_4 s0_5 s0_6 s0_7 s0_8
def rule_reader_rules.T5:Bool × List (List Nat × List Nat):=(true,[([],[]),([0],[0]),([1],[1]),([2,1],[2]),([3],[3]),([4,3],[3,4]),([5,3],[3,5]),([6,3],[3,6]),([3],[3]),([8,3],[3,8]),([9,3],[3,9]),([10,3],[3,10]),([11,3],[3,11]),([7,12,3],[3,7,12]),([3,13],[3,13])])
def rule_reader_rules.B5:List Nat:=[0,1,3,7,15,31,63,127,15,271,783,1807,3855,8191,16383]
theorem rule_reader_rules.tab5:rtab .any (opsOf Tryd.f14 5)=rule_reader_rules.T5:=by kernel_rfl
theorem rule_reader_rules.bits5:waitsOk rule_reader_rules.T5.2 rule_reader_rules.B5=true:=by kernel_rfl
set_option maxHeartbeats 64000000 in
set_option maxRecDepth 100000 in
theorem rule_reader_rules.calls (k:Nat) (g:Nat) (s0_0:ByteArray) (s0_1:Int) (s0_2:Int) (s0_3:Bool) (s0_4:Bool) (s0_5:Bool) (s0_6:Bool) (s0_7:Bool) (s0_8:Bool) (r1:List (S32)) (r2:ByteArray) (r3:Int) (r4:Int) (r5:Bool) (r6:Bool) (r7:Bool) (r8:Bool) (r9:Bool) (r10:Bool) (w0 w:World) (hI:IsS56 w0 w g s0_0 s0_1 s0_2 s0_3 s0_4 s0_5 s0_6 s0_7 s0_8) (hB:Below w0.heap.size w0 w) (h:rule_reader_rules.f k s0_0 s0_1 s0_2 s0_3 s0_4 s0_5 s0_6 s0_7 s0_8=some (r1,r2,r3,r4,r5,r6,r7,r8,r9,r10)) :
  Calls Tryd.prog 14 #[.pointer (some ⟨g,0,none⟩)] w fun e w'=>∃v0_:Value,e= .returned (v0_)∧Kd.N k32 32 w' w.heap.size (fun k_=>(w.heap.size≤k_)) v0_ r1∧IsS56 w0 w' g r2 r3 r4 r5 r6 r7 r8 r9 r10∧Below w0.heap.size w0 w'∧KeepBut w w' g none:=by
 have HI0:=Aside0.mk hI
 have HK:=Aside0.mk (KeepBut.refl w g none)
 have HL:=Aside0.mk hB.size
 clear hI
 have HW0:=Aside0.mk hB.size
 have HB:=Aside0.mk hB
 clear hB
 have H:(rule_reader_rules.l0 k ([]:List (S32)) s0_0 s0_1 s0_2 s0_3 s0_4 s0_5 s0_6 s0_7 s0_8)=some (r1,r2,r3,r4,r5,r6,r7,r8,r9,r10):=h
 clear h
 have HC2:=Aside0.mk H
 clear H
 go_enter Tryd.func14,Tryd.ntmps14
 go_upto_block 0 with (fail)
 go_cut [3] (fun v3 wc=>∃(kq:Nat) (x3_1:List (S32)) (x1000_1:ByteArray) (x1001_1:Int) (x1002_1:Int) (x1003_1:Bool) (x1004_1:Bool) (x1005_1:Bool) (x1006_1:Bool) (x1007_1:Bool) (x1008_1:Bool),Aside0 (rule_reader_rules.j2 kq x3_1 x1000_1 x1001_1 x1002_1 x1003_1 x1004_1 x1005_1 x1006_1 x1007_1 x1008_1=some (r1,r2,r3,r4,r5,r6,r7,r8,r9,r10))∧Aside0 (kq≤k)∧Aside0 (Kd.N k32 32 wc w.heap.size (fun k_=>(w.heap.size≤k_)∧k_≠g) v3 x3_1)∧Aside0 (IsS56 w0 wc g x1000_1 x1001_1 x1002_1 x1003_1 x1004_1 x1005_1 x1006_1 x1007_1 x1008_1)∧Aside0 (KeepBut w wc g none)∧Aside0 (Below w0.heap.size w0 wc))
 case first =>
  have H:=HC2.out
  clear HC2
  have H':=Aside0.mk H
  clear H
  go_wp2
  go_loopg [3] k (fun kq v3 w'=>∃(x3_1:List (S32)) (x1000_1:ByteArray) (x1001_1:Int) (x1002_1:Int) (x1003_1:Bool) (x1004_1:Bool) (x1005_1:Bool) (x1006_1:Bool) (x1007_1:Bool) (x1008_1:Bool),Aside0 (rule_reader_rules.l0 kq x3_1 x1000_1 x1001_1 x1002_1 x1003_1 x1004_1 x1005_1 x1006_1 x1007_1 x1008_1=some (r1,r2,r3,r4,r5,r6,r7,r8,r9,r10))∧Aside0 (kq≤k)∧Aside0 (Kd.N k32 32 w' w.heap.size (fun k_=>(w.heap.size≤k_)∧k_≠g) v3 x3_1)∧Aside0 (IsS56 w0 w' g x1000_1 x1001_1 x1002_1 x1003_1 x1004_1 x1005_1 x1006_1 x1007_1 x1008_1)∧Aside0 (KeepBut w w' g none)∧Aside0 (Below w0.heap.size w0 w'))
  case atStart=>exact⟨(([]:List (S32))),(s0_0),(s0_1),(s0_2),(s0_3),(s0_4),(s0_5),(s0_6),(s0_7),(s0_8),H',⟨Nat.le_refl _⟩,⟨by first|exact Kd.R_nil _ _ _ _ _|exact Kd.N_nil _ _ _ _ _|exact Kd.V_nil _ _ _ _ _|exact Kd.Q_nil _ _ _ _ _|exact Kd.S_nil _ _ _ _ _⟩,⟨is56_ HI0⟩,⟨kp_ HK⟩,⟨bs56_ HB HI0⟩⟩
  case round =>
   clear H'
   obtain⟨x3_1,x1000_1,x1001_1,x1002_1,x1003_1,x1004_1,x1005_1,x1006_1,x1007_1,x1008_1,HA,HK1,HO_3,HI0,HK,HB⟩:=hrel
   cases gk with
   | zero=>exact absurd HA.out (by simp[rule_reader_rules.l0])
   | succ k1 =>
    have H:=HA.out
    clear HA
    simp only[rule_reader_rules.l0] at H
    replace H:=Option.bind_eq_some_iff.mp H
    obtain⟨⟨t456,t457,t458,t459,t460,t461,t462,t463,t464,t465⟩,A30,H⟩:=H
    dsimp only at H
    have A3:=Aside0.mk A30
    clear A30
    by_cases c4:t456=0
    ·rw[if_pos c4] at H
     have c4b0:(t456==0)=true:=beq_iff_eq.mpr c4
     have c4b1:(t456 !=0)=false:=bne_eq_false_iff_eq.mpr c4
     clear c4
     (first|rw[c4b0]|(simp only[i64_w,i32_w];rw[c4b0])|skip)
     have H':=Aside0.mk H
     clear H
     go_wp2_with (first|((with_reducible refine gate_callee (f:=18) rfl ?_);refine gl_ (some 5) Tryd.func18 #[.pointer (some ⟨g,0,none⟩)] ?_;(with_reducible refine(rule_reader_peek.calls _ _ _ _ _ _ _ _ _ _ _ _ _ _ _ _ _ _ _ _ _ w0 _ ?side1 ?side2 A3.out).mono ?_);(case side1=>exact is56_ HI0);(case side2=>exact bs56_ HB HI0);rintro e w5 ⟨rfl,hi,hb,hk⟩;refine⟨_,rfl,?_⟩;replace HO_3:=Aside0.mk (Kd.N_mono (Kd.N_keep (Kd.N_mono (ok:=fun k_=>(((w.heap.size≤k_))∧k_≠g)) (krN_ HO_3) (fun k_ hk_=>(⟨hk_,hk_.2⟩:_∧k_≠g))) hk (fun _ h=>h.2)) (fun _ h=>h.1));replace HK:=Aside0.mk (KeepBut.trans (kp_ HK) hk (.inl rfl));replace HB:=Aside0.mk (hb);replace HI0:=Aside0.mk (hi);(try clear hb);(try clear hk);(try clear hi)))
     go_meet
     case rel=>exact⟨_,(x3_1),(t457),(t458),(t459),(t460),(t461),(t462),(t463),(t464),(t465),H',⟨by have:=HK1.out;first|omega|exact Nat.le_refl _⟩,⟨kdN_ HO_3.out⟩,⟨is56_ HI0⟩,⟨kp_ HK⟩,⟨bs56_ HB HI0⟩⟩
    ·rw[if_neg c4] at H
     have c4b0:(t456==0)=false:=beq_eq_false_iff_ne.mpr c4
     have c4b1:(t456 !=0)=true:=bne_iff_ne.mpr c4
     (first|rw[c4b0]|(simp only[i64_w,i32_w];rw[c4b0])|skip)
     have HC6:=Aside0.mk H
     clear H
     go_upto_region 3 with (first|((with_reducible refine gate_callee (f:=18) rfl ?_);refine gl_ (some 5) Tryd.func18 #[.pointer (some ⟨g,0,none⟩)] ?_;(with_reducible refine(rule_reader_peek.calls _ _ _ _ _ _ _ _ _ _ _ _ _ _ _ _ _ _ _ _ _ w0 _ ?side1 ?side2 A3.out).mono ?_);(case side1=>exact is56_ HI0);(case side2=>exact bs56_ HB HI0);rintro e w7 ⟨rfl,hi,hb,hk⟩;refine⟨_,rfl,?_⟩;replace HO_3:=Aside0.mk (Kd.N_mono (Kd.N_keep (Kd.N_mono (ok:=fun k_=>(((w.heap.size≤k_))∧k_≠g)) (krN_ HO_3) (fun k_ hk_=>(⟨hk_,hk_.2⟩:_∧k_≠g))) hk (fun _ h=>h.2)) (fun _ h=>h.1));replace HK:=Aside0.mk (KeepBut.trans (kp_ HK) hk (.inl rfl));replace HB:=Aside0.mk (hb);replace HI0:=Aside0.mk (hi);(try clear hb);(try clear hk);(try clear hi)))
     (try simp only[Act.put,List.setIfInBounds_toArray,List.set_cons_zero,List.set_cons_succ])
     go_cut [3] (fun v3 wc=>∃(kq:Nat) (x3_5:List (S32)) (x1000_5:ByteArray) (x1001_5:Int) (x1002_5:Int) (x1003_5:Bool) (x1004_5:Bool) (x1005_5:Bool) (x1006_5:Bool) (x1007_5:Bool) (x1008_5:Bool),Aside0 (rule_reader_rules.j1 kq x3_5 x1000_5 x1001_5 x1002_5 x1003_5 x1004_5 x1005_5 x1006_5 x1007_5 x1008_5=some (r1,r2,r3,r4,r5,r6,r7,r8,r9,r10))∧Aside0 (kq≤k1)∧Aside0 (Kd.N k32 32 wc w.heap.size (fun k_=>(w.heap.size≤k_)∧k_≠g) v3 x3_5)∧Aside0 (IsS56 w0 wc g x1000_5 x1001_5 x1002_5 x1003_5 x1004_5 x1005_5 x1006_5 x1007_5 x1008_5)∧Aside0 (KeepBut w wc g none)∧Aside0 (Below w0.heap.size w0 wc))
     case first =>
      have H:=HC6.out
      clear HC6
      replace H:=Option.bind_eq_some_iff.mp H
      obtain⟨⟨t466,t467,t470,t471,t472,t473,t474,t475,t476,t477,t478,t479⟩,A80,H⟩:=H
      dsimp only at H
      have A8:=Aside0.mk A80
      clear A80
      replace H:=ifn_ H
      obtain⟨c9,H⟩:=H
      have LMc9:=Aside0.mk c9
      clear c9
      obtain⟨y480,hy480⟩:∃y_:List (S32),y_=(x3_1++[(⟨t466,t467,t470⟩:S32)]):=⟨_,rfl⟩
      replace H:(rule_reader_rules.j1 k1 y480 t471 t472 t473 t474 t475 t476 t477 t478 t479)=some (r1,r2,r3,r4,r5,r6,r7,r8,r9,r10):=by first|(rw[hy480];with_reducible exact H)|(have H2_:=(Option.bind_some _ _).symm.trans H;rw[hy480];with_reducible exact H2_)|(have H2_:=(Option.bind_some _ _).symm.trans H;with_reducible exact H2_)|with_reducible exact H|(rw[hy480];exact H)|exact H
      have Ny480:=Aside0.mk hy480
      clear hy480
      have H':=Aside0.mk H
      clear H
      go_wp2_with (first|((with_reducible refine gate_callee (f:=19) rfl ?_);refine gl_ (some 9) Tryd.func19 #[.pointer (some ⟨g,0,none⟩)] ?_;(with_reducible refine(rule_reader_rule.calls _ _ _ _ _ _ _ _ _ _ _ _ _ _ _ _ _ _ _ _ _ _ _ w0 _ ?side1 ?side2 A8.out).mono ?_);(case side1=>exact is56_ HI0);(case side2=>exact bs56_ HB HI0);rintro e w10 ⟨v468,rfl,ho0,hi,hb,hk⟩;refine⟨_,rfl,?_⟩;have HO469:=Aside0.mk (Kd.N_lower (Kd.N_mono (ok':=fun k_=>(w.heap.size≤k_)∧some k_≠(u3:Value).ownBlock∧k_≠g) ho0 (fun k_ hk_=>⟨(Nat.le_trans (keep_size (w:=w) (g:=g) (row:=none) (kp_ HK)) hk_),(Kd.fresh' (Kd.N_lt (krN_ HO_3)) k_ hk_),(IsS56.fresh (is56_ HI0) k_ hk_)⟩)) (keep_size (w:=w) (g:=g) (row:=none) (kp_ HK)));replace HO_3:=Aside0.mk (Kd.N_mono (Kd.N_told (Kd.N_oldK (Kd.N_mono (ok:=fun k_=>(((w.heap.size≤k_))∧k_≠g)) (krN_ HO_3) (fun k_ hk_=>(⟨hk_,hk_.2⟩:_∧k_≠g))) hk) (Kd.N_base ho0)) (fun _ h_=>h_.1));replace HK:=Aside0.mk (KeepBut.trans (kp_ HK) hk (.inl rfl));replace HB:=Aside0.mk (hb);replace HI0:=Aside0.mk (hi);(try clear hb);(try clear hk);(try clear hi);(try clear ho0);obtain⟨Ao12,co12,eo12⟩:=Kd.N_slice HO469.out;subst eo12)|((with_reducible refine gate_builtin (b:= .append) (xs:= #[.tmp 7,.tmp 10]) rfl ?_);(try (refine gate_guard (by rfl) ?_;dsimp only));at_builtin;refine Kd.N_append k32 w.heap.size rfl (.tmp 7) (.tmp 10) 24 32 (.agg #[(.int .i64 0),(.slice none 0 0),(.string ⟨#[]⟩)]) 48 rfl Tryd.underlying24 info32 rfl (by decide) (by omega) u3 x3_1 (⟨t466,t467,t470⟩:S32) [.int .i64 t466,.slice Ao12 t467.length co12,.string t470] (fun k_=>(w.heap.size≤k_)∧k_≠g) (fun k_=>((fun k_=>(w.heap.size≤k_)∧k_≠g)) k_∧some k_≠(u3:Value).ownBlock) rfl rfl ?aP (fun _ hk=>hk) ?aF ?aO (Below.refl _ _) ?aS ?aL ?_;(case aP=>exact(k32_mkF _ _ (⟨t466,t467,t470⟩:S32) (Kd.N_reads' (Kd.N_mono (ok':=(fun k_=>((fun k_=>(w.heap.size≤k_)∧k_≠g)) k_∧some k_≠(u3:Value).ownBlock)) (HO469.out) (fun k_ hk=>⟨⟨hk.1,hk.2.2⟩,hk.2.1⟩))).2.1 (Kd.N_F (Kd.N_mono (ok':=(fun k_=>((fun k_=>(w.heap.size≤k_)∧k_≠g)) k_∧some k_≠(u3:Value).ownBlock)) (HO469.out) (fun k_ hk=>⟨⟨hk.1,hk.2.2⟩,hk.2.1⟩)))));(case aF=>exact(fun k_ hk=>⟨(Nat.le_trans (keep_size (w:=w) (g:=g) (row:=none) (kp_ HK)) hk),IsS56.fresh (is56_ HI0) k_ hk⟩));(case aO=>exact(kdN_ (Kd.N_mono HO_3.out (fun _ hk=>⟨hk.1.1,hk.1.2⟩))));(case aS=>exact(keep_size (w:=w) (g:=g) (row:=none) (kp_ HK)));(case aL=>have:=LMc9.out;omega);intro v481 w11 ho hb hg hat;rw[← Ny480.out] at ho;have n0_:=Aside0.mk (IsS56.grown (is56_ HI0) hg (IsS56.own_neN HI0.out HO_3.out (by decide)));have n1_:=Aside0.mk (below_weaken (bs56_ HB HI0) HL.out hb);have n2_:=Aside0.mk (KeepBut.trans (kp_ HK) (KeepBut.of_grown hg g) (Kd.N_base2 HO_3.out));have n3_:=Aside0.mk (ho);clear HI0;clear HB;clear HK;clear HO_3;clear HO469;have HI0:=n0_;have HB:=n1_;have HK:=n2_;have HO482:=n3_;clear n0_ n1_ n2_ n3_;clear ho hb hg hat))
      go_meet
      case rel=>exact⟨_,(y480),(t471),(t472),(t473),(t474),(t475),(t476),(t477),(t478),(t479),H',⟨by have:=HK1.out;first|omega|exact Nat.le_refl _⟩,⟨kdN_ HO482.out⟩,⟨is56_ HI0⟩,⟨kp_ HK⟩,⟨bs56_ HB HI0⟩⟩
     case rest =>
      clear HC6
      obtain⟨kq,x3_5,x1000_5,x1001_5,x1002_5,x1003_5,x1004_5,x1005_5,x1006_5,x1007_5,x1008_5,HA,HJ5,HO_3,HI0,HK,HB⟩:=hcut
      cases kq with
      | zero=>exact absurd HA.out (by simp[rule_reader_rules.j1])
      | succ kj5 =>
       have H:=HA.out
       clear HA
       simp only[rule_reader_rules.j1] at H
       replace H:=Option.bind_eq_some_iff.mp H
       obtain⟨⟨t483,t484,t485,t486,t487,t488,t489,t490,t491,t492⟩,A130,H⟩:=H
       dsimp only at H
       have A13:=Aside0.mk A130
       clear A130
       by_cases c14:t483=true
       ·subst c14
        have H1:(rule_reader_rules.l0 kj5 x3_5 t484 t485 t486 t487 t488 t489 t490 t491 t492)=some (r1,r2,r3,r4,r5,r6,r7,r8,r9,r10):=by rw[if_pos rfl] at H;exact H
        clear H
        have H:=H1
        clear H1
        have H':=Aside0.mk H
        clear H
        go_wp2_with (first|((with_reducible refine gate_callee (f:=20) rfl ?_);refine gl_ (some 13) Tryd.func20 #[.pointer (some ⟨g,0,none⟩),.string (⟨#[59]⟩:ByteArray)] ?_;(with_reducible refine(rule_reader_take.calls _ _ _ _ _ _ _ _ _ _ _ _ _ _ _ _ _ _ _ _ _ _ w0 _ ?side1 ?side2 A13.out).mono ?_);(case side1=>exact is56_ HI0);(case side2=>exact bs56_ HB HI0);rintro e w15 ⟨rfl,hi,hb,hk⟩;refine⟨_,rfl,?_⟩;replace HO_3:=Aside0.mk (Kd.N_mono (Kd.N_keep (Kd.N_mono (ok:=fun k_=>(((w.heap.size≤k_))∧k_≠g)) (krN_ HO_3) (fun k_ hk_=>(⟨hk_,hk_.2⟩:_∧k_≠g))) hk (fun _ h=>h.2)) (fun _ h=>h.1));replace HK:=Aside0.mk (KeepBut.trans (kp_ HK) hk (.inl rfl));replace HB:=Aside0.mk (hb);replace HI0:=Aside0.mk (hi);(try clear hb);(try clear hk);(try clear hi)))
        go_roundg kj5
        case measure=>have:=HK1.out;have:=HJ5.out;omega
        case rel=>exact⟨(x3_5),(t484),(t485),(t486),(t487),(t488),(t489),(t490),(t491),(t492),H',⟨by have:=HK1.out;have:=HJ5.out;omega⟩,⟨kdN_ HO_3.out⟩,⟨is56_ HI0⟩,⟨kp_ HK⟩,⟨bs56_ HB HI0⟩⟩
       ·replace c14:=Bool.eq_false_iff.mpr c14
        subst c14
        have H1:(rule_reader_rules.j2 kj5 x3_5 t484 t485 t486 t487 t488 t489 t490 t491 t492)=some (r1,r2,r3,r4,r5,r6,r7,r8,r9,r10):=by rw[if_neg (show ¬(false=true) by decide)] at H;exact H
        clear H
        have H:=H1
        clear H1
        have H':=Aside0.mk H
        clear H
        go_wp2_with (first|((with_reducible refine gate_callee (f:=20) rfl ?_);refine gl_ (some 13) Tryd.func20 #[.pointer (some ⟨g,0,none⟩),.string (⟨#[59]⟩:ByteArray)] ?_;(with_reducible refine(rule_reader_take.calls _ _ _ _ _ _ _ _ _ _ _ _ _ _ _ _ _ _ _ _ _ _ w0 _ ?side1 ?side2 A13.out).mono ?_);(case side1=>exact is56_ HI0);(case side2=>exact bs56_ HB HI0);rintro e w16 ⟨rfl,hi,hb,hk⟩;refine⟨_,rfl,?_⟩;replace HO_3:=Aside0.mk (Kd.N_mono (Kd.N_keep (Kd.N_mono (ok:=fun k_=>(((w.heap.size≤k_))∧k_≠g)) (krN_ HO_3) (fun k_ hk_=>(⟨hk_,hk_.2⟩:_∧k_≠g))) hk (fun _ h=>h.2)) (fun _ h=>h.1));replace HK:=Aside0.mk (KeepBut.trans (kp_ HK) hk (.inl rfl));replace HB:=Aside0.mk (hb);replace HI0:=Aside0.mk (hi);(try clear hb);(try clear hk);(try clear hi)))
        go_meet
        case rel=>exact⟨_,(x3_5),(t484),(t485),(t486),(t487),(t488),(t489),(t490),(t491),(t492),H',⟨by have:=HK1.out;have:=HJ5.out;first|omega|exact Nat.le_refl _⟩,⟨kdN_ HO_3.out⟩,⟨is56_ HI0⟩,⟨kp_ HK⟩,⟨bs56_ HB HI0⟩⟩
 case rest =>
  clear HC2
  obtain⟨kq,x3_1,x1000_1,x1001_1,x1002_1,x1003_1,x1004_1,x1005_1,x1006_1,x1007_1,x1008_1,HA,HJ1,HO_3,HI0,HK,HB⟩:=hcut
  cases kq with
  | zero=>exact absurd HA.out (by simp[rule_reader_rules.j2])
  | succ kj1 =>
   have H:=HA.out
   clear HA
   simp only[rule_reader_rules.j2] at H
   replace H:=Option.bind_eq_some_iff.mp H
   obtain⟨⟨t493,t494,t495,t496,t497,t498,t499,t500,t501,t502⟩,A170,H⟩:=H
   dsimp only at H
   have A17:=Aside0.mk A170
   clear A170
   by_cases c18:t493=0
   ·rw[if_pos c18] at H
    have c18b0:(t493==0)=true:=beq_iff_eq.mpr c18
    have c18b1:(t493 !=0)=false:=bne_eq_false_iff_eq.mpr c18
    clear c18
    by_cases c19:t495<(t494.size:Int)
    ·rw[if_pos c19] at H
     have c19b0:=decide_eq_true c19
     clear c19
     exact absurd H (by simp)
    ·rw[if_neg c19] at H
     have c19b0:=decide_eq_false c19
     clear c19
     simp only[Option.some.injEq,Prod.mk.injEq] at H
     obtain⟨rfl,rfl,rfl,rfl,rfl,rfl,rfl,rfl,rfl,rfl⟩:=H
     try go_wp2
     replace HO_3:=Aside0.mk (Kd.N_drew HO_3.out)
     replace HI0:=Aside0.mk (IsS56.drew HI0.out)
     replace HK:=Aside0.mk (keep_drew HK.out)
     replace HB:=Aside0.mk (below_drew1 HB.out)
     refine start_ (n:=15) (S:=fun w'=>True) (ds:=[]) #[false,false,false,false,false,false,false,false,false,false,false,false,false,false,false] (by kernel_rfl) rfl rfl trivial (fun hHeld=>?_);refine with_tabW rule_reader_rules.tab5 rule_reader_rules.bits5 (fun HT_ HW_=>?_)
     generalize wc.drew=w20 at HO_3 HI0 HK HB hHeld ⊢
     refine pu_ 0 15 (bm_ 15 1) HT_ ?_
     refine one_ (i:=1) (N:=some 16) (bm_ 15 3) rfl rfl (one_of HT_.out (by kernel_rfl)) (by decide) (fun K hK=>?_)
     refine gs_ Tryd.func18 #[.pointer (some ⟨g,0,none⟩)] ?_
     with_reducible refine(rule_reader_peek.calls _ _ _ _ _ _ _ _ _ _ _ _ _ _ _ _ _ _ _ _ _ w0 _ ?side1 ?side2 A17.out).mono ?_
     (case side1=>exact is56_ HI0)
     (case side2=>exact bs56_ HB HI0)
     rintro e w21 ⟨rfl,hi,hb,hk⟩
     refine⟨_,rfl,?_⟩
     replace HO_3:=Aside0.mk (Kd.N_mono (Kd.N_keep (Kd.N_mono (ok:=fun k_=>(((w.heap.size≤k_))∧k_≠g)) (krN_ HO_3) (fun k_ hk_=>(⟨hk_,hk_.2⟩:_∧k_≠g))) hk (fun _ h=>h.2)) (fun _ h=>h.1))
     replace HK:=Aside0.mk (KeepBut.trans (kp_ HK) hk (.inl rfl))
     replace HB:=Aside0.mk (hb)
     replace HI0:=Aside0.mk (hi)
     (try clear hb)
     (try clear hb2)
     (try clear hk)
     (try clear hi)
     refine hK.out _ _ trivial (fun hHeld=>?_)
     clear hK K
     refine nm_ 16 ?_
     clear hHeld
     refine restart0_ (S':=fun w'=>w'.cell? ⟨g,0,none⟩=some (.string t494)∧w'.cell? ⟨g,1,none⟩=some (.int .i64 t495)∧w'.cell? ⟨g,2,none⟩=some (.int .i64 t496)∧w'.cell? ⟨g,3,none⟩=some (.bool t497)∧w'.cell? ⟨g,4,none⟩=some (.bool t498)∧w'.cell? ⟨g,5,none⟩=some (.bool t499)∧w'.cell? ⟨g,6,none⟩=some (.bool t500)∧w'.cell? ⟨g,7,none⟩=some (.bool t501)∧w'.cell? ⟨g,8,none⟩=some (.bool t502)) [] ⟨(cellS56_0 HI0.out.1),(cellS56_1 HI0.out.1),(cellS56_2 HI0.out.1),(cellS56_3 HI0.out.1),(cellS56_4 HI0.out.1),(cellS56_5 HI0.out.1),(cellS56_6 HI0.out.1),(cellS56_7 HI0.out.1),(cellS56_8 HI0.out.1)⟩ (fun hHeld=>?_)
     refine pu_ 2 17 (bm_ 15 7) HT_ ?_
     refine pu_ 3 18 (bm_ 15 15) HT_ ?_
     refine pu_ 4 19 (bm_ 15 31) HT_ ?_
     refine pu_ 5 20 (bm_ 15 63) HT_ ?_
     refine pu_ 6 21 (bm_ 15 127) HT_ ?_
     refine pu_ 8 23 (bm_ 15 383) HT_ ?_
     refine pu_ 9 24 (bm_ 15 895) HT_ ?_
     refine pu_ 10 25 (bm_ 15 1919) HT_ ?_
     refine tk_ 7 22 (bm_ 15 2047) HT_ HW_ hHeld rfl (by rintro w' ⟨s0,s1,s2,s3,s4,s5,s6,s7,s8⟩;go_simp;with_reducible rfl) ?_
     refine tk_ 11 26 (bm_ 15 4095) HT_ HW_ hHeld rfl (by rintro w' ⟨s0,s1,s2,s3,s4,s5,s6,s7,s8⟩;go_simp;with_reducible rfl) ?_
     refine pu_ 12 27 (bm_ 15 8191) HT_ ?_
     refine pu_ 13 28 (bm_ 15 16383) HT_ ?_
     refine pu_ 14 29 (bm_ 15 32767) HT_ ?_
     refine done_ (done_of HT_.out (by kernel_rfl)) ?_
     try go_wp2
     go_ret
     exact⟨_,by first|rfl|(simp[errW_none,errW_some] <;> rfl)|(simp[*,errW_none,errW_some] <;> first|rfl|exact given_isEmpty _|exact(given_isEmpty _).symm),kdN_ (Kd.N_mono HO_3.out (fun _ hk=>hk.1)),is56_ HI0,bs56_ HB HI0,kp_ HK⟩
   ·rw[if_neg c18] at H
    have c18b0:(t493==0)=false:=beq_eq_false_iff_ne.mpr c18
    have c18b1:(t493 !=0)=true:=bne_iff_ne.mpr c18
    exact absurd H (by simp)

/-! ### rule_Parse: function 8 -/
def rule_Parse.f (k:Nat) (s:ByteArray):Option (List S32 × Int × Int):=if 4000<s.size then some ([],4,0) else (rule_reader_rules.f k s 0 0 false false false false false false).bind fun t=>some (t.1,0,0)
set_option maxRecDepth 100000 in
theorem rule_Parse.idle (p2 p3 p4:Addr) (w:World):CallsD Tryd.prog 13 #[.pointer (some p2),.pointer (some p3),.pointer (some p4)] .returning w fun e u' w' =>
    e= .returned (.tuple #[])∧u'= .returning∧Below w.heap.size w w':=by
  refine callsD_of_wpS Tryd.func13 rfl fun c₀ cs hu=>?_
  apply wpS_seq
  apply wpS_region
  have hta:∀(W:World),(Instr.typeAssert .nilIface 20 52 true).run Tryd.prog W= .ok (.tuple #[.agg #[.int .i64 0,.int .i64 0],.bool false]) W:=fun W=>by rfl
  simp[wpOpsS,go_sem,recoverD,hu,Tryd.ntmps13,Exit.thenS,hta]
  apply wpS_seq
  apply wpS_region
  simp[wpOpsS,go_sem,Exit.thenS]
  refine wpS_cond (t:=false) (by rfl) ?_
  simp only[Bool.false_eq_true,if_false]
  refine wpS_of_wp (wp_skip ?_)
  cases c₀
  simp_all [bodyPostS,results,Tryd.results13]
  exact below_alloc (Below.refl _ _) _

set_option maxHeartbeats 4000000 in
set_option maxRecDepth 100000 in
theorem rule_Parse.calls (k:Nat) (a0:ByteArray) (r1:List S32) (r2 r3:Int) (w:World) (h:rule_Parse.f k a0=some (r1,r2,r3)) :
    Calls Tryd.prog 8 #[.string a0] w fun e w'=>∃v0_:Value,e= .returned (.tuple #[v0_,.int .i64 r2,.int .i64 r3])∧Kd.N k32 32 w' w.heap.size (fun k_=>(w.heap.size≤k_)) v0_ r1∧Below w.heap.size w w':=by
  unfold rule_Parse.f at h
  have hmf:∀(fn:Fn) (first cap:Array Value) (w:World),(Instr.makeFunc fn first cap).run Tryd.prog w= .ok (.func fn first cap) w:=fun _ _ _ _=>rfl
  have hu61:=Tryd.underlying56
  by_cases hs:4000<a0.size
  · rw[if_pos hs] at h
    simp only[Option.some.injEq,Prod.mk.injEq] at h
    obtain⟨rfl,rfl,rfl⟩:=h
    have h1:decide (4000<(a0.size:Int))=true:=decide_eq_true (by omega)
    go_enter_defers Tryd.func8,Tryd.ntmps8
    go_wp2
    simp only[bodyPostD,Leaves,results,Tryd.results8]
    refine⟨_,by simp[go_sem] <;> rfl,_,rfl,Kd.N_nil _ _ _ _ _,below_alloc (below_alloc (below_alloc (Below.refl _ _) _) _) _⟩
  · rw[if_neg hs] at h
    obtain⟨⟨t1,t2,t3,t4,t5,t6,t7,t8,t9,t10⟩,hr,h⟩:=Option.bind_eq_some_iff.mp h
    replace h:some (t1,(0:Int),(0:Int))=some (r1,r2,r3):=h
    simp only[Option.some.injEq,Prod.mk.injEq] at h
    obtain⟨rfl,rfl,rfl⟩:=h
    have h1:decide (4000<(a0.size:Int))=false:=decide_eq_false (by omega)
    generalize hW3:((w.alloc (Obj.cells #[Value.slice none 0 0] 24)).alloc (Obj.cells #[Value.int IntKind.i64 0] 25)).alloc (Obj.cells #[Value.int IntKind.i64 0] 3)=W3
    have hB3:Below w.heap.size w W3:=by subst hW3;exact below_alloc (below_alloc (below_alloc (Below.refl _ _) _) _) _
    have hb2:W3.heap[w.heap.size]? = some (.cells #[Value.slice none 0 0] 24 (0,0)):=by
      subst hW3;exact blk_alloc (blk_alloc (heap_alloc_new w _) _) _
    have hb3:W3.heap[w.heap.size+1]? = some (.cells #[Value.int IntKind.i64 0] 25 (0,0)):=by
      subst hW3;refine blk_alloc ?_ _
      have:=heap_alloc_new (w.alloc (Obj.cells #[Value.slice none 0 0] 24)) (Obj.cells #[Value.int IntKind.i64 0] 25)
      simpa using this
    have hb4:W3.heap[w.heap.size+1+1]? = some (.cells #[Value.int IntKind.i64 0] 3 (0,0)):=by
      subst hW3
      have:=heap_alloc_new ((w.alloc (Obj.cells #[Value.slice none 0 0] 24)).alloc (Obj.cells #[Value.int IntKind.i64 0] 25)) (Obj.cells #[Value.int IntKind.i64 0] 3)
      simpa using this
    have hsz:W3.heap.size=w.heap.size+3:=by subst hW3;simp
    have A:=Aside0.mk hr
    have hW3':=Aside0.mk hW3
    clear hr hW3
    go_enter_defers Tryd.func8,Tryd.ntmps8
    go_wp2_with (first|((with_reducible refine gate_dst (N:=11) rfl ?_);rw[hW3'.out];refine be_ 11 #[.string a0,.int .i64 0,.int .i64 0,.bool false,.bool false,.bool false,.bool false,.bool false,.bool false] 56 ?_;intro gb hg w5 hbox hb;have hI:IsS56 W3 w5 gb a0 0 0 false false false false false false:=⟨hbox,by omega⟩;have hB5:Below W3.heap.size W3 w5:=hb;rw[hsz] at hg;subst hg))
    refine(rule_reader_rules.calls k _ a0 0 0 false false false false false false _ _ _ _ _ _ _ _ _ _ W3 w5 hI hB5 A.out).mono ?_
    rintro e w6 ⟨v0,rfl,ho,hi,hb6,hk⟩
    obtain⟨A0,c0,rfl⟩:=Kd.N_slice ho
    have hc2:w6.heap[w.heap.size]? = some (.cells #[Value.slice none 0 0] 24 (0,0)):=blk_below hb2 hb6
    have hc3:w6.heap[w.heap.size+1]? = some (.cells #[Value.int IntKind.i64 0] 25 (0,0)):=blk_below hb3 hb6
    have hc4:w6.heap[w.heap.size+1+1]? = some (.cells #[Value.int IntKind.i64 0] 3 (0,0)):=blk_below hb4 hb6
    have e2:=blk_cell hc2 0
    have e3:=blk_cell hc3 0
    have e4:=blk_cell hc4 0
    have f2:=blk_frozen hc2 0
    have f3:=blk_frozen hc3 0
    have f4:=blk_frozen hc4 0
    go_wp2
    generalize hW7:(((w6.setCell ⟨w.heap.size,0,none⟩ (Value.slice A0 t1.length c0)).setCell ⟨w.heap.size+1,0,none⟩ (Value.int IntKind.i64 0)).setCell ⟨w.heap.size+1+1,0,none⟩ (Value.int IntKind.i64 0))=w7
    have hB7:Below w.heap.size w w7:=by
      subst hW7
      exact below_set (below_set (below_set (Below.trans hB3 (hb6.mono (by omega))) (Nat.le_refl _)) (by simp)) (by omega)
    have hN7:Kd.N k32 32 w7 w.heap.size (fun k_=>(w.heap.size≤k_)) (.slice A0 t1.length c0) t1:=by
      subst hW7
      have hz:=hB5.size
      exact Kd.N_lower (Kd.N_mono (Kd.N_far (Kd.N_far (Kd.N_far ho (fun k hk=>by simp;omega) _) (fun k hk=>by simp;omega) _) (fun k hk=>by simp;omega) _) (fun k hk=>by omega)) (by omega)
    have g2:w7.heap[w.heap.size]? = some (.cells #[Value.slice A0 t1.length c0] 24 (0,0)):=by
      subst hW7
      refine blk_far (blk_far ?_ (by simp) _) (by simp;omega) _
      simpa using blk_set hc2 0 (Value.slice A0 t1.length c0)
    have g3:w7.heap[w.heap.size+1]? = some (.cells #[Value.int IntKind.i64 0] 25 (0,0)):=by
      subst hW7
      refine blk_far ?_ (by simp) _
      simpa using blk_set (blk_far hc3 (by simp) _) 0 (Value.int IntKind.i64 0)
    have g4:w7.heap[w.heap.size+1+1]? = some (.cells #[Value.int IntKind.i64 0] 3 (0,0)):=by
      subst hW7
      simpa using blk_set (blk_far (blk_far hc4 (by simp;omega) _) (by simp) _) 0 (Value.int IntKind.i64 0)
    simp only[bodyPostD]
    refine leaves_cons (f:=13) (args:= #[.pointer (some ⟨w.heap.size,0,none⟩),.pointer (some ⟨w.heap.size+1,0,none⟩),.pointer (some ⟨w.heap.size+1+1,0,none⟩)]) (by simp) (by simp[go_sem]) ?_
    refine(rule_Parse.idle _ _ _ _).mono ?_
    rintro e u' w8 ⟨rfl,rfl,hb8⟩
    have i2:=blk_cell (blk_below g2 hb8) 0
    have i3:=blk_cell (blk_below g3 hb8) 0
    have i4:=blk_cell (blk_below g4 hb8) 0
    simp only[settle,Leaves,results,Tryd.results8]
    refine⟨_,by simp[go_sem,i2,i3,i4] <;> rfl,_,rfl,Kd.N_below hN7 hb8,hB7.trans (hb8.mono hB7.size)⟩

/-! ### strings_Join: function 16 -/
def strings_Join.f (l0:List ByteArray) (a1:ByteArray):Option ByteArray:=if l0.length≤1000000∧(Lib.join (l0.map (·.data.toList)) a1.data.toList).length≤140737488355328 then some ⟨(Lib.join (l0.map (·.data.toList)) a1.data.toList).toArray⟩ else none
theorem strings_Join.calls (A0:Option Addr) (c0:Nat) (l0:List ByteArray) (a1:ByteArray) (r:ByteArray) (w:World) (hr0:Kd.C Kd.string w A0 l0.length l0) (hc0:l0.length≤c0) (h:strings_Join.f l0 a1=some r) :
    Calls Tryd.prog 16 #[.slice A0 l0.length c0,.string a1] w fun e w'=>e= .returned (.string r)∧Below w.heap.size w w':=by
  unfold strings_Join.f at h
  split at h
  case isFalse=>cases h
  rename_i hc
  obtain⟨hn,hj⟩:=hc
  have h:=Option.some.inj h
  subst h
  by_cases hz:l0.length=0
  · obtain rfl:=List.eq_nil_of_length_eq_zero hz
    refine(Tryd.strings_Join_none A0 c0 a1 w).mono ?_
    rintro e w' ⟨rfl,rfl⟩
    exact⟨rfl,Below.refl _ _⟩
  · obtain⟨ad,rfl,hcell⟩:=hr0.2.2 (by omega)
    have hx:∀(j:Nat) x,l0[j]? = some x→w.cell? (ad.add j)=some (.string x):=by
      intro j x hx
      obtain⟨c,hl,hk,hu⟩:=hcell j x hx
      have hk':c=[.string x]:=hk
      have:=hu 0 (.string x) (by rw[hk'];rfl)
      have e1:(Kd.string).sz=1:=rfl
      rw[e1,Nat.mul_one,Nat.add_zero] at this
      exact this
    have h0:=hx 0 l0[0] (List.getElem?_eq_getElem (by omega))
    have e0:ad.add 0=ad:=by simp[Addr.add]
    rw[e0] at h0
    obtain⟨bk,o,sp⟩:=ad
    have hsp:sp=none:=by
      cases sp with
      | none=>rfl
      | some q =>
        exfalso
        unfold World.cell? at h0
        dsimp only at h0
        split at h0
        · simp at h0
        · cases h0
    subst hsp
    refine Tryd.strings_Join bk o c0 l0 a1 w ?_ (World.block_lt_of_cell? _ _ h0) (by omega) hc0 hj
    intro j x hjx
    have:=hx j x hjx
    by_cases hj0:j=0
    · subst hj0
      rw[e0] at this
      exact this
    · simp only[Addr.add,if_neg hj0] at this
      exact this

/-! ### strconv_Itoa: function 33 -/
def strconv_Itoa.f (n:Int):Option ByteArray:=if -9223372036854775808≤n∧n≤9223372036854775807 then some ⟨(Lib.itoa n).toArray⟩ else none
theorem strconv_Itoa.calls (a0:Int) (r:ByteArray) (w:World) (h:strconv_Itoa.f a0=some r) (ht:Lib.TabIs Tryd.prog w "internal/strconv.uint64pow10" .u64 Lib.pow10Tab:=by first|assumption|exact tb_ (by assumption) (bl_ (by assumption)).out) :
    Calls Tryd.prog 33 #[.int .i64 a0] w fun e w'=>e= .returned (.string r)∧Below w.heap.size w w':=by
  unfold strconv_Itoa.f at h
  split at h
  · rename_i hc
    obtain rfl:=Option.some.inj h
    refine(Tryd.strconv_Itoa a0 hc.1 hc.2 w ht).mono ?_
    rintro e w' ⟨rfl,k,os,rfl⟩
    exact⟨rfl,Lib.below_grow w.heap.size w (Nat.le_refl _) k os⟩
  · cases h

end Go.Proofs.YtcokjmnkieakiaaDoor.P
