-- written by a program of this session (wip/p2)
import Derived.Test.YtcokjmnkieakiaaDoorPx0
import Derived.Test.YtcokjmnkieakiaaDoorPx2
import Derived.Test.YtcokjmnkieakiaaDoorPx5
namespace Go.Proofs.YtcokjmnkieakiaaDoor.P
open Go.RowKit Go.Proofs.YtcokjmnkieakiaaDoorW.PrintWords Go.Proofs.YtcokjmnkieakiaaDoorW.PrintLast Go.Proofs.YtcokjmnkieakiaaDoorW.PrintMore
attribute [local go_sem] max2_int min2_int max_two min_two max_three min_three max_four min_four   -- for this text's walks alone
set_option linter.unusedVariables false
set_option linter.unusedSimpArgs false

/-! ### rule_reader_sample: function 31 -/
def rule_reader_sample.f (k:Nat) (s0_0:ByteArray) (s0_1:Int) (s0_2:Int) (s0_3:Bool) (s0_4:Bool) (s0_5:Bool) (s0_6:Bool) (s0_7:Bool) (s0_8:Bool):Option (ByteArray × ByteArray × Int × Int × Bool × Bool × Bool × Bool × Bool × Bool):=(rule_reader_peek.f k s0_0 s0_1 s0_2 s0_3 s0_4 s0_5 s0_6 s0_7 s0_8).bind fun bt590=>(if bt590.1=64 then (if 0≤bt590.2.2.1 then (if bt590.2.2.1≤(bt590.2.1.size:Int) then ((strings_Cut.f (bt590.2.1.extract (bt590.2.2.1:Int).toNat bt590.2.1.size) (⟨#[59]⟩:ByteArray)).bind fun bt600=>((strings_TrimRight.f bt600.1 (⟨#[32]⟩:ByteArray)).bind fun t603=>(some (t603,bt590.2.1,wrap64 (bt590.2.2.1+(bt600.1.size:Int)),bt590.2.2.2.1,bt590.2.2.2.2.1,bt590.2.2.2.2.2.1,bt590.2.2.2.2.2.2.1,bt590.2.2.2.2.2.2.2.1,bt590.2.2.2.2.2.2.2.2.1,bt590.2.2.2.2.2.2.2.2.2)))) else (none)) else (none)) else (some ((⟨#[]⟩:ByteArray),bt590.2.1,bt590.2.2.1,bt590.2.2.2.1,bt590.2.2.2.2.1,bt590.2.2.2.2.2.1,bt590.2.2.2.2.2.2.1,bt590.2.2.2.2.2.2.2.1,bt590.2.2.2.2.2.2.2.2.1,bt590.2.2.2.2.2.2.2.2.2)))
set_option maxHeartbeats 64000000 in
set_option maxRecDepth 100000 in
theorem rule_reader_sample.calls (k:Nat) (g:Nat) (s0_0:ByteArray) (s0_1:Int) (s0_2:Int) (s0_3:Bool) (s0_4:Bool) (s0_5:Bool) (s0_6:Bool) (s0_7:Bool) (s0_8:Bool) (r1:ByteArray) (r2:ByteArray) (r3:Int) (r4:Int) (r5:Bool) (r6:Bool) (r7:Bool) (r8:Bool) (r9:Bool) (r10:Bool) (w0 w:World) (hI:IsS56 w0 w g s0_0 s0_1 s0_2 s0_3 s0_4 s0_5 s0_6 s0_7 s0_8) (hB:Below w0.heap.size w0 w) (h:rule_reader_sample.f k s0_0 s0_1 s0_2 s0_3 s0_4 s0_5 s0_6 s0_7 s0_8=some (r1,r2,r3,r4,r5,r6,r7,r8,r9,r10)) :
  Calls Tryd.prog 31 #[.pointer (some ⟨g,0,none⟩)] w fun e w'=>e= .returned (.string r1)∧IsS56 w0 w' g r2 r3 r4 r5 r6 r7 r8 r9 r10∧Below w0.heap.size w0 w'∧KeepBut w w' g none:=by
 have HI0:=Aside0.mk hI
 have HK:=Aside0.mk (KeepBut.refl w g none)
 have HL:=Aside0.mk hB.size
 clear hI
 have HW0:=Aside0.mk hB.size
 have HB:=Aside0.mk hB
 clear hB
 have H:((rule_reader_peek.f k s0_0 s0_1 s0_2 s0_3 s0_4 s0_5 s0_6 s0_7 s0_8).bind fun bt590=>(if bt590.1=64 then (if 0≤bt590.2.2.1 then (if bt590.2.2.1≤(bt590.2.1.size:Int) then ((strings_Cut.f (bt590.2.1.extract (bt590.2.2.1:Int).toNat bt590.2.1.size) (⟨#[59]⟩:ByteArray)).bind fun bt600=>((strings_TrimRight.f bt600.1 (⟨#[32]⟩:ByteArray)).bind fun t603=>(some (t603,bt590.2.1,wrap64 (bt590.2.2.1+(bt600.1.size:Int)),bt590.2.2.2.1,bt590.2.2.2.2.1,bt590.2.2.2.2.2.1,bt590.2.2.2.2.2.2.1,bt590.2.2.2.2.2.2.2.1,bt590.2.2.2.2.2.2.2.2.1,bt590.2.2.2.2.2.2.2.2.2)))) else (none)) else (none)) else (some ((⟨#[]⟩:ByteArray),bt590.2.1,bt590.2.2.1,bt590.2.2.2.1,bt590.2.2.2.2.1,bt590.2.2.2.2.2.1,bt590.2.2.2.2.2.2.1,bt590.2.2.2.2.2.2.2.1,bt590.2.2.2.2.2.2.2.2.1,bt590.2.2.2.2.2.2.2.2.2))))=some (r1,r2,r3,r4,r5,r6,r7,r8,r9,r10):=h
 clear h
 replace H:=Option.bind_eq_some_iff.mp H
 obtain⟨⟨t590,t591,t592,t593,t594,t595,t596,t597,t598,t599⟩,A20,H⟩:=H
 dsimp only at H
 have A2:=Aside0.mk A20
 clear A20
 by_cases c3:t590=64
 ·rw[if_pos c3] at H
  have c3b0:(t590==64)=true:=beq_iff_eq.mpr c3
  have c3b1:(t590 !=64)=false:=bne_eq_false_iff_eq.mpr c3
  clear c3
  replace H:=ifn_ H
  obtain⟨c4,H⟩:=H
  have c4b0:=eq_true c4
  have c4b1:decide (0≤t592)=true:=decide_eq_true c4
  clear c4
  replace H:=ifn_ H
  obtain⟨c5,H⟩:=H
  have c5b0:=eq_true c5
  have c5b1:decide (t592≤(t591.size:Int))=true:=decide_eq_true c5
  clear c5
  replace H:=Option.bind_eq_some_iff.mp H
  obtain⟨⟨t600,t601,t602⟩,A60,H⟩:=H
  dsimp only at H
  have A6:=Aside0.mk A60
  clear A60
  replace H:=Option.bind_eq_some_iff.mp H
  obtain⟨t603,A70,H⟩:=H
  have A7:=Aside0.mk A70
  clear A70
  simp only[Option.some.injEq,Prod.mk.injEq] at H
  obtain⟨rfl,rfl,rfl,rfl,rfl,rfl,rfl,rfl,rfl,rfl⟩:=H
  go_enter Tryd.func31,Tryd.ntmps31
  go_wp2_with (first|(go_at_call 18;(with_reducible refine(rule_reader_peek.calls _ _ _ _ _ _ _ _ _ _ _ _ _ _ _ _ _ _ _ _ _ w0 _ ?side1 ?side2 A2.out).mono ?_);(case side1=>exact is56_ HI0);(case side2=>exact bs56_ HB HI0);rintro e w8 ⟨rfl,hi,hb,hk⟩;replace HK:=Aside0.mk (KeepBut.trans (kp_ HK) hk (.inl rfl));replace HB:=Aside0.mk (hb);replace HI0:=Aside0.mk (hi);(try clear hb);(try clear hk);(try clear hi);obtain⟨hcz9_0,hcz9_1,hcz9_2,hcz9_3,hcz9_4,hcz9_5,hcz9_6,hcz9_7,hcz9_8,hfz9_0,hfz9_1,hfz9_2,hfz9_3,hfz9_4,hfz9_5,hfz9_6,hfz9_7,hfz9_8⟩:=cs56_ HI0)|(go_at_call 39;(with_reducible refine(strings_Cut.calls _ _ _ _ _ _ A6.out).mono ?_);rintro e w' ⟨rfl,⟨nd,rfl⟩⟩;(try first|exact⟨rfl,_,World.drewN_drewN _ _ _⟩|exact⟨rfl,_,Eq.trans (World.drewN_drewN _ _ _) (congrArg (World.drewN _) (Nat.add_assoc _ _ _))⟩))|(go_at_call 40;(with_reducible refine(strings_TrimRight.calls _ _ _ _ A7.out).mono ?_);rintro e w' ⟨rfl,⟨nd,rfl⟩⟩;(try first|exact⟨rfl,_,World.drewN_drewN _ _ _⟩|exact⟨rfl,_,Eq.trans (World.drewN_drewN _ _ _) (congrArg (World.drewN _) (Nat.add_assoc _ _ _))⟩)))
  repeat(go_quiet (first|(go_at_call 18;(with_reducible refine(rule_reader_peek.calls _ _ _ _ _ _ _ _ _ _ _ _ _ _ _ _ _ _ _ _ _ w0 _ ?side1 ?side2 A2.out).mono ?_);(case side1=>exact is56_ HI0);(case side2=>exact bs56_ HB HI0);rintro e w8 ⟨rfl,hi,hb,hk⟩;replace HK:=Aside0.mk (KeepBut.trans (kp_ HK) hk (.inl rfl));replace HB:=Aside0.mk (hb);replace HI0:=Aside0.mk (hi);(try clear hb);(try clear hk);(try clear hi);obtain⟨hcz9_0,hcz9_1,hcz9_2,hcz9_3,hcz9_4,hcz9_5,hcz9_6,hcz9_7,hcz9_8,hfz9_0,hfz9_1,hfz9_2,hfz9_3,hfz9_4,hfz9_5,hfz9_6,hfz9_7,hfz9_8⟩:=cs56_ HI0)|(go_at_call 39;(with_reducible refine(strings_Cut.calls _ _ _ _ _ _ A6.out).mono ?_);rintro e w' ⟨rfl,⟨nd,rfl⟩⟩;(try first|exact⟨rfl,_,World.drewN_drewN _ _ _⟩|exact⟨rfl,_,Eq.trans (World.drewN_drewN _ _ _) (congrArg (World.drewN _) (Nat.add_assoc _ _ _))⟩))|(go_at_call 40;(with_reducible refine(strings_TrimRight.calls _ _ _ _ A7.out).mono ?_);rintro e w' ⟨rfl,⟨nd,rfl⟩⟩;(try first|exact⟨rfl,_,World.drewN_drewN _ _ _⟩|exact⟨rfl,_,Eq.trans (World.drewN_drewN _ _ _) (congrArg (World.drewN _) (Nat.add_assoc _ _ _))⟩)));try go_wp2_with (first|(go_at_call 18;(with_reducible refine(rule_reader_peek.calls _ _ _ _ _ _ _ _ _ _ _ _ _ _ _ _ _ _ _ _ _ w0 _ ?side1 ?side2 A2.out).mono ?_);(case side1=>exact is56_ HI0);(case side2=>exact bs56_ HB HI0);rintro e w8 ⟨rfl,hi,hb,hk⟩;replace HK:=Aside0.mk (KeepBut.trans (kp_ HK) hk (.inl rfl));replace HB:=Aside0.mk (hb);replace HI0:=Aside0.mk (hi);(try clear hb);(try clear hk);(try clear hi);obtain⟨hcz9_0,hcz9_1,hcz9_2,hcz9_3,hcz9_4,hcz9_5,hcz9_6,hcz9_7,hcz9_8,hfz9_0,hfz9_1,hfz9_2,hfz9_3,hfz9_4,hfz9_5,hfz9_6,hfz9_7,hfz9_8⟩:=cs56_ HI0)|(go_at_call 39;(with_reducible refine(strings_Cut.calls _ _ _ _ _ _ A6.out).mono ?_);rintro e w' ⟨rfl,⟨nd,rfl⟩⟩;(try first|exact⟨rfl,_,World.drewN_drewN _ _ _⟩|exact⟨rfl,_,Eq.trans (World.drewN_drewN _ _ _) (congrArg (World.drewN _) (Nat.add_assoc _ _ _))⟩))|(go_at_call 40;(with_reducible refine(strings_TrimRight.calls _ _ _ _ A7.out).mono ?_);rintro e w' ⟨rfl,⟨nd,rfl⟩⟩;(try first|exact⟨rfl,_,World.drewN_drewN _ _ _⟩|exact⟨rfl,_,Eq.trans (World.drewN_drewN _ _ _) (congrArg (World.drewN _) (Nat.add_assoc _ _ _))⟩))))
  go_ret
  exact⟨ew_,is56_ HI0,bs56_ HB HI0,kp_ HK⟩
 ·rw[if_neg c3] at H
  have c3b0:(t590==64)=false:=beq_eq_false_iff_ne.mpr c3
  have c3b1:(t590 !=64)=true:=bne_iff_ne.mpr c3
  simp only[Option.some.injEq,Prod.mk.injEq] at H
  obtain⟨rfl,rfl,rfl,rfl,rfl,rfl,rfl,rfl,rfl,rfl⟩:=H
  go_enter Tryd.func31,Tryd.ntmps31
  go_wp2_with (first|(go_at_call 18;(with_reducible refine(rule_reader_peek.calls _ _ _ _ _ _ _ _ _ _ _ _ _ _ _ _ _ _ _ _ _ w0 _ ?side1 ?side2 A2.out).mono ?_);(case side1=>exact is56_ HI0);(case side2=>exact bs56_ HB HI0);rintro e w10 ⟨rfl,hi,hb,hk⟩;replace HK:=Aside0.mk (KeepBut.trans (kp_ HK) hk (.inl rfl));replace HB:=Aside0.mk (hb);replace HI0:=Aside0.mk (hi);(try clear hb);(try clear hk);(try clear hi)))
  repeat(go_quiet (first|(go_at_call 18;(with_reducible refine(rule_reader_peek.calls _ _ _ _ _ _ _ _ _ _ _ _ _ _ _ _ _ _ _ _ _ w0 _ ?side1 ?side2 A2.out).mono ?_);(case side1=>exact is56_ HI0);(case side2=>exact bs56_ HB HI0);rintro e w10 ⟨rfl,hi,hb,hk⟩;replace HK:=Aside0.mk (KeepBut.trans (kp_ HK) hk (.inl rfl));replace HB:=Aside0.mk (hb);replace HI0:=Aside0.mk (hi);(try clear hb);(try clear hk);(try clear hi)));try go_wp2_with (first|(go_at_call 18;(with_reducible refine(rule_reader_peek.calls _ _ _ _ _ _ _ _ _ _ _ _ _ _ _ _ _ _ _ _ _ w0 _ ?side1 ?side2 A2.out).mono ?_);(case side1=>exact is56_ HI0);(case side2=>exact bs56_ HB HI0);rintro e w10 ⟨rfl,hi,hb,hk⟩;replace HK:=Aside0.mk (KeepBut.trans (kp_ HK) hk (.inl rfl));replace HB:=Aside0.mk (hb);replace HI0:=Aside0.mk (hi);(try clear hb);(try clear hk);(try clear hi))))
  go_ret
  exact⟨ew_,is56_ HI0,bs56_ HB HI0,kp_ HK⟩

/-! ### rule_reader_rule: function 19 -/
mutual
def rule_reader_rule.j0:Nat→Int→ByteArray→Int→Int→Bool→Bool→Bool→Bool→Bool→Bool→Option (Int × (List (List (S36))) × ByteArray × ByteArray × Int × Int × Bool × Bool × Bool × Bool × Bool × Bool)
 | 0,_,_,_,_,_,_,_,_,_,_=>none
 | k+1,x5,x1000,x1001,x1002,x1003,x1004,x1005,x1006,x1007,x1008=>if x5=5 then ((rule_reader_sample.f k x1000 x1001 x1002 x1003 x1004 x1005 x1006 x1007 x1008).bind fun bt627=>(some (x5,([]:List (List (S36))),bt627.1,bt627.2.1,bt627.2.2.1,bt627.2.2.2.1,bt627.2.2.2.2.1,bt627.2.2.2.2.2.1,bt627.2.2.2.2.2.2.1,bt627.2.2.2.2.2.2.2.1,bt627.2.2.2.2.2.2.2.2.1,bt627.2.2.2.2.2.2.2.2.2))) else ((rule_reader_all.f k x1000 x1001 x1002 x1003 x1004 x1005 x1006 x1007 x1008).bind fun bt637=>(if ([]:List (List (S36))).length<5864062014805 then (rule_reader_rule.l0 k bt637.2.1 bt637.2.2.1 bt637.2.2.2.1 bt637.2.2.2.2.1 bt637.2.2.2.2.2.1 bt637.2.2.2.2.2.2.1 bt637.2.2.2.2.2.2.2.1 bt637.2.2.2.2.2.2.2.2.1 bt637.2.2.2.2.2.2.2.2.2 x5 (([]:List (List (S36)))++[bt637.1]) (⟨#[]⟩:ByteArray)) else (none)))
def rule_reader_rule.l0:Nat→ByteArray→Int→Int→Bool→Bool→Bool→Bool→Bool→Bool→Int→List (List (S36))→ByteArray→Option (Int × (List (List (S36))) × ByteArray × ByteArray × Int × Int × Bool × Bool × Bool × Bool × Bool × Bool)
 | 0,_,_,_,_,_,_,_,_,_,_,_,_=>none
 | k+1,x1000,x1001,x1002,x1003,x1004,x1005,x1006,x1007,x1008,x627000,x627001,x627002=>(rule_reader_next.f k x1000 x1001 x1002 x1003 x1004 x1005 x1006 x1007 x1008 (⟨#[111,114]⟩:ByteArray)).bind fun bt652=>(if bt652.1=true then ((rule_reader_all.f k bt652.2.1 bt652.2.2.1 bt652.2.2.2.1 bt652.2.2.2.2.1 bt652.2.2.2.2.2.1 bt652.2.2.2.2.2.2.1 bt652.2.2.2.2.2.2.2.1 bt652.2.2.2.2.2.2.2.2.1 bt652.2.2.2.2.2.2.2.2.2).bind fun bt662=>(if x627001.length<5864062014805 then (rule_reader_rule.l0 k bt662.2.1 bt662.2.2.1 bt662.2.2.2.1 bt662.2.2.2.2.1 bt662.2.2.2.2.2.1 bt662.2.2.2.2.2.2.1 bt662.2.2.2.2.2.2.2.1 bt662.2.2.2.2.2.2.2.2.1 bt662.2.2.2.2.2.2.2.2.2 x627000 (x627001++[bt662.1]) x627002) else (none))) else ((rule_reader_sample.f k bt652.2.1 bt652.2.2.1 bt652.2.2.2.1 bt652.2.2.2.2.1 bt652.2.2.2.2.2.1 bt652.2.2.2.2.2.2.1 bt652.2.2.2.2.2.2.2.1 bt652.2.2.2.2.2.2.2.2.1 bt652.2.2.2.2.2.2.2.2.2).bind fun bt677=>(some (x627000,x627001,bt677.1,bt677.2.1,bt677.2.2.1,bt677.2.2.2.1,bt677.2.2.2.2.1,bt677.2.2.2.2.2.1,bt677.2.2.2.2.2.2.1,bt677.2.2.2.2.2.2.2.1,bt677.2.2.2.2.2.2.2.2.1,bt677.2.2.2.2.2.2.2.2.2))))
end
def rule_reader_rule.f (k:Nat) (s0_0:ByteArray) (s0_1:Int) (s0_2:Int) (s0_3:Bool) (s0_4:Bool) (s0_5:Bool) (s0_6:Bool) (s0_7:Bool) (s0_8:Bool):Option (Int × (List (List (S36))) × ByteArray × ByteArray × Int × Int × Bool × Bool × Bool × Bool × Bool × Bool):=(rule_reader_word.f k s0_0 s0_1 s0_2 s0_3 s0_4 s0_5 s0_6 s0_7 s0_8).bind fun bt605=>((rule_CatOf.f k bt605.1).bind fun bt615=>(if bt615.2=true then (if 0≤bt615.1 then (if bt615.1<6 then (if rdOf false [bt605.2.2.2.2.1,bt605.2.2.2.2.2.1,bt605.2.2.2.2.2.2.1,bt605.2.2.2.2.2.2.2.1,bt605.2.2.2.2.2.2.2.2.1,bt605.2.2.2.2.2.2.2.2.2] bt615.1=true then (none) else ((rule_reader_want.f k bt605.2.1 (wrap64 (bt605.2.2.1+(bt605.1.size:Int))) bt605.2.2.2.1 (if bt615.1=0 then true else bt605.2.2.2.2.1) (if bt615.1=1 then true else bt605.2.2.2.2.2.1) (if bt615.1=2 then true else bt605.2.2.2.2.2.2.1) (if bt615.1=3 then true else bt605.2.2.2.2.2.2.2.1) (if bt615.1=4 then true else bt605.2.2.2.2.2.2.2.2.1) (if bt615.1=5 then true else bt605.2.2.2.2.2.2.2.2.2) (⟨#[58]⟩:ByteArray)).bind fun bt617=>(rule_reader_rule.j0 k bt615.1 bt617.1 bt617.2.1 bt617.2.2.1 bt617.2.2.2.1 bt617.2.2.2.2.1 bt617.2.2.2.2.2.1 bt617.2.2.2.2.2.2.1 bt617.2.2.2.2.2.2.2.1 bt617.2.2.2.2.2.2.2.2))) else (none)) else (none)) else (none)))
def rule_reader_rule.T13:Bool × List (List Nat × List Nat):=(true,[([],[]),([0],[0]),([],[]),([2],[2]),([3],[3]),([1,4,3],[1,4]),([0,1,2,3,4,5],[]),([6,5,5,0,1,2,3,4,5],[5,6])])
def rule_reader_rule.B13:List Nat:=[0,1,0,4,12,31,63,127]
theorem rule_reader_rule.tab13:rtab .any (opsOf Tryd.f19 13)=rule_reader_rule.T13:=by kernel_rfl
theorem rule_reader_rule.bits13:waitsOk rule_reader_rule.T13.2 rule_reader_rule.B13=true:=by kernel_rfl
def rule_reader_rule.T15:Bool × List (List Nat × List Nat):=(true,[([],[]),([0],[0]),([],[]),([2],[2]),([3],[3]),([1,4,3],[1,4]),([0,1,2,3,4,5],[]),([6,5,5,0,1,2,3,4,5],[5,6])])
def rule_reader_rule.B15:List Nat:=[0,1,0,4,12,31,63,127]
theorem rule_reader_rule.tab15:rtab .any (opsOf Tryd.f19 15)=rule_reader_rule.T15:=by kernel_rfl
theorem rule_reader_rule.bits15:waitsOk rule_reader_rule.T15.2 rule_reader_rule.B15=true:=by kernel_rfl
set_option maxHeartbeats 64000000 in
set_option maxRecDepth 100000 in
theorem rule_reader_rule.calls (k:Nat) (g:Nat) (s0_0:ByteArray) (s0_1:Int) (s0_2:Int) (s0_3:Bool) (s0_4:Bool) (s0_5:Bool) (s0_6:Bool) (s0_7:Bool) (s0_8:Bool) (r1:Int) (r2:List (List (S36))) (r3:ByteArray) (r4:ByteArray) (r5:Int) (r6:Int) (r7:Bool) (r8:Bool) (r9:Bool) (r10:Bool) (r11:Bool) (r12:Bool) (w0 w:World) (hI:IsS56 w0 w g s0_0 s0_1 s0_2 s0_3 s0_4 s0_5 s0_6 s0_7 s0_8) (hB:Below w0.heap.size w0 w) (h:rule_reader_rule.f k s0_0 s0_1 s0_2 s0_3 s0_4 s0_5 s0_6 s0_7 s0_8=some (r1,r2,r3,r4,r5,r6,r7,r8,r9,r10,r11,r12)) :
  Calls Tryd.prog 19 #[.pointer (some ⟨g,0,none⟩)] w fun e w'=>∃v1_:Value,e= .returned (.agg #[.int .i64 r1,v1_,.string r3])∧Kd.N (Kd.slice 36 k36) 33 w' w.heap.size (fun k_=>(w.heap.size≤k_)) v1_ r2∧IsS56 w0 w' g r4 r5 r6 r7 r8 r9 r10 r11 r12∧Below w0.heap.size w0 w'∧KeepBut w w' g none:=by
 have hu32:=Tryd.underlying32
 have HI0:=Aside0.mk hI
 have HK:=Aside0.mk (KeepBut.refl w g none)
 have HL:=Aside0.mk hB.size
 clear hI
 have HW0:=Aside0.mk hB.size
 have HB:=Aside0.mk hB
 clear hB
 have H:((rule_reader_word.f k s0_0 s0_1 s0_2 s0_3 s0_4 s0_5 s0_6 s0_7 s0_8).bind fun bt605=>((rule_CatOf.f k bt605.1).bind fun bt615=>(if bt615.2=true then (if 0≤bt615.1 then (if bt615.1<6 then (if rdOf false [bt605.2.2.2.2.1,bt605.2.2.2.2.2.1,bt605.2.2.2.2.2.2.1,bt605.2.2.2.2.2.2.2.1,bt605.2.2.2.2.2.2.2.2.1,bt605.2.2.2.2.2.2.2.2.2] bt615.1=true then (none) else ((rule_reader_want.f k bt605.2.1 (wrap64 (bt605.2.2.1+(bt605.1.size:Int))) bt605.2.2.2.1 (if bt615.1=0 then true else bt605.2.2.2.2.1) (if bt615.1=1 then true else bt605.2.2.2.2.2.1) (if bt615.1=2 then true else bt605.2.2.2.2.2.2.1) (if bt615.1=3 then true else bt605.2.2.2.2.2.2.2.1) (if bt615.1=4 then true else bt605.2.2.2.2.2.2.2.2.1) (if bt615.1=5 then true else bt605.2.2.2.2.2.2.2.2.2) (⟨#[58]⟩:ByteArray)).bind fun bt617=>(rule_reader_rule.j0 k bt615.1 bt617.1 bt617.2.1 bt617.2.2.1 bt617.2.2.2.1 bt617.2.2.2.2.1 bt617.2.2.2.2.2.1 bt617.2.2.2.2.2.2.1 bt617.2.2.2.2.2.2.2.1 bt617.2.2.2.2.2.2.2.2))) else (none)) else (none)) else (none))))=some (r1,r2,r3,r4,r5,r6,r7,r8,r9,r10,r11,r12):=h
 clear h
 replace H:=Option.bind_eq_some_iff.mp H
 obtain⟨⟨t605,t606,t607,t608,t609,t610,t611,t612,t613,t614⟩,A20,H⟩:=H
 dsimp only at H
 have A2:=Aside0.mk A20
 clear A20
 replace H:=Option.bind_eq_some_iff.mp H
 obtain⟨⟨t615,t616⟩,A30,H⟩:=H
 dsimp only at H
 have A3:=Aside0.mk A30
 clear A30
 by_cases c4:t616=true
 ·subst c4
  have H1:(if 0≤t615 then (if t615<6 then (if rdOf false [t609,t610,t611,t612,t613,t614] t615=true then (none) else ((rule_reader_want.f k t606 (wrap64 (t607+(t605.size:Int))) t608 (if t615=0 then true else t609) (if t615=1 then true else t610) (if t615=2 then true else t611) (if t615=3 then true else t612) (if t615=4 then true else t613) (if t615=5 then true else t614) (⟨#[58]⟩:ByteArray)).bind fun bt617=>(rule_reader_rule.j0 k t615 bt617.1 bt617.2.1 bt617.2.2.1 bt617.2.2.2.1 bt617.2.2.2.2.1 bt617.2.2.2.2.2.1 bt617.2.2.2.2.2.2.1 bt617.2.2.2.2.2.2.2.1 bt617.2.2.2.2.2.2.2.2))) else (none)) else (none))=some (r1,r2,r3,r4,r5,r6,r7,r8,r9,r10,r11,r12):=by rw[if_pos rfl] at H;exact H
  clear H
  have H:=H1
  clear H1
  replace H:=ifn_ H
  obtain⟨c5,H⟩:=H
  have c5b0:decide (0≤t615)=true:=decide_eq_true c5
  clear c5
  replace H:=ifn_ H
  obtain⟨c6,H⟩:=H
  have c6b0:decide (t615<6)=true:=decide_eq_true c6
  clear c6
  obtain⟨bq7,hbq7⟩:∃b_:Bool,b_=(rdOf false [t609,t610,t611,t612,t613,t614] t615):=⟨_,rfl⟩
  replace H:(if bq7=true then (none) else ((rule_reader_want.f k t606 (wrap64 (t607+(t605.size:Int))) t608 (if t615=0 then true else t609) (if t615=1 then true else t610) (if t615=2 then true else t611) (if t615=3 then true else t612) (if t615=4 then true else t613) (if t615=5 then true else t614) (⟨#[58]⟩:ByteArray)).bind fun bt617=>(rule_reader_rule.j0 k t615 bt617.1 bt617.2.1 bt617.2.2.1 bt617.2.2.2.1 bt617.2.2.2.2.1 bt617.2.2.2.2.2.1 bt617.2.2.2.2.2.2.1 bt617.2.2.2.2.2.2.2.1 bt617.2.2.2.2.2.2.2.2)))=some (r1,r2,r3,r4,r5,r6,r7,r8,r9,r10,r11,r12):=by rw[← hbq7] at H;exact H
  have Nbq7:=Aside0.mk hbq7
  clear hbq7
  by_cases c8:bq7=true
  ·subst c8
   have H1:(none)=some (r1,r2,r3,r4,r5,r6,r7,r8,r9,r10,r11,r12):=by rw[if_pos rfl] at H;exact H
   clear H
   have H:=H1
   clear H1
   exact absurd H (by simp)
  ·replace c8:=Bool.eq_false_iff.mpr c8
   subst c8
   have H1:((rule_reader_want.f k t606 (wrap64 (t607+(t605.size:Int))) t608 (if t615=0 then true else t609) (if t615=1 then true else t610) (if t615=2 then true else t611) (if t615=3 then true else t612) (if t615=4 then true else t613) (if t615=5 then true else t614) (⟨#[58]⟩:ByteArray)).bind fun bt617=>(rule_reader_rule.j0 k t615 bt617.1 bt617.2.1 bt617.2.2.1 bt617.2.2.2.1 bt617.2.2.2.2.1 bt617.2.2.2.2.2.1 bt617.2.2.2.2.2.2.1 bt617.2.2.2.2.2.2.2.1 bt617.2.2.2.2.2.2.2.2))=some (r1,r2,r3,r4,r5,r6,r7,r8,r9,r10,r11,r12):=by rw[if_neg (show ¬(false=true) by decide)] at H;exact H
   clear H
   have H:=H1
   clear H1
   have HC9:=Aside0.mk H
   clear H
   go_enter Tryd.func19,Tryd.ntmps19
   go_upto_region 10 with (first|((with_reducible refine gate_dst (N:=2) rfl ?_);refine be_ 2 #[.int .i64 0,.slice none 0 0,.string (⟨#[]⟩:ByteArray)] 32 ?_;intro gb604 hg w10 hbox hb;have n0_:=Aside0.mk (IsS56.below (is56_ HI0) hb);have n1_:=Aside0.mk (KeepBut.trans (kp_ HK) (KeepBut.of_below hb g none) (.inl rfl));have n2_:=Aside0.mk (below_step (bs56_ HB HI0) hb);have n3_:=Aside0.mk (hbox);have n4_:=Aside0.mk ((by rw[hg];exact(keep_size (w:=w) (g:=g) (row:=none) (kp_ HK)):w.heap.size≤gb604));have n5_:=Aside0.mk ((Nat.le_trans HW0.out (by rw[hg];exact(keep_size (w:=w) (g:=g) (row:=none) (kp_ HK)):w.heap.size≤gb604):w0.heap.size≤gb604));have n6_:=Aside0.mk ((by rw[hg];exact Nat.ne_of_lt (IsS56.lt (show IsS56 w0 _ g s0_0 s0_1 s0_2 s0_3 s0_4 s0_5 s0_6 s0_7 s0_8 from is56_ HI0)):g≠gb604));have n7_:=Aside0.mk ((by rw[hg];exact Nat.ne_of_gt (IsS56.lt (show IsS56 w0 _ g s0_0 s0_1 s0_2 s0_3 s0_4 s0_5 s0_6 s0_7 s0_8 from is56_ HI0)):gb604≠g));clear HI0;clear HK;clear HB;have HI0:=n0_;have HK:=n1_;have HB:=n2_;have BK604:=n3_;have GW604:=n4_;have GE604:=n5_;have NB0_604:=n6_;have NB604_0:=n7_;clear n0_ n1_ n2_ n3_ n4_ n5_ n6_ n7_;clear hb hbox hg)|((with_reducible refine gate_callee (f:=27) rfl ?_);refine gl_ (some 9) Tryd.func27 #[.pointer (some ⟨g,0,none⟩)] ?_;(with_reducible refine(rule_reader_word.calls _ _ _ _ _ _ _ _ _ _ _ _ _ _ _ _ _ _ _ _ _ w0 _ ?side1 ?side2 A2.out).mono ?_);(case side1=>exact is56_ HI0);(case side2=>exact bs56_ HB HI0);rintro e w11 ⟨rfl,hi,hb,hk⟩;refine⟨_,rfl,?_⟩;have n0_:=Aside0.mk (KeepBut.blk hk (bk_ BK604).out NB604_0.out (by simp));have n1_:=Aside0.mk (KeepBut.trans (kp_ HK) hk (.inl rfl));have n2_:=Aside0.mk (hb);have n3_:=Aside0.mk (hi);clear BK604;clear HK;clear HB;clear HI0;have BK604:=n0_;have HK:=n1_;have HB:=n2_;have HI0:=n3_;clear n0_ n1_ n2_ n3_;(try clear hb);(try clear hk);(try clear hi);obtain⟨hcz12_0,hcz12_1,hcz12_2,hcz12_3,hcz12_4,hcz12_5,hcz12_6,hcz12_7,hcz12_8,hfz12_0,hfz12_1,hfz12_2,hfz12_3,hfz12_4,hfz12_5,hfz12_6,hfz12_7,hfz12_8⟩:=cs56_ HI0)|((with_reducible refine gate_callee (f:=11) rfl ?_);refine gl_ (some 16) Tryd.func11 #[.string t605] ?_;(with_reducible refine(rule_CatOf.calls _ _ _ _ _ A3.out).mono ?_);rintro e w13 ⟨rfl,hb⟩;refine⟨_,rfl,?_⟩;have n0_:=Aside0.mk (IsS56.below (is56_ HI0) hb);have n1_:=bb_ BK604 hb;have n2_:=Aside0.mk (KeepBut.trans (kp_ HK) (KeepBut.of_below hb g none) (.inl rfl));have n3_:=Aside0.mk (below_step (bs56_ HB HI0) hb);clear HI0;clear BK604;clear HK;clear HB;have HI0:=n0_;have BK604:=n1_;have HK:=n2_;have HB:=n3_;clear n0_ n1_ n2_ n3_;(try clear hb);obtain⟨hcz14_0,hcz14_1,hcz14_2,hcz14_3,hcz14_4,hcz14_5,hcz14_6,hcz14_7,hcz14_8,hfz14_0,hfz14_1,hfz14_2,hfz14_3,hfz14_4,hfz14_5,hfz14_6,hfz14_7,hfz14_8⟩:=cs56_ HI0;have hpx15:0≤t615:=od_;have hqx15:t615<6:=od_;have hax15:=ax6_ t615 (od_) (od_);have hcx15:w13.cell? ⟨g,3+t615.toNat,none⟩=some (.bool (rdOf false [t609,t610,t611,t612,t613,t614] t615)):=(blk_cell HI0.out.1 (3+t615.toNat)).trans (by rcases hax15 with h_|h_|h_|h_|h_|h_ <;> (rw[h_];rfl));clear hax15;(try rw[← Nbq7.out] at hcx15);have hfx16:=blk_frozen HI0.out.1 (3+t615.toNat);have hqx16_0:0≤t615:=od_;have hqx16_1:t615<6:=od_;have hax16:=ax6_ t615 (od_) (od_);have hcx16:w13.cell? ⟨g,3+t615.toNat,none⟩=some (.bool (rdOf false [t609,t610,t611,t612,t613,t614] t615)):=(blk_cell HI0.out.1 (3+t615.toNat)).trans (by rcases hax16 with h_|h_|h_|h_|h_|h_ <;> (rw[h_];rfl));clear hax16)|((with_reducible refine gate_store (t:=4) (p:=37) rfl ?_);refine store_event (t:=4) (p:=37) (v:=?vo_w17) (w1:=(w13.setCell ⟨g,3+t615.toNat,none⟩ (.bool true))) ?hg ?ho ?hn ?hr ?_;(case ho=>rfl);(case hg=>rfl);(case hn=>rfl);(case hr=>first|(go_simp;done)|(go_simp;rfl));intro w17 hw;have n0_:Aside0 (w17.heap[gb604]? = some (.cells #[.int .i64 0,.slice none 0 0,.string (⟨#[]⟩:ByteArray)] 32 (0,0))):=⟨(by rw[hw];exact((bf_ BK604).out))⟩;have n1_:Aside0 (IsS56 w0 w17 g t606 t607 t608 (if t615=0 then true else t609) (if t615=1 then true else t610) (if t615=2 then true else t611) (if t615=3 then true else t612) (if t615=4 then true else t613) (if t615=5 then true else t614)):=⟨(by rw[hw];exact(is56_ HI0))⟩;have n2_:Aside0 (KeepBut w w17 g none):=⟨(by rw[hw];exact(kp_ HK))⟩;have n3_:Aside0 (Below w0.heap.size w0 w17):=⟨(by rw[hw];exact(bs56_ HB HI0))⟩;clear hw;clear BK604;clear HI0;clear HK;clear HB;have BK604:=n0_;have HI0:=n1_;have HK:=n2_;have HB:=n3_;clear n0_ n1_ n2_ n3_;obtain⟨hcz18_0,hcz18_1,hcz18_2,hcz18_3,hcz18_4,hcz18_5,hcz18_6,hcz18_7,hcz18_8,hfz18_0,hfz18_1,hfz18_2,hfz18_3,hfz18_4,hfz18_5,hfz18_6,hfz18_7,hfz18_8⟩:=cs56_ HI0))
   (try simp only[Act.put,List.setIfInBounds_toArray,List.set_cons_zero,List.set_cons_succ])
   go_cut [] (fun wc=>∃(kq:Nat) (x1000_8:ByteArray) (x1001_8:Int) (x1002_8:Int) (x1003_8:Bool) (x1004_8:Bool) (x1005_8:Bool) (x1006_8:Bool) (x1007_8:Bool) (x1008_8:Bool),Aside0 (rule_reader_rule.j0 kq t615 x1000_8 x1001_8 x1002_8 x1003_8 x1004_8 x1005_8 x1006_8 x1007_8 x1008_8=some (r1,r2,r3,r4,r5,r6,r7,r8,r9,r10,r11,r12))∧Aside0 (kq≤k)∧Aside0 (wc.heap[gb604]? = some (.cells #[.int .i64 0,(.slice none 0 0),.string (⟨#[]⟩:ByteArray)] 32 (0,0)))∧Aside0 (IsS56 w0 wc g x1000_8 x1001_8 x1002_8 x1003_8 x1004_8 x1005_8 x1006_8 x1007_8 x1008_8)∧Aside0 (KeepBut w wc g none)∧Aside0 (Below w0.heap.size w0 wc))
   case first =>
    have H:=HC9.out
    clear HC9
    replace H:=Option.bind_eq_some_iff.mp H
    obtain⟨⟨t617,t618,t619,t620,t621,t622,t623,t624,t625⟩,A190,H⟩:=H
    dsimp only at H
    have A19:=Aside0.mk A190
    clear A190
    have H':=Aside0.mk H
    clear H
    go_wp2_with (first|((with_reducible refine gate_callee (f:=28) rfl ?_);refine gl_ (some 48) Tryd.func28 #[.pointer (some ⟨g,0,none⟩),.string (⟨#[58]⟩:ByteArray)] ?_;(with_reducible refine(rule_reader_want.calls _ _ _ _ _ _ _ _ _ _ _ _ _ _ _ _ _ _ _ _ _ w0 _ ?side1 ?side2 A19.out).mono ?_);(case side1=>exact is56_ HI0);(case side2=>exact bs56_ HB HI0);rintro e w20 ⟨rfl,hi,hb,hk⟩;refine⟨_,rfl,?_⟩;have n0_:=Aside0.mk (KeepBut.blk hk (g':=gb604) (o:= .cells #[.int .i64 0,.slice none 0 0,.string (⟨#[]⟩:ByteArray)] 32 (0,0)) ((bf_ BK604).out) NB604_0.out (by simp));have n1_:=Aside0.mk (KeepBut.trans (kp_ HK) hk (.inl rfl));have n2_:=Aside0.mk (hb);have n3_:=Aside0.mk (hi);clear BK604;clear HK;clear HB;clear HI0;have BK604:=n0_;have HK:=n1_;have HB:=n2_;have HI0:=n3_;clear n0_ n1_ n2_ n3_;(try clear hb);(try clear hk);(try clear hi)))
    go_meet
    case rel=>exact⟨_,(t617),(t618),(t619),(t620),(t621),(t622),(t623),(t624),(t625),H',⟨by first|omega|exact Nat.le_refl _⟩,(bk_ BK604),⟨is56_ HI0⟩,⟨kp_ HK⟩,⟨bs56_ HB HI0⟩⟩
   case rest =>
    clear HC9
    obtain⟨kq,x1000_8,x1001_8,x1002_8,x1003_8,x1004_8,x1005_8,x1006_8,x1007_8,x1008_8,HA,HJ8,BK604,HI0,HK,HB⟩:=hcut
    cases kq with
    | zero=>exact absurd HA.out (by simp[rule_reader_rule.j0])
    | succ kj8 =>
     have H:=HA.out
     clear HA
     simp only[rule_reader_rule.j0] at H
     by_cases c21:t615=5
     ·rw[if_pos c21] at H
      have c21b0:(t615==5)=true:=beq_iff_eq.mpr c21
      have c21b1:(t615 !=5)=false:=bne_eq_false_iff_eq.mpr c21
      clear c21
      replace H:=Option.bind_eq_some_iff.mp H
      obtain⟨⟨t627,t628,t629,t630,t631,t632,t633,t634,t635,t636⟩,A220,H⟩:=H
      dsimp only at H
      have A22:=Aside0.mk A220
      clear A220
      simp only[Option.some.injEq,Prod.mk.injEq] at H
      obtain⟨rfl,rfl,rfl,rfl,rfl,rfl,rfl,rfl,rfl,rfl,rfl,rfl⟩:=H
      go_wp2_with (first|((with_reducible refine gate_dst (N:=7) rfl ?_);refine be_ 7 #[.int .i64 0,.slice none 0 0,.string (⟨#[]⟩:ByteArray)] 32 ?_;intro gb626 hg w23 hbox hb;have n0_:=bb_ BK604 hb;have n1_:=Aside0.mk (IsS56.below (is56_ HI0) hb);have n2_:=Aside0.mk (KeepBut.trans (kp_ HK) (KeepBut.of_below hb g none) (.inl rfl));have n3_:=Aside0.mk (below_step (bs56_ HB HI0) hb);have n4_:=Aside0.mk (hbox);have n5_:=Aside0.mk ((by rw[hg];exact(keep_size (w:=w) (g:=g) (row:=none) (kp_ HK)):w.heap.size≤gb626));have n6_:=Aside0.mk ((Nat.le_trans HW0.out (by rw[hg];exact(keep_size (w:=w) (g:=g) (row:=none) (kp_ HK)):w.heap.size≤gb626):w0.heap.size≤gb626));have n7_:=na_ BK604 hg;have n8_:=nb_ BK604 hg;have n9_:=Aside0.mk ((by rw[hg];exact Nat.ne_of_lt (IsS56.lt (show IsS56 w0 _ g x1000_8 x1001_8 x1002_8 x1003_8 x1004_8 x1005_8 x1006_8 x1007_8 x1008_8 from is56_ HI0)):g≠gb626));have n10_:=Aside0.mk ((by rw[hg];exact Nat.ne_of_gt (IsS56.lt (show IsS56 w0 _ g x1000_8 x1001_8 x1002_8 x1003_8 x1004_8 x1005_8 x1006_8 x1007_8 x1008_8 from is56_ HI0)):gb626≠g));clear BK604;clear HI0;clear HK;clear HB;have BK604:=n0_;have HI0:=n1_;have HK:=n2_;have HB:=n3_;have BK626:=n4_;have GW626:=n5_;have GE626:=n6_;have NB604_626:=n7_;have NB626_604:=n8_;have NB0_626:=n9_;have NB626_0:=n10_;clear n0_ n1_ n2_ n3_ n4_ n5_ n6_ n7_ n8_ n9_ n10_;clear hb hbox hg;have hnb24:=NB626_604.out;have hnc24:=NB604_626.out;have hnb25:=NB626_0.out;have hnc25:=NB0_626.out;obtain⟨hcz26_0,hcz26_1,hcz26_2,hfz26_0,hfz26_1,hfz26_2⟩:=bo3_ BK626)|((with_reducible refine gate_callee (f:=31) rfl ?_);refine gl_ (some 70) Tryd.func31 #[.pointer (some ⟨g,0,none⟩)] ?_;(with_reducible refine(rule_reader_sample.calls _ _ _ _ _ _ _ _ _ _ _ _ _ _ _ _ _ _ _ _ _ w0 _ ?side1 ?side2 A22.out).mono ?_);(case side1=>exact is56_ HI0);(case side2=>exact bs56_ HB HI0);rintro e w27 ⟨rfl,hi,hb,hk⟩;refine⟨_,rfl,?_⟩;have n0_:=Aside0.mk (KeepBut.blk hk (g':=gb604) (o:= .cells #[.int .i64 0,.slice none 0 0,.string (⟨#[]⟩:ByteArray)] 32 (0,0)) ((bf_ BK604).out) NB604_0.out (by simp));have n1_:=Aside0.mk (KeepBut.blk hk (g':=gb626) (o:= .cells #[.int .i64 t615,.slice none 0 0,.string (⟨#[]⟩:ByteArray)] 32 (0,0)) ((bp_ BK626).out) NB626_0.out (by simp));have n2_:=Aside0.mk (KeepBut.trans (kp_ HK) hk (.inl rfl));have n3_:=Aside0.mk (hb);have n4_:=Aside0.mk (hi);clear BK604;clear BK626;clear HK;clear HB;clear HI0;have BK604:=n0_;have BK626:=n1_;have HK:=n2_;have HB:=n3_;have HI0:=n4_;clear n0_ n1_ n2_ n3_ n4_;(try clear hb);(try clear hk);(try clear hi);obtain⟨hcz28_0,hcz28_1,hcz28_2,hfz28_0,hfz28_1,hfz28_2⟩:=bo3_ BK626;have hnb29:=NB604_0.out;have hnc29:=NB0_604.out;obtain⟨hcz30_0,hcz30_1,hcz30_2,hfz30_0,hfz30_1,hfz30_2⟩:=bo3_ BK604))
      refine bodyPost_ret (results_cell_row rfl _ _ gb604 32 #[.int .i64 t615,.slice none 0 0,.string t627] (0,0) _ rfl ((bp_ BK604).out) Tryd.underlying32 rfl (by kernel_rfl)) rfl ?_
      exact⟨_,by first|rfl|(simp[errW_none,errW_some] <;> rfl)|(simp[*,errW_none,errW_some] <;> first|rfl|exact given_isEmpty _|exact(given_isEmpty _).symm),by first|exact Kd.R_nil _ _ _ _ _|exact Kd.N_nil _ _ _ _ _|exact Kd.V_nil _ _ _ _ _|exact Kd.Q_nil _ _ _ _ _|exact Kd.S_nil _ _ _ _ _,is56_ HI0,bs56_ HB HI0,kp_ HK⟩
     ·rw[if_neg c21] at H
      have c21b0:(t615==5)=false:=beq_eq_false_iff_ne.mpr c21
      have c21b1:(t615 !=5)=true:=bne_iff_ne.mpr c21
      replace H:=Option.bind_eq_some_iff.mp H
      obtain⟨⟨t637,t640,t641,t642,t643,t644,t645,t646,t647,t648⟩,A310,H⟩:=H
      dsimp only at H
      have A31:=Aside0.mk A310
      clear A310
      replace H:=ifn_ H
      obtain⟨c32,H⟩:=H
      have LMc32:=Aside0.mk c32
      clear c32
      obtain⟨y649,hy649⟩:∃y_:List (List (S36)),y_=(([]:List (List (S36)))++[t637]):=⟨_,rfl⟩
      replace H:(rule_reader_rule.l0 kj8 t640 t641 t642 t643 t644 t645 t646 t647 t648 t615 y649 (⟨#[]⟩:ByteArray))=some (r1,r2,r3,r4,r5,r6,r7,r8,r9,r10,r11,r12):=by first|(rw[hy649];with_reducible exact H)|(have H2_:=(Option.bind_some _ _).symm.trans H;rw[hy649];with_reducible exact H2_)|(have H2_:=(Option.bind_some _ _).symm.trans H;with_reducible exact H2_)|with_reducible exact H|(rw[hy649];exact H)|exact H
      have Ny649:=Aside0.mk hy649
      clear hy649
      have H':=Aside0.mk H
      clear H
      try go_wp2_with (first|((with_reducible refine gate_dst (N:=7) rfl ?_);refine be_ 7 #[.int .i64 0,.slice none 0 0,.string (⟨#[]⟩:ByteArray)] 32 ?_;intro gb626 hg w33 hbox hb;have n0_:=bb_ BK604 hb;have n1_:=Aside0.mk (IsS56.below (is56_ HI0) hb);have n2_:=Aside0.mk (KeepBut.trans (kp_ HK) (KeepBut.of_below hb g none) (.inl rfl));have n3_:=Aside0.mk (below_step (bs56_ HB HI0) hb);have n4_:=Aside0.mk (hbox);have n5_:=Aside0.mk ((by rw[hg];exact(keep_size (w:=w) (g:=g) (row:=none) (kp_ HK)):w.heap.size≤gb626));have n6_:=Aside0.mk ((Nat.le_trans HW0.out (by rw[hg];exact(keep_size (w:=w) (g:=g) (row:=none) (kp_ HK)):w.heap.size≤gb626):w0.heap.size≤gb626));have n7_:=na_ BK604 hg;have n8_:=nb_ BK604 hg;have n9_:=Aside0.mk ((by rw[hg];exact Nat.ne_of_lt (IsS56.lt (show IsS56 w0 _ g x1000_8 x1001_8 x1002_8 x1003_8 x1004_8 x1005_8 x1006_8 x1007_8 x1008_8 from is56_ HI0)):g≠gb626));have n10_:=Aside0.mk ((by rw[hg];exact Nat.ne_of_gt (IsS56.lt (show IsS56 w0 _ g x1000_8 x1001_8 x1002_8 x1003_8 x1004_8 x1005_8 x1006_8 x1007_8 x1008_8 from is56_ HI0)):gb626≠g));clear BK604;clear HI0;clear HK;clear HB;have BK604:=n0_;have HI0:=n1_;have HK:=n2_;have HB:=n3_;have BK626:=n4_;have GW626:=n5_;have GE626:=n6_;have NB604_626:=n7_;have NB626_604:=n8_;have NB0_626:=n9_;have NB626_0:=n10_;clear n0_ n1_ n2_ n3_ n4_ n5_ n6_ n7_ n8_ n9_ n10_;clear hb hbox hg;have hnb34:=NB626_604.out;have hnc34:=NB604_626.out;have hnb35:=NB626_0.out;have hnc35:=NB0_626.out;obtain⟨hcz36_0,hcz36_1,hcz36_2,hfz36_0,hfz36_1,hfz36_2⟩:=bo3_ BK626))
      obtain⟨w37,hWz1⟩:∃W_,W_=(((w33.setCell ⟨gb626,0,none⟩ (.int .i64 t615)).setCell ⟨gb626,1,none⟩ (.slice none 0 0)).setCell ⟨gb626,2,none⟩ (.string (⟨#[]⟩:ByteArray))):=⟨_,rfl⟩
      have n0_:=wh_ hWz1 (bf_ BK604)
      have n1_:Aside0 (w37.heap[gb626]? = some (.cells #[.int .i64 t615,.slice none 0 0,.string (⟨#[]⟩:ByteArray)] 32 (0,0))):=by rw[hWz1];exact⟨(bp_ BK626).out⟩
      have n2_:Aside0 (IsS56 w0 w37 g x1000_8 x1001_8 x1002_8 x1003_8 x1004_8 x1005_8 x1006_8 x1007_8 x1008_8):=by rw[hWz1];exact⟨is56_ HI0⟩
      have n3_:Aside0 (KeepBut w w37 g none):=by rw[hWz1];exact⟨kp_ HK⟩
      have n4_:Aside0 (Below w0.heap.size w0 w37):=by rw[hWz1];exact⟨bs56_ HB HI0⟩
      (try clear BK604)
      (try clear BK626)
      (try clear HI0)
      (try clear HK)
      (try clear HB)
      rw[← hWz1]
      clear hWz1
      have BK604:=n0_
      have BK626:=n1_
      have HI0:=n2_
      have HK:=n3_
      have HB:=n4_
      clear n0_ n1_ n2_ n3_ n4_
      replace BK604:=Aside0.mk (blk_drew BK604.out)
      replace BK626:=Aside0.mk (blk_drew BK626.out)
      replace HI0:=Aside0.mk (IsS56.drew HI0.out)
      replace HK:=Aside0.mk (keep_drew HK.out)
      replace HB:=Aside0.mk (below_drew1 HB.out)
      refine start_ (n:=8) (S:=fun w'=>w'.cell? ⟨gb626,0,none⟩=some (.int .i64 t615)∧w'.cell? ⟨gb626,1,none⟩=some (.slice none 0 0)∧w'.cell? ⟨gb626,2,none⟩=some (.string (⟨#[]⟩:ByteArray))) (ds:=[7]) #[false,false,false,false,false,false,false,false] (by kernel_rfl) rfl rfl ⟨bc_ BK626 0,bc_ BK626 1,bc_ BK626 2⟩ (fun hHeld=>?_);refine with_tabW rule_reader_rule.tab13 rule_reader_rule.bits13 (fun HT_ HW_=>?_)
      generalize w37.drew=w38 at BK604 BK626 HI0 HK HB hHeld ⊢
      refine pu_ 0 53 #[true,false,false,false,false,false,false,false] HT_ ?_
      refine pu_ 2 55 #[true,false,true,false,false,false,false,false] HT_ ?_
      refine tk_ 1 54 #[true,true,true,false,false,false,false,false] HT_ HW_ hHeld rfl (by rintro w' ⟨s0,s1,s2⟩;go_simp;with_reducible rfl) ?_
      refine one_ (i:=3) (N:=some 56) #[true,true,true,true,false,false,false,false] rfl rfl (one_of HT_.out (by kernel_rfl)) (by decide) (fun K hK=>?_)
      refine gs_ Tryd.func29 #[.pointer (some ⟨g,0,none⟩)] ?_
      with_reducible refine(rule_reader_all.calls _ _ _ _ _ _ _ _ _ _ _ _ _ _ _ _ _ _ _ _ _ w0 _ ?side1 ?side2 A31.out).mono ?_
      (case side1=>exact is56_ HI0)
      (case side2=>exact bs56_ HB HI0)
      rintro e w39 ⟨v638,rfl,ho0,hi,hb,hk⟩
      refine⟨_,rfl,?_⟩
      have n0_:=Aside0.mk (KeepBut.blk hk (bk_ BK604).out NB604_0.out (by simp))
      have n1_:=Aside0.mk (KeepBut.blk hk (bk_ BK626).out NB626_0.out (by simp))
      have n2_:=Aside0.mk (Kd.N_lower (Kd.N_mono (ok':=fun k_=>(w.heap.size≤k_)∧k_≠gb604∧k_≠gb626∧k_≠g) ho0 (fun k_ hk_=>⟨(Nat.le_trans (keep_size (w:=w) (g:=g) (row:=none) (kp_ HK)) hk_),(Kd.freshB (bk_ BK604).out k_ hk_),(Kd.freshB (bk_ BK626).out k_ hk_),(IsS56.fresh (is56_ HI0) k_ hk_)⟩)) (keep_size (w:=w) (g:=g) (row:=none) (kp_ HK)))
      have n3_:=Aside0.mk (KeepBut.trans (kp_ HK) hk (.inl rfl))
      have n4_:=Aside0.mk (hb)
      have n5_:=Aside0.mk (hi)
      clear BK604
      clear BK626
      clear HK
      clear HB
      clear HI0
      have BK604:=n0_
      have BK626:=n1_
      have HO639:=n2_
      have HK:=n3_
      have HB:=n4_
      have HI0:=n5_
      clear n0_ n1_ n2_ n3_ n4_ n5_
      (try clear hb)
      (try clear hb2)
      (try clear hk)
      (try clear hi)
      (try clear ho0)
      obtain⟨Ao41,co41,eo41⟩:=Kd.N_slice HO639.out
      (first|subst eo41|(injection eo41 with f1_ f2_ f3_;have f4_:=f1_.symm;have f5_:=f3_.symm;clear f1_ f2_ f3_;subst f4_;subst f5_))
      refine hK.out _ _ ⟨bc_ BK626 0,bc_ BK626 1,bc_ BK626 2⟩ (fun hHeld=>?_)
      clear hK K
      refine nm_ 56 ?_
      refine one_ (i:=4) (N:=some 57) #[true,true,true,true,true,false,false,false] rfl rfl (one_of HT_.out (by kernel_rfl)) (by decide) (fun K hK=>?_)
      refine value_ (w1:=?_) (v:=?_) (by rfl) rfl ?_ ?_
      rotate_left 2
      ·go_simp
       constructor
       ·rfl
       ·rfl
      refine hK.out _ _ ⟨(blk_cell (blk_alloc BK626.out _) 0).trans rfl,(blk_cell (blk_alloc BK626.out _) 1).trans rfl,(blk_cell (blk_alloc BK626.out _) 2).trans rfl⟩ (fun hHeld=>?_)
      clear hK K
      refine nm_ 57 ?_
      refine one_ (i:=5) (N:=some 58) #[true,true,true,true,true,true,false,false] rfl rfl (one_of HT_.out (by kernel_rfl)) (by decide) (fun K hK=>?_)
      refine Kd.N_append_step (Kd.slice 36 k36) w.heap.size (by rfl) (.tmp 54) (.tmp 57) 30 33 (.slice none 0 0) 24 rfl Tryd.underlying30 info33 rfl (by decide) (by omega) (.slice none 0 0) ([]:List (List (S36))) t637 [.slice Ao41 t637.length co41] (fun k_=>(w.heap.size≤k_)∧k_≠gb604∧k_≠gb626∧k_≠g) (fun k_=>((fun k_=>(w.heap.size≤k_)∧k_≠gb604∧k_≠gb626∧k_≠g)) k_∧some k_≠(.slice none 0 0:Value).ownBlock) rfl rfl ?aP (fun _ hk=>hk) ?aF ?aO (Below.refl _ _) ?aS ?aL ?_
      (case aP=>exact(Kd.FK_slice_mk (Kd.N_reads' (Kd.N_mono (ok':=(fun k_=>((fun k_=>(w.heap.size≤k_)∧k_≠gb604∧k_≠gb626∧k_≠g)) k_∧some k_≠(.slice none 0 0:Value).ownBlock)) (HO639.out) (fun k_ hk=>⟨⟨hk.1,⟨hk.2.1,⟨hk.2.2.1,hk.2.2.2⟩⟩⟩,(by simp[Value.ownBlock])⟩))).2.1 (Kd.N_F (Kd.N_mono (ok':=(fun k_=>((fun k_=>(w.heap.size≤k_)∧k_≠gb604∧k_≠gb626∧k_≠g)) k_∧some k_≠(.slice none 0 0:Value).ownBlock)) (HO639.out) (fun k_ hk=>⟨⟨hk.1,⟨hk.2.1,⟨hk.2.2.1,hk.2.2.2⟩⟩⟩,(by simp[Value.ownBlock])⟩)))))
      (case aF=>exact(fun k_ hk=>⟨(Nat.le_trans (keep_size (w:=w) (g:=g) (row:=none) (kp_ HK)) hk),Kd.freshB (bk_ BK604).out k_ hk,Kd.freshB (bk_ BK626).out k_ hk,IsS56.fresh (is56_ HI0) k_ hk⟩))
      (case aO=>exact((Kd.N_nil _ _ _ _ (fun k_=>(w.heap.size≤k_)∧k_≠gb604∧k_≠gb626∧k_≠g))))
      (case aS=>exact(keep_size (w:=w) (g:=g) (row:=none) (kp_ HK)))
      (case aL=>have:=LMc32.out;omega)
      intro v650 w40 ho hb hg hat
      rw[← Ny649.out] at ho
      have n0_:=Aside0.mk (blk_grown (bk_ BK604).out hg (by simp[Value.ownBlock]))
      have n1_:=Aside0.mk (IsS56.grown (is56_ HI0) hg (by simp[Value.ownBlock]))
      have n2_:=Aside0.mk (blk_grown (bk_ BK626).out hg (by simp[Value.ownBlock]))
      have n3_:=Aside0.mk (below_weaken (bs56_ HB HI0) HL.out hb)
      have n4_:=Aside0.mk (KeepBut.trans (kp_ HK) (KeepBut.of_grown hg g) (.inl (by simp[Value.ownBlock])))
      have n5_:=Aside0.mk (ho)
      clear BK604
      clear HI0
      clear BK626
      clear HB
      clear HK
      clear HO639
      have BK604:=n0_
      have HI0:=n1_
      have BK626:=n2_
      have HB:=n3_
      have HK:=n4_
      have HO651:=n5_
      clear n0_ n1_ n2_ n3_ n4_ n5_
      clear ho hb hg hat
      obtain⟨Ao42,co42,eo42⟩:=Kd.N_slice HO651.out
      (first|subst eo42|(injection eo42 with f1_ f2_ f3_;have f4_:=f1_.symm;have f5_:=f3_.symm;clear f1_ f2_ f3_;subst f4_;subst f5_))
      refine hK.out _ _ ⟨bc_ BK626 0,bc_ BK626 1,bc_ BK626 2⟩ (fun hHeld=>?_)
      clear hK K
      refine nm_ 58 ?_
      refine pu_ 6 59 #[true,true,true,true,true,true,true,false] HT_ ?_
      refine last_ (i:=7) (N:=none) #[true,true,true,true,true,true,true,true] rfl rfl (one_of HT_.out (by kernel_rfl)) (by decide) (fun K hK=>?_)
      have hs43:w40.cell? ⟨gb626,1,none⟩=some (.slice none 0 0):=bc_ BK626 1
      have hfs43:=blk_frozen BK626.out 1
      have hns43_0:=NB604_626.out
      have hms43_0:=NB626_604.out
      refine skip_ (w1:=?_) (by rfl) rfl ?_ ?_
      rotate_left
      ·go_simp
       rfl
      refine hK.out _ _ ?_
      clear hK K
      refine done_ (done_of HT_.out (by kernel_rfl)) ?_
      try go_wp2
      go_loopg [] kj8 (fun kq w'=>∃(x1000_2:ByteArray) (x1001_2:Int) (x1002_2:Int) (x1003_2:Bool) (x1004_2:Bool) (x1005_2:Bool) (x1006_2:Bool) (x1007_2:Bool) (x1008_2:Bool) (x627001_2:List (List (S36))) (u627001:Value),Aside0 (rule_reader_rule.l0 kq x1000_2 x1001_2 x1002_2 x1003_2 x1004_2 x1005_2 x1006_2 x1007_2 x1008_2 t615 x627001_2 (⟨#[]⟩:ByteArray)=some (r1,r2,r3,r4,r5,r6,r7,r8,r9,r10,r11,r12))∧Aside0 (kq≤kj8)∧Aside0 (Kd.N (Kd.slice 36 k36) 33 w' w.heap.size (fun k_=>(w.heap.size≤k_)∧k_≠gb604∧k_≠gb626∧k_≠g) u627001 x627001_2)∧Aside0 (w'.heap[gb604]? = some (.cells #[.int .i64 0,(.slice none 0 0),.string (⟨#[]⟩:ByteArray)] 32 (0,0)))∧Aside0 (w'.heap[gb626]? = some (.cells #[.int .i64 t615,u627001,.string (⟨#[]⟩:ByteArray)] 32 (0,0)))∧Aside0 (IsS56 w0 w' g x1000_2 x1001_2 x1002_2 x1003_2 x1004_2 x1005_2 x1006_2 x1007_2 x1008_2)∧Aside0 (KeepBut w w' g none)∧Aside0 (Below w0.heap.size w0 w'))
      case atStart=>exact⟨(t640),(t641),(t642),(t643),(t644),(t645),(t646),(t647),(t648),(y649),(.slice Ao42 y649.length co42),H',⟨Nat.le_refl _⟩,⟨kdN_ (Kd.N_mono (Kd.N_far (Kd.N_mono HO651.out (fun k_ hk=>(⟨hk,hk.2.2.1⟩:_∧k_≠gb626))) (fun _ hk=>hk.2) _) (fun _ hk=>⟨hk.1.1,⟨hk.1.2.1,⟨hk.1.2.2.1,hk.1.2.2.2⟩⟩⟩))⟩,⟨(bf_ BK604).out⟩,⟨(bp_ BK626).out⟩,⟨is56_ HI0⟩,⟨kp_ HK⟩,⟨bs56_ HB HI0⟩⟩
      case round =>
       clear H'
       obtain⟨x1000_2,x1001_2,x1002_2,x1003_2,x1004_2,x1005_2,x1006_2,x1007_2,x1008_2,x627001_2,u627001,HA,HK2,HO_627001,BK604,BK626,HI0,HK,HB⟩:=hrel
       cases gk with
       | zero=>exact absurd HA.out (by simp[rule_reader_rule.l0])
       | succ k2 =>
        have H:=HA.out
        clear HA
        simp only[rule_reader_rule.l0] at H
        replace H:=Option.bind_eq_some_iff.mp H
        obtain⟨⟨t652,t653,t654,t655,t656,t657,t658,t659,t660,t661⟩,A440,H⟩:=H
        dsimp only at H
        have A44:=Aside0.mk A440
        clear A440
        by_cases c45:t652=true
        ·subst c45
         have H1:((rule_reader_all.f k2 t653 t654 t655 t656 t657 t658 t659 t660 t661).bind fun bt662=>(if x627001_2.length<5864062014805 then (rule_reader_rule.l0 k2 bt662.2.1 bt662.2.2.1 bt662.2.2.2.1 bt662.2.2.2.2.1 bt662.2.2.2.2.2.1 bt662.2.2.2.2.2.2.1 bt662.2.2.2.2.2.2.2.1 bt662.2.2.2.2.2.2.2.2.1 bt662.2.2.2.2.2.2.2.2.2 t615 (x627001_2++[bt662.1]) (⟨#[]⟩:ByteArray)) else (none)))=some (r1,r2,r3,r4,r5,r6,r7,r8,r9,r10,r11,r12):=by rw[if_pos rfl] at H;exact H
         clear H
         have H:=H1
         clear H1
         replace H:=Option.bind_eq_some_iff.mp H
         obtain⟨⟨t662,t665,t666,t667,t668,t669,t670,t671,t672,t673⟩,A460,H⟩:=H
         dsimp only at H
         have A46:=Aside0.mk A460
         clear A460
         replace H:=ifn_ H
         obtain⟨c47,H⟩:=H
         have LMc47:=Aside0.mk c47
         clear c47
         obtain⟨y674,hy674⟩:∃y_:List (List (S36)),y_=(x627001_2++[t662]):=⟨_,rfl⟩
         replace H:(rule_reader_rule.l0 k2 t665 t666 t667 t668 t669 t670 t671 t672 t673 t615 y674 (⟨#[]⟩:ByteArray))=some (r1,r2,r3,r4,r5,r6,r7,r8,r9,r10,r11,r12):=by first|(rw[hy674];with_reducible exact H)|(have H2_:=(Option.bind_some _ _).symm.trans H;rw[hy674];with_reducible exact H2_)|(have H2_:=(Option.bind_some _ _).symm.trans H;with_reducible exact H2_)|with_reducible exact H|(rw[hy674];exact H)|exact H
         have Ny674:=Aside0.mk hy674
         clear hy674
         have H':=Aside0.mk H
         clear H
         try go_wp2_with (first|((with_reducible refine gate_callee (f:=30) rfl ?_);refine gl_ (some 61) Tryd.func30 #[.pointer (some ⟨g,0,none⟩),.string (⟨#[111,114]⟩:ByteArray)] ?_;(with_reducible refine(rule_reader_next.calls _ _ _ _ _ _ _ _ _ _ _ _ _ _ _ _ _ _ _ _ _ _ w0 _ ?side1 ?side2 A44.out).mono ?_);(case side1=>exact is56_ HI0);(case side2=>exact bs56_ HB HI0);rintro e w48 ⟨rfl,hi,hb,hk⟩;refine⟨_,rfl,?_⟩;have n0_:=Aside0.mk (Kd.N_mono (Kd.N_keep (Kd.N_mono (ok:=fun k_=>(((w.heap.size≤k_))∧(k_≠gb604∧(k_≠gb626∧k_≠g)))) (krN_ HO_627001) (fun k_ hk_=>(⟨hk_,hk_.2.2.2⟩:_∧k_≠g))) hk (fun _ h=>h.2)) (fun _ h=>h.1));have n1_:=Aside0.mk (KeepBut.blk hk (bk_ BK604).out NB604_0.out (by simp));have n2_:=Aside0.mk (KeepBut.blk hk (bk_ BK626).out NB626_0.out (by simp));have n3_:=Aside0.mk (KeepBut.trans (kp_ HK) hk (.inl rfl));have n4_:=Aside0.mk (hb);have n5_:=Aside0.mk (hi);clear HO_627001;clear BK604;clear BK626;clear HK;clear HB;clear HI0;have HO_627001:=n0_;have BK604:=n1_;have BK626:=n2_;have HK:=n3_;have HB:=n4_;have HI0:=n5_;clear n0_ n1_ n2_ n3_ n4_ n5_;(try clear hb);(try clear hk);(try clear hi)))
         replace HO_627001:=Aside0.mk (Kd.N_drew HO_627001.out)
         replace BK604:=Aside0.mk (blk_drew BK604.out)
         replace BK626:=Aside0.mk (blk_drew BK626.out)
         replace HI0:=Aside0.mk (IsS56.drew HI0.out)
         replace HK:=Aside0.mk (keep_drew HK.out)
         replace HB:=Aside0.mk (below_drew1 HB.out)
         refine start_ (n:=8) (S:=fun w'=>w'.cell? ⟨gb626,0,none⟩=some (.int .i64 t615)∧w'.cell? ⟨gb626,1,none⟩=some (u627001)∧w'.cell? ⟨gb626,2,none⟩=some (.string (⟨#[]⟩:ByteArray))) (ds:=[7]) #[false,false,false,false,false,false,false,false] (by kernel_rfl) rfl rfl ⟨bc_ BK626 0,bc_ BK626 1,bc_ BK626 2⟩ (fun hHeld=>?_);refine with_tabW rule_reader_rule.tab15 rule_reader_rule.bits15 (fun HT_ HW_=>?_)
         generalize w48.drew=w49 at HO_627001 BK604 BK626 HI0 HK HB hHeld ⊢
         refine pu_ 0 62 #[true,false,false,false,false,false,false,false] HT_ ?_
         refine pu_ 2 64 #[true,false,true,false,false,false,false,false] HT_ ?_
         refine tk_ 1 63 #[true,true,true,false,false,false,false,false] HT_ HW_ hHeld rfl (by rintro w' ⟨s0,s1,s2⟩;go_simp;with_reducible rfl) ?_
         refine one_ (i:=3) (N:=some 65) #[true,true,true,true,false,false,false,false] rfl rfl (one_of HT_.out (by kernel_rfl)) (by decide) (fun K hK=>?_)
         refine gs_ Tryd.func29 #[.pointer (some ⟨g,0,none⟩)] ?_
         with_reducible refine(rule_reader_all.calls _ _ _ _ _ _ _ _ _ _ _ _ _ _ _ _ _ _ _ _ _ w0 _ ?side1 ?side2 A46.out).mono ?_
         (case side1=>exact is56_ HI0)
         (case side2=>exact bs56_ HB HI0)
         rintro e w50 ⟨v663,rfl,ho0,hi,hb,hk⟩
         refine⟨_,rfl,?_⟩
         have n0_:=Aside0.mk (Kd.N_mono (Kd.N_told (Kd.N_oldK (Kd.N_mono (ok:=fun k_=>(((w.heap.size≤k_))∧(k_≠gb604∧(k_≠gb626∧k_≠g)))) (krN_ HO_627001) (fun k_ hk_=>(⟨hk_,hk_.2.2.2⟩:_∧k_≠g))) hk) (Kd.N_base ho0)) (fun _ h_=>h_.1))
         have n1_:=Aside0.mk (KeepBut.blk hk (bk_ BK604).out NB604_0.out (by simp))
         have n2_:=Aside0.mk (KeepBut.blk hk (bk_ BK626).out NB626_0.out (by simp))
         have n3_:=Aside0.mk (Kd.N_lower (Kd.N_mono (ok':=fun k_=>(w.heap.size≤k_)∧some k_≠(u627001:Value).ownBlock∧k_≠gb604∧k_≠gb626∧k_≠g) ho0 (fun k_ hk_=>⟨(Nat.le_trans (keep_size (w:=w) (g:=g) (row:=none) (kp_ HK)) hk_),(Kd.fresh' (Kd.N_lt (krN_ HO_627001)) k_ hk_),(Kd.freshB (bk_ BK604).out k_ hk_),(Kd.freshB (bk_ BK626).out k_ hk_),(IsS56.fresh (is56_ HI0) k_ hk_)⟩)) (keep_size (w:=w) (g:=g) (row:=none) (kp_ HK)))
         have n4_:=Aside0.mk (KeepBut.trans (kp_ HK) hk (.inl rfl))
         have n5_:=Aside0.mk (hb)
         have n6_:=Aside0.mk (hi)
         clear HO_627001
         clear BK604
         clear BK626
         clear HK
         clear HB
         clear HI0
         have HO_627001:=n0_
         have BK604:=n1_
         have BK626:=n2_
         have HO664:=n3_
         have HK:=n4_
         have HB:=n5_
         have HI0:=n6_
         clear n0_ n1_ n2_ n3_ n4_ n5_ n6_
         (try clear hb)
         (try clear hb2)
         (try clear hk)
         (try clear hi)
         (try clear ho0)
         obtain⟨Ao52,co52,eo52⟩:=Kd.N_slice HO664.out
         (first|subst eo52|(injection eo52 with f1_ f2_ f3_;have f4_:=f1_.symm;have f5_:=f3_.symm;clear f1_ f2_ f3_;subst f4_;subst f5_))
         refine hK.out _ _ ⟨bc_ BK626 0,bc_ BK626 1,bc_ BK626 2⟩ (fun hHeld=>?_)
         clear hK K
         refine nm_ 65 ?_
         refine one_ (i:=4) (N:=some 66) #[true,true,true,true,true,false,false,false] rfl rfl (one_of HT_.out (by kernel_rfl)) (by decide) (fun K hK=>?_)
         refine value_ (w1:=?_) (v:=?_) (by rfl) rfl ?_ ?_
         rotate_left 2
         ·go_simp
          constructor
          ·rfl
          ·rfl
         refine hK.out _ _ ⟨(blk_cell (blk_alloc BK626.out _) 0).trans rfl,(blk_cell (blk_alloc BK626.out _) 1).trans rfl,(blk_cell (blk_alloc BK626.out _) 2).trans rfl⟩ (fun hHeld=>?_)
         clear hK K
         refine nm_ 66 ?_
         refine one_ (i:=5) (N:=some 67) #[true,true,true,true,true,true,false,false] rfl rfl (one_of HT_.out (by kernel_rfl)) (by decide) (fun K hK=>?_)
         refine Kd.N_append_step (Kd.slice 36 k36) w.heap.size (by rfl) (.tmp 63) (.tmp 66) 30 33 (.slice none 0 0) 24 rfl Tryd.underlying30 info33 rfl (by decide) (by omega) u627001 x627001_2 t662 [.slice Ao52 t662.length co52] (fun k_=>(w.heap.size≤k_)∧k_≠gb604∧k_≠gb626∧k_≠g) (fun k_=>((fun k_=>(w.heap.size≤k_)∧k_≠gb604∧k_≠gb626∧k_≠g)) k_∧some k_≠(u627001:Value).ownBlock) rfl rfl ?aP (fun _ hk=>hk) ?aF ?aO (Below.refl _ _) ?aS ?aL ?_
         (case aP=>exact(Kd.FK_slice_mk (Kd.N_reads' (Kd.N_mono (ok':=(fun k_=>((fun k_=>(w.heap.size≤k_)∧k_≠gb604∧k_≠gb626∧k_≠g)) k_∧some k_≠(u627001:Value).ownBlock)) (HO664.out) (fun k_ hk=>⟨⟨hk.1,⟨hk.2.2.1,⟨hk.2.2.2.1,hk.2.2.2.2⟩⟩⟩,hk.2.1⟩))).2.1 (Kd.N_F (Kd.N_mono (ok':=(fun k_=>((fun k_=>(w.heap.size≤k_)∧k_≠gb604∧k_≠gb626∧k_≠g)) k_∧some k_≠(u627001:Value).ownBlock)) (HO664.out) (fun k_ hk=>⟨⟨hk.1,⟨hk.2.2.1,⟨hk.2.2.2.1,hk.2.2.2.2⟩⟩⟩,hk.2.1⟩)))))
         (case aF=>exact(fun k_ hk=>⟨(Nat.le_trans (keep_size (w:=w) (g:=g) (row:=none) (kp_ HK)) hk),Kd.freshB (bk_ BK604).out k_ hk,Kd.freshB (bk_ BK626).out k_ hk,IsS56.fresh (is56_ HI0) k_ hk⟩))
         (case aO=>exact(kdN_ (Kd.N_mono HO_627001.out (fun _ hk=>⟨hk.1.1,⟨hk.1.2.1,⟨hk.1.2.2.1,hk.1.2.2.2⟩⟩⟩))))
         (case aS=>exact(keep_size (w:=w) (g:=g) (row:=none) (kp_ HK)))
         (case aL=>have:=LMc47.out;omega)
         intro v675 w51 ho hb hg hat
         rw[← Ny674.out] at ho
         have n0_:=Aside0.mk (blk_grown (bk_ BK604).out hg (Kd.N_ne HO_627001.out BK604.out (by decide)))
         have n1_:=Aside0.mk (blk_grown (bk_ BK626).out hg (Kd.N_ne HO_627001.out BK626.out (by decide)))
         have n2_:=Aside0.mk (IsS56.grown (is56_ HI0) hg (IsS56.own_neN HI0.out HO_627001.out (by decide)))
         have n3_:=Aside0.mk (below_weaken (bs56_ HB HI0) HL.out hb)
         have n4_:=Aside0.mk (KeepBut.trans (kp_ HK) (KeepBut.of_grown hg g) (Kd.N_base2 HO_627001.out))
         have n5_:=Aside0.mk (ho)
         clear BK604
         clear BK626
         clear HI0
         clear HB
         clear HK
         clear HO_627001
         clear HO664
         have BK604:=n0_
         have BK626:=n1_
         have HI0:=n2_
         have HB:=n3_
         have HK:=n4_
         have HO676:=n5_
         clear n0_ n1_ n2_ n3_ n4_ n5_
         clear ho hb hg hat
         obtain⟨Ao53,co53,eo53⟩:=Kd.N_slice HO676.out
         (first|subst eo53|(injection eo53 with f1_ f2_ f3_;have f4_:=f1_.symm;have f5_:=f3_.symm;clear f1_ f2_ f3_;subst f4_;subst f5_))
         refine hK.out _ _ ⟨bc_ BK626 0,bc_ BK626 1,bc_ BK626 2⟩ (fun hHeld=>?_)
         clear hK K
         refine nm_ 67 ?_
         refine pu_ 6 68 #[true,true,true,true,true,true,true,false] HT_ ?_
         refine last_ (i:=7) (N:=none) #[true,true,true,true,true,true,true,true] rfl rfl (one_of HT_.out (by kernel_rfl)) (by decide) (fun K hK=>?_)
         have hs54:w51.cell? ⟨gb626,1,none⟩=some (u627001):=bc_ BK626 1
         have hfs54:=blk_frozen BK626.out 1
         have hns54_0:=NB604_626.out
         have hms54_0:=NB626_604.out
         refine skip_ (w1:=?_) (by rfl) rfl ?_ ?_
         rotate_left
         ·go_simp
          rfl
         refine hK.out _ _ ?_
         clear hK K
         refine done_ (done_of HT_.out (by kernel_rfl)) ?_
         try go_wp2
         go_roundg k2
         case measure=>have:=HJ8.out;have:=HK2.out;omega
         case rel=>exact⟨(t665),(t666),(t667),(t668),(t669),(t670),(t671),(t672),(t673),(y674),(.slice Ao53 y674.length co53),H',⟨by have:=HJ8.out;have:=HK2.out;omega⟩,⟨kdN_ (Kd.N_mono (Kd.N_far (Kd.N_mono HO676.out (fun k_ hk=>(⟨hk,hk.2.2.1⟩:_∧k_≠gb626))) (fun _ hk=>hk.2) _) (fun _ hk=>⟨hk.1.1,⟨hk.1.2.1,⟨hk.1.2.2.1,hk.1.2.2.2⟩⟩⟩))⟩,⟨(bf_ BK604).out⟩,⟨(bp_ BK626).out⟩,⟨is56_ HI0⟩,⟨kp_ HK⟩,⟨bs56_ HB HI0⟩⟩
        ·replace c45:=Bool.eq_false_iff.mpr c45
         subst c45
         have H1:((rule_reader_sample.f k2 t653 t654 t655 t656 t657 t658 t659 t660 t661).bind fun bt677=>(some (t615,x627001_2,bt677.1,bt677.2.1,bt677.2.2.1,bt677.2.2.2.1,bt677.2.2.2.2.1,bt677.2.2.2.2.2.1,bt677.2.2.2.2.2.2.1,bt677.2.2.2.2.2.2.2.1,bt677.2.2.2.2.2.2.2.2.1,bt677.2.2.2.2.2.2.2.2.2)))=some (r1,r2,r3,r4,r5,r6,r7,r8,r9,r10,r11,r12):=by rw[if_neg (show ¬(false=true) by decide)] at H;exact H
         clear H
         have H:=H1
         clear H1
         replace H:=Option.bind_eq_some_iff.mp H
         obtain⟨⟨t677,t678,t679,t680,t681,t682,t683,t684,t685,t686⟩,A550,H⟩:=H
         dsimp only at H
         have A55:=Aside0.mk A550
         clear A550
         simp only[Option.some.injEq,Prod.mk.injEq] at H
         obtain⟨rfl,rfl,rfl,rfl,rfl,rfl,rfl,rfl,rfl,rfl,rfl,rfl⟩:=H
         go_wp2_with (first|((with_reducible refine gate_callee (f:=30) rfl ?_);refine gl_ (some 61) Tryd.func30 #[.pointer (some ⟨g,0,none⟩),.string (⟨#[111,114]⟩:ByteArray)] ?_;(with_reducible refine(rule_reader_next.calls _ _ _ _ _ _ _ _ _ _ _ _ _ _ _ _ _ _ _ _ _ _ w0 _ ?side1 ?side2 A44.out).mono ?_);(case side1=>exact is56_ HI0);(case side2=>exact bs56_ HB HI0);rintro e w56 ⟨rfl,hi,hb,hk⟩;refine⟨_,rfl,?_⟩;have n0_:=Aside0.mk (Kd.N_mono (Kd.N_keep (Kd.N_mono (ok:=fun k_=>(((w.heap.size≤k_))∧(k_≠gb604∧(k_≠gb626∧k_≠g)))) (krN_ HO_627001) (fun k_ hk_=>(⟨hk_,hk_.2.2.2⟩:_∧k_≠g))) hk (fun _ h=>h.2)) (fun _ h=>h.1));have n1_:=Aside0.mk (KeepBut.blk hk (bk_ BK604).out NB604_0.out (by simp));have n2_:=Aside0.mk (KeepBut.blk hk (bk_ BK626).out NB626_0.out (by simp));have n3_:=Aside0.mk (KeepBut.trans (kp_ HK) hk (.inl rfl));have n4_:=Aside0.mk (hb);have n5_:=Aside0.mk (hi);clear HO_627001;clear BK604;clear BK626;clear HK;clear HB;clear HI0;have HO_627001:=n0_;have BK604:=n1_;have BK626:=n2_;have HK:=n3_;have HB:=n4_;have HI0:=n5_;clear n0_ n1_ n2_ n3_ n4_ n5_;(try clear hb);(try clear hk);(try clear hi))|((with_reducible refine gate_callee (f:=31) rfl ?_);refine gl_ (some 70) Tryd.func31 #[.pointer (some ⟨g,0,none⟩)] ?_;(with_reducible refine(rule_reader_sample.calls _ _ _ _ _ _ _ _ _ _ _ _ _ _ _ _ _ _ _ _ _ w0 _ ?side1 ?side2 A55.out).mono ?_);(case side1=>exact is56_ HI0);(case side2=>exact bs56_ HB HI0);rintro e w57 ⟨rfl,hi,hb,hk⟩;refine⟨_,rfl,?_⟩;have n0_:=Aside0.mk (Kd.N_mono (Kd.N_keep (Kd.N_mono (ok:=fun k_=>(((w.heap.size≤k_))∧(k_≠gb604∧(k_≠gb626∧k_≠g)))) (krN_ HO_627001) (fun k_ hk_=>(⟨hk_,hk_.2.2.2⟩:_∧k_≠g))) hk (fun _ h=>h.2)) (fun _ h=>h.1));have n1_:=Aside0.mk (KeepBut.blk hk (bk_ BK604).out NB604_0.out (by simp));have n2_:=Aside0.mk (KeepBut.blk hk (bk_ BK626).out NB626_0.out (by simp));have n3_:=Aside0.mk (KeepBut.trans (kp_ HK) hk (.inl rfl));have n4_:=Aside0.mk (hb);have n5_:=Aside0.mk (hi);clear HO_627001;clear BK604;clear BK626;clear HK;clear HB;clear HI0;have HO_627001:=n0_;have BK604:=n1_;have BK626:=n2_;have HK:=n3_;have HB:=n4_;have HI0:=n5_;clear n0_ n1_ n2_ n3_ n4_ n5_;(try clear hb);(try clear hk);(try clear hi);have hnb58:=NB626_604.out;have hnc58:=NB604_626.out;have hnb59:=NB626_0.out;have hnc59:=NB0_626.out;obtain⟨hcz60_0,hcz60_1,hcz60_2,hfz60_0,hfz60_1,hfz60_2⟩:=bo3_ BK626;have hnb61:=NB604_0.out;have hnc61:=NB0_604.out;obtain⟨hcz62_0,hcz62_1,hcz62_2,hfz62_0,hfz62_1,hfz62_2⟩:=bo3_ BK604;obtain⟨Ao63,co63,eo63⟩:=Kd.N_slice HO_627001.out;subst eo63))
         refine bodyPost_ret (results_cell_row rfl _ _ gb604 32 #[.int .i64 t615,.slice Ao63 x627001_2.length co63,.string t677] (0,0) _ rfl ((bp_ BK604).out) Tryd.underlying32 rfl (by kernel_rfl)) rfl ?_
         exact⟨_,by first|rfl|(simp[errW_none,errW_some] <;> rfl)|(simp[*,errW_none,errW_some] <;> first|rfl|exact given_isEmpty _|exact(given_isEmpty _).symm),kdN_ (Kd.N_mono (Kd.N_far (Kd.N_far (Kd.N_far (Kd.N_far (Kd.N_mono (Kd.N_mono HO_627001.out (fun k_ hk=>(⟨hk,hk.2.2.1⟩:_∧k_≠gb626))) (fun k_ hk=>(⟨hk,hk.1.2.1⟩:_∧k_≠gb604))) (fun _ hk=>hk.1.2) (.string t677)) (fun _ hk=>hk.2) _) (fun _ hk=>hk.2) _) (fun _ hk=>hk.2) _) (fun _ hk=>hk.1.1.1)),is56_ HI0,bs56_ HB HI0,kp_ HK⟩
 ·replace c4:=Bool.eq_false_iff.mpr c4
  subst c4
  have H1:(none)=some (r1,r2,r3,r4,r5,r6,r7,r8,r9,r10,r11,r12):=by rw[if_neg (show ¬(false=true) by decide)] at H;exact H
  clear H
  have H:=H1
  clear H1
  exact absurd H (by simp)

end Go.Proofs.YtcokjmnkieakiaaDoor.P
