-- written by a program of this session (wip/p2)
import Derived.Test.YtcokjmnkieakiaaDoorPx0
import Derived.Test.YtcokjmnkieakiaaDoorPx1
namespace Go.Proofs.YtcokjmnkieakiaaDoor.P
open Go.RowKit Go.Proofs.YtcokjmnkieakiaaDoorW.PrintWords Go.Proofs.YtcokjmnkieakiaaDoorW.PrintLast Go.Proofs.YtcokjmnkieakiaaDoorW.PrintMore
attribute [local go_sem] max2_int min2_int max_two min_two max_three min_three max_four min_four   -- for this text's walks alone
set_option linter.unusedVariables false
set_option linter.unusedSimpArgs false

/-! ### rule_reader_value: function 46 -/
def rule_reader_value.j0:Nat→Int→Int→ByteArray→Bool→ByteArray→Int→Int→Bool→Bool→Bool→Bool→Bool→Bool→Option (Int × Int × ByteArray × Int × Int × Bool × Bool × Bool × Bool × Bool × Bool)
 | 0,_,_,_,_,_,_,_,_,_,_,_,_,_=>none
 | k+1,x4,x5,x6,x26,x1000,x1001,x1002,x1003,x1004,x1005,x1006,x1007,x1008=>if x26=true then (none) else (if x5>9 then (none) else ((strconv_Atoi.f x6).bind fun bt183=>(some (bt183.1,x4,x1000,wrap64 (x1001+x5),x1002,x1003,x1004,x1005,x1006,x1007,x1008))))
def rule_reader_value.f (k:Nat) (s0_0:ByteArray) (s0_1:Int) (s0_2:Int) (s0_3:Bool) (s0_4:Bool) (s0_5:Bool) (s0_6:Bool) (s0_7:Bool) (s0_8:Bool):Option (Int × Int × ByteArray × Int × Int × Bool × Bool × Bool × Bool × Bool × Bool):=(rule_reader_blanks.f k s0_0 s0_1 s0_2 s0_3 s0_4 s0_5 s0_6 s0_7 s0_8).bind fun bt164=>((rule_reader_run.f k bt164.1 bt164.2.1 bt164.2.2.1 bt164.2.2.2.1 bt164.2.2.2.2.1 bt164.2.2.2.2.2.1 bt164.2.2.2.2.2.2.1 bt164.2.2.2.2.2.2.2.1 bt164.2.2.2.2.2.2.2.2 48 57).bind fun bt173=>(if 0≤bt164.2.1 then (if bt164.2.1≤(wrap64 (bt164.2.1+bt173.1)) then (if (wrap64 (bt164.2.1+bt173.1))≤(bt164.1.size:Int) then (if bt173.1=0 then (rule_reader_value.j0 k bt164.2.1 bt173.1 (bt164.1.extract (bt164.2.1:Int).toNat ((wrap64 (bt164.2.1+bt173.1)):Int).toNat) (bt173.1==0) bt164.1 bt164.2.1 bt164.2.2.1 bt164.2.2.2.1 bt164.2.2.2.2.1 bt164.2.2.2.2.2.1 bt164.2.2.2.2.2.2.1 bt164.2.2.2.2.2.2.2.1 bt164.2.2.2.2.2.2.2.2) else (if bt173.1>1 then (if 0<((bt164.1.extract (bt164.2.1:Int).toNat ((wrap64 (bt164.2.1+bt173.1)):Int).toNat).size:Int) then (rule_reader_value.j0 k bt164.2.1 bt173.1 (bt164.1.extract (bt164.2.1:Int).toNat ((wrap64 (bt164.2.1+bt173.1)):Int).toNat) ((bt (bt164.1.extract (bt164.2.1:Int).toNat ((wrap64 (bt164.2.1+bt173.1)):Int).toNat) 0)==48) bt164.1 bt164.2.1 bt164.2.2.1 bt164.2.2.2.1 bt164.2.2.2.2.1 bt164.2.2.2.2.2.1 bt164.2.2.2.2.2.2.1 bt164.2.2.2.2.2.2.2.1 bt164.2.2.2.2.2.2.2.2) else (none)) else (rule_reader_value.j0 k bt164.2.1 bt173.1 (bt164.1.extract (bt164.2.1:Int).toNat ((wrap64 (bt164.2.1+bt173.1)):Int).toNat) false bt164.1 bt164.2.1 bt164.2.2.1 bt164.2.2.2.1 bt164.2.2.2.2.1 bt164.2.2.2.2.2.1 bt164.2.2.2.2.2.2.1 bt164.2.2.2.2.2.2.2.1 bt164.2.2.2.2.2.2.2.2))) else (none)) else (none)) else (none)))
def rule_reader_value.T2:Bool × List (List Nat × List Nat):=(true,[([],[]),([0],[0]),([1],[1]),([2],[2]),([],[]),([4],[4]),([3,5,0,1,2,3],[3]),([5,6,0,1,2,3,4,5,6],[5])])
def rule_reader_value.B2:List Nat:=[0,1,3,7,0,16,63,127]
theorem rule_reader_value.tab2:rtab .any (opsOf Tryd.f46 2)=rule_reader_value.T2:=by kernel_rfl
theorem rule_reader_value.bits2:waitsOk rule_reader_value.T2.2 rule_reader_value.B2=true:=by kernel_rfl
set_option maxHeartbeats 64000000 in
set_option maxRecDepth 100000 in
theorem rule_reader_value.calls (k:Nat) (g:Nat) (s0_0:ByteArray) (s0_1:Int) (s0_2:Int) (s0_3:Bool) (s0_4:Bool) (s0_5:Bool) (s0_6:Bool) (s0_7:Bool) (s0_8:Bool) (r1:Int) (r2:Int) (r3:ByteArray) (r4:Int) (r5:Int) (r6:Bool) (r7:Bool) (r8:Bool) (r9:Bool) (r10:Bool) (r11:Bool) (w0 w:World) (hI:IsS56 w0 w g s0_0 s0_1 s0_2 s0_3 s0_4 s0_5 s0_6 s0_7 s0_8) (hB:Below w0.heap.size w0 w) (h:rule_reader_value.f k s0_0 s0_1 s0_2 s0_3 s0_4 s0_5 s0_6 s0_7 s0_8=some (r1,r2,r3,r4,r5,r6,r7,r8,r9,r10,r11)) :
  Calls Tryd.prog 46 #[.pointer (some ⟨g,0,none⟩)] w fun e w'=>e= .returned (.tuple #[.int .i64 r1,.int .i64 r2])∧IsS56 w0 w' g r3 r4 r5 r6 r7 r8 r9 r10 r11∧Below w0.heap.size w0 w'∧KeepBut w w' g none:=by
 have HI0:=Aside0.mk hI
 have HK:=Aside0.mk (KeepBut.refl w g none)
 have HL:=Aside0.mk hB.size
 clear hI
 have HW0:=Aside0.mk hB.size
 have HB:=Aside0.mk hB
 clear hB
 have H:((rule_reader_blanks.f k s0_0 s0_1 s0_2 s0_3 s0_4 s0_5 s0_6 s0_7 s0_8).bind fun bt164=>((rule_reader_run.f k bt164.1 bt164.2.1 bt164.2.2.1 bt164.2.2.2.1 bt164.2.2.2.2.1 bt164.2.2.2.2.2.1 bt164.2.2.2.2.2.2.1 bt164.2.2.2.2.2.2.2.1 bt164.2.2.2.2.2.2.2.2 48 57).bind fun bt173=>(if 0≤bt164.2.1 then (if bt164.2.1≤(wrap64 (bt164.2.1+bt173.1)) then (if (wrap64 (bt164.2.1+bt173.1))≤(bt164.1.size:Int) then (if bt173.1=0 then (rule_reader_value.j0 k bt164.2.1 bt173.1 (bt164.1.extract (bt164.2.1:Int).toNat ((wrap64 (bt164.2.1+bt173.1)):Int).toNat) (bt173.1==0) bt164.1 bt164.2.1 bt164.2.2.1 bt164.2.2.2.1 bt164.2.2.2.2.1 bt164.2.2.2.2.2.1 bt164.2.2.2.2.2.2.1 bt164.2.2.2.2.2.2.2.1 bt164.2.2.2.2.2.2.2.2) else (if bt173.1>1 then (if 0<((bt164.1.extract (bt164.2.1:Int).toNat ((wrap64 (bt164.2.1+bt173.1)):Int).toNat).size:Int) then (rule_reader_value.j0 k bt164.2.1 bt173.1 (bt164.1.extract (bt164.2.1:Int).toNat ((wrap64 (bt164.2.1+bt173.1)):Int).toNat) ((bt (bt164.1.extract (bt164.2.1:Int).toNat ((wrap64 (bt164.2.1+bt173.1)):Int).toNat) 0)==48) bt164.1 bt164.2.1 bt164.2.2.1 bt164.2.2.2.1 bt164.2.2.2.2.1 bt164.2.2.2.2.2.1 bt164.2.2.2.2.2.2.1 bt164.2.2.2.2.2.2.2.1 bt164.2.2.2.2.2.2.2.2) else (none)) else (rule_reader_value.j0 k bt164.2.1 bt173.1 (bt164.1.extract (bt164.2.1:Int).toNat ((wrap64 (bt164.2.1+bt173.1)):Int).toNat) false bt164.1 bt164.2.1 bt164.2.2.1 bt164.2.2.2.1 bt164.2.2.2.2.1 bt164.2.2.2.2.2.1 bt164.2.2.2.2.2.2.1 bt164.2.2.2.2.2.2.2.1 bt164.2.2.2.2.2.2.2.2))) else (none)) else (none)) else (none))))=some (r1,r2,r3,r4,r5,r6,r7,r8,r9,r10,r11):=h
 clear h
 replace H:=Option.bind_eq_some_iff.mp H
 obtain⟨⟨t164,t165,t166,t167,t168,t169,t170,t171,t172⟩,A20,H⟩:=H
 dsimp only at H
 have A2:=Aside0.mk A20
 clear A20
 replace H:=Option.bind_eq_some_iff.mp H
 obtain⟨⟨t173,t174,t175,t176,t177,t178,t179,t180,t181,t182⟩,A30,H⟩:=H
 dsimp only at H
 have A3:=Aside0.mk A30
 clear A30
 obtain⟨rfl,rfl,rfl,rfl,rfl,rfl,rfl,rfl,rfl⟩:=rule_reader_run.same A3.out
 replace H:=ifn_ H
 obtain⟨c4,H⟩:=H
 have c4b0:=eq_true c4
 have c4b1:decide (0≤t165)=true:=decide_eq_true c4
 clear c4
 replace H:=ifn_ H
 obtain⟨c5,H⟩:=H
 have c5b0:=eq_true c5
 have c5b1:decide (t165≤(wrap64 (t165+t173)))=true:=decide_eq_true c5
 replace H:=ifn_ H
 obtain⟨c6,H⟩:=H
 have c6b0:=eq_true c6
 have c6b1:decide ((wrap64 (t165+t173))≤(t164.size:Int))=true:=decide_eq_true c6
 have HC7:=Aside0.mk H
 clear H
 go_enter Tryd.func46,Tryd.ntmps46
 try go_wp2_with (first|((with_reducible refine gate_callee (f:=26) rfl ?_);refine gl_ (some 10) Tryd.func26 #[.pointer (some ⟨g,0,none⟩)] ?_;(with_reducible refine(rule_reader_blanks.calls _ _ _ _ _ _ _ _ _ _ _ _ _ _ _ _ _ _ _ _ w0 _ ?side1 ?side2 A2.out).mono ?_);(case side1=>exact is56_ HI0);(case side2=>exact bs56_ HB HI0);rintro e w8 ⟨rfl,hi,hb,hk⟩;refine⟨_,rfl,?_⟩;replace HK:=Aside0.mk (KeepBut.trans (kp_ HK) hk (.inl rfl));replace HB:=Aside0.mk (hb);replace HI0:=Aside0.mk (hi);(try clear hb);(try clear hk);(try clear hi)))
 replace HI0:=Aside0.mk (IsS56.drew HI0.out)
 replace HK:=Aside0.mk (keep_drew HK.out)
 replace HB:=Aside0.mk (below_drew1 HB.out)
 refine start_ (n:=8) (S:=fun w'=>w'.cell? ⟨g,0,none⟩=some (.string t164)∧w'.cell? ⟨g,1,none⟩=some (.int .i64 t165)∧w'.cell? ⟨g,2,none⟩=some (.int .i64 t166)∧w'.cell? ⟨g,3,none⟩=some (.bool t167)∧w'.cell? ⟨g,4,none⟩=some (.bool t168)∧w'.cell? ⟨g,5,none⟩=some (.bool t169)∧w'.cell? ⟨g,6,none⟩=some (.bool t170)∧w'.cell? ⟨g,7,none⟩=some (.bool t171)∧w'.cell? ⟨g,8,none⟩=some (.bool t172)) (ds:=[]) #[false,false,false,false,false,false,false,false] (by kernel_rfl) rfl rfl ⟨(cellS56_0 HI0.out.1),(cellS56_1 HI0.out.1),(cellS56_2 HI0.out.1),(cellS56_3 HI0.out.1),(cellS56_4 HI0.out.1),(cellS56_5 HI0.out.1),(cellS56_6 HI0.out.1),(cellS56_7 HI0.out.1),(cellS56_8 HI0.out.1)⟩ (fun hHeld=>?_);refine with_tabW rule_reader_value.tab2 rule_reader_value.bits2 (fun HT_ HW_=>?_)
 generalize w8.drew=w9 at HI0 HK HB hHeld ⊢
 refine pu_ 0 11 #[true,false,false,false,false,false,false,false] HT_ ?_
 refine pu_ 1 12 #[true,true,false,false,false,false,false,false] HT_ ?_
 refine pu_ 2 13 #[true,true,true,false,false,false,false,false] HT_ ?_
 refine pu_ 4 15 #[true,true,true,false,true,false,false,false] HT_ ?_
 refine tk_ 3 14 #[true,true,true,true,true,false,false,false] HT_ HW_ hHeld rfl (by rintro w' ⟨s0,s1,s2,s3,s4,s5,s6,s7,s8⟩;go_simp;with_reducible rfl) ?_
 refine one_ (i:=5) (N:=some 16) #[true,true,true,true,true,true,false,false] rfl rfl (one_of HT_.out (by kernel_rfl)) (by decide) (fun K hK=>?_)
 refine gs_ Tryd.func37 #[.pointer (some ⟨g,0,none⟩),.int .u8 48,.int .u8 57] ?_
 with_reducible refine(rule_reader_run.calls _ _ _ _ _ _ _ _ _ _ _ _ _ _ _ _ _ _ _ _ _ _ _ w0 _ ?side1 ?side2 A3.out).mono ?_
 (case side1=>exact is56_ HI0)
 (case side2=>exact bs56_ HB HI0)
 rintro e w10 ⟨rfl,hi,hb,hk⟩
 refine⟨_,rfl,?_⟩
 replace HK:=Aside0.mk (KeepBut.trans (kp_ HK) hk (.inl rfl))
 replace HB:=Aside0.mk (hb)
 replace HI0:=Aside0.mk (hi)
 (try clear hb)
 (try clear hb2)
 (try clear hk)
 (try clear hi)
 refine hK.out _ _ ⟨(cellS56_0 HI0.out.1),(cellS56_1 HI0.out.1),(cellS56_2 HI0.out.1),(cellS56_3 HI0.out.1),(cellS56_4 HI0.out.1),(cellS56_5 HI0.out.1),(cellS56_6 HI0.out.1),(cellS56_7 HI0.out.1),(cellS56_8 HI0.out.1)⟩ (fun hHeld=>?_)
 clear hK K
 refine nm_ 16 ?_
 refine pu_ 6 4 #[true,true,true,true,true,true,true,false] HT_ ?_
 refine pu_ 7 5 #[true,true,true,true,true,true,true,true] HT_ ?_
 refine done_ (done_of HT_.out (by kernel_rfl)) ?_
 obtain⟨hcz11_0,hcz11_1,hcz11_2,hcz11_3,hcz11_4,hcz11_5,hcz11_6,hcz11_7,hcz11_8,hfz11_0,hfz11_1,hfz11_2,hfz11_3,hfz11_4,hfz11_5,hfz11_6,hfz11_7,hfz11_8⟩:=cs56_ HI0
 go_upto_if 26 with (fail)
 go_cut [26] (fun v26 wc=>∃(kq:Nat) (x26_6:Bool),v26= .bool x26_6∧Aside0 (rule_reader_value.j0 kq t165 t173 (t164.extract (t165:Int).toNat ((wrap64 (t165+t173)):Int).toNat) x26_6 t164 t165 t166 t167 t168 t169 t170 t171 t172=some (r1,r2,r3,r4,r5,r6,r7,r8,r9,r10,r11))∧Aside0 (kq≤k)∧Aside0 (IsS56 w0 wc g t164 t165 t166 t167 t168 t169 t170 t171 t172)∧Aside0 (KeepBut w wc g none)∧Aside0 (Below w0.heap.size w0 wc))
 case first =>
  have H:=HC7.out
  clear HC7
  by_cases c12:t173=0
  ·rw[if_pos c12] at H
   have c12b0:(t173==0)=true:=beq_iff_eq.mpr c12
   have c12b1:(t173 !=0)=false:=bne_eq_false_iff_eq.mpr c12
   clear c12
   (first|rw[c12b0]|(simp only[i64_w,i32_w];rw[c12b0])|skip)
   have H':=Aside0.mk H
   clear H
   go_wp2
   go_meet
   case rel=>exact⟨_,((t173==0)),eq_,H',⟨by first|omega|exact Nat.le_refl _⟩,⟨is56_ HI0⟩,⟨kp_ HK⟩,⟨bs56_ HB HI0⟩⟩
  ·rw[if_neg c12] at H
   have c12b0:(t173==0)=false:=beq_eq_false_iff_ne.mpr c12
   have c12b1:(t173 !=0)=true:=bne_iff_ne.mpr c12
   (first|rw[c12b0]|(simp only[i64_w,i32_w];rw[c12b0])|skip)
   by_cases c13:t173>1
   ·rw[if_pos c13] at H
    have c13b0:decide (1<t173)=true:=decide_eq_true c13
    clear c13
    replace H:=ifn_ H
    obtain⟨c14,H⟩:=H
    have c14b0:decide (0<((t164.extract (t165:Int).toNat ((wrap64 (t165+t173)):Int).toNat).size:Int))=true:=decide_eq_true c14
    have c14b1:decide (0<(t164.extract (t165:Int).toNat ((wrap64 (t165+t173)):Int).toNat).size)=true:=decide_eq_true (by omega)
    clear c14
    (try (have c14x0:=c14b0;simp only[ByteArray.size_extract,Nat.min_self,Nat.sub_zero] at c14x0))
    (try (have c14x1:=c14b1;simp only[ByteArray.size_extract,Nat.min_self,Nat.sub_zero] at c14x1))
    have H':=Aside0.mk H
    clear H
    have p15:0≤(0:Int):=(by omega)
    have q15:0<(t164.extract (t165:Int).toNat ((wrap64 (t165+t173)):Int).toNat).size:=(by have:(0:Int)<((t164.extract (t165:Int).toNat ((wrap64 (t165+t173)):Int).toNat).size:Int):=od_;omega)
    have hx15:∀h:0<(t164.extract (t165:Int).toNat ((wrap64 (t165+t173)):Int).toNat).size,(((t164.extract (t165:Int).toNat ((wrap64 (t165+t173)):Int).toNat)[0]'h).toNat:Int)=bt (t164.extract (t165:Int).toNat ((wrap64 (t165+t173)):Int).toNat) 0:=bt_at (t164.extract (t165:Int).toNat ((wrap64 (t165+t173)):Int).toNat) 0
    clear p15
    have qi15:(0<((t164.extract (t165:Int).toNat ((wrap64 (t165+t173)):Int).toNat).size:Int))=True:=eq_true (od_)
    replace q15:=eq_true q15
    (try (have qv15:=q15;simp only[ByteArray.size_extract,Nat.min_self,Nat.sub_zero] at qv15))
    (try (have qw15:=qi15;simp only[ByteArray.size_extract,Nat.min_self,Nat.sub_zero] at qw15))
    (try (have hy15:=hx15 (of_eq_true q15)))
    (try (have qm15:(wrap64 (t165+t173))≤(t164.size:Int):=od_;have qz15:=qv15;rw[Nat.min_eq_left (by omega)] at qz15;clear qm15))
    go_wp2
    go_meet
    case rel=>exact⟨_,(((bt (t164.extract (t165:Int).toNat ((wrap64 (t165+t173)):Int).toNat) 0)==48)),eq_,H',⟨by first|omega|exact Nat.le_refl _⟩,⟨is56_ HI0⟩,⟨kp_ HK⟩,⟨bs56_ HB HI0⟩⟩
   ·rw[if_neg c13] at H
    have c13b0:decide (1<t173)=false:=decide_eq_false c13
    clear c13
    have H':=Aside0.mk H
    clear H
    go_wp2
    go_meet
    case rel=>exact⟨_,(false),eq_,H',⟨by first|omega|exact Nat.le_refl _⟩,⟨is56_ HI0⟩,⟨kp_ HK⟩,⟨bs56_ HB HI0⟩⟩
 case rest =>
  clear HC7
  obtain⟨kq,x26_6,rfl,HA,HJ6,HI0,HK,HB⟩:=hcut
  cases kq with
  | zero=>exact absurd HA.out (by simp[rule_reader_value.j0])
  | succ kj6 =>
   have H:=HA.out
   clear HA
   simp only[rule_reader_value.j0] at H
   by_cases c16:x26_6=true
   ·subst c16
    have H1:(none)=some (r1,r2,r3,r4,r5,r6,r7,r8,r9,r10,r11):=by rw[if_pos rfl] at H;exact H
    clear H
    have H:=H1
    clear H1
    exact absurd H (by simp)
   ·replace c16:=Bool.eq_false_iff.mpr c16
    subst c16
    have H1:(if t173>9 then (none) else ((strconv_Atoi.f (t164.extract (t165:Int).toNat ((wrap64 (t165+t173)):Int).toNat)).bind fun bt183=>(some (bt183.1,t165,t164,wrap64 (t165+t173),t166,t167,t168,t169,t170,t171,t172))))=some (r1,r2,r3,r4,r5,r6,r7,r8,r9,r10,r11):=by rw[if_neg (show ¬(false=true) by decide)] at H;exact H
    clear H
    have H:=H1
    clear H1
    replace H:=ifp_ H
    obtain⟨c17,H⟩:=H
    have c17b0:decide (9<t173)=false:=decide_eq_false c17
    clear c17
    replace H:=Option.bind_eq_some_iff.mp H
    obtain⟨⟨t183,t184⟩,A180,H⟩:=H
    dsimp only at H
    have A18:=Aside0.mk A180
    clear A180
    simp only[Option.some.injEq,Prod.mk.injEq] at H
    obtain⟨rfl,rfl,rfl,rfl,rfl,rfl,rfl,rfl,rfl,rfl,rfl⟩:=H
    obtain⟨hcz19_0,hcz19_1,hcz19_2,hcz19_3,hcz19_4,hcz19_5,hcz19_6,hcz19_7,hcz19_8,hfz19_0,hfz19_1,hfz19_2,hfz19_3,hfz19_4,hfz19_5,hfz19_6,hfz19_7,hfz19_8⟩:=cs56_ HI0
    go_wp2_with (first|((with_reducible refine gate_callee (f:=55) rfl ?_);refine gl_ (some 53) Tryd.func55 #[.string (t164.extract (t165:Int).toNat ((wrap64 (t165+t173)):Int).toNat)] ?_;(with_reducible refine(strconv_Atoi.calls (t164.extract (t165:Int).toNat ((wrap64 (t165+t173)):Int).toNat) t183 t184 _ A18.out).mono ?_);rintro e w20 ⟨rfl,hb⟩;refine⟨_,rfl,?_⟩;have n0_:=Aside0.mk (IsS56.below (show IsS56 w0 (wc.setCell ⟨g,1,none⟩ (.int .i64 (wrap64 (t165+t173)))) g t164 (wrap64 (t165+t173)) t166 t167 t168 t169 t170 t171 t172 from is56_ HI0) hb);have n1_:=Aside0.mk (KeepBut.trans (kp_ HK) (KeepBut.of_below hb g none) (.inl rfl));have n2_:=Aside0.mk (below_step (bs56_ HB HI0) hb);clear HI0;clear HK;clear HB;have HI0:=n0_;have HK:=n1_;have HB:=n2_;clear n0_ n1_ n2_;(try clear hb);(try simp only[errW_none,errW_some])))
    go_ret2
    exact⟨ew_,is56_ HI0,bs56_ HB HI0,kp_ HK⟩

/-! ### rule_reader_span: function 47 -/
def rule_reader_span.f (k:Nat) (s0_0:ByteArray) (s0_1:Int) (s0_2:Int) (s0_3:Bool) (s0_4:Bool) (s0_5:Bool) (s0_6:Bool) (s0_7:Bool) (s0_8:Bool):Option (Int × Int × ByteArray × Int × Int × Bool × Bool × Bool × Bool × Bool × Bool):=(rule_reader_value.f k s0_0 s0_1 s0_2 s0_3 s0_4 s0_5 s0_6 s0_7 s0_8).bind fun bt186=>((rule_reader_take.f k bt186.2.2.1 bt186.2.2.2.1 bt186.2.2.2.2.1 bt186.2.2.2.2.2.1 bt186.2.2.2.2.2.2.1 bt186.2.2.2.2.2.2.2.1 bt186.2.2.2.2.2.2.2.2.1 bt186.2.2.2.2.2.2.2.2.2.1 bt186.2.2.2.2.2.2.2.2.2.2 (⟨#[46,46]⟩:ByteArray)).bind fun bt197=>(if bt197.1=true then ((rule_reader_value.f k bt197.2.1 bt197.2.2.1 bt197.2.2.2.1 bt197.2.2.2.2.1 bt197.2.2.2.2.2.1 bt197.2.2.2.2.2.2.1 bt197.2.2.2.2.2.2.2.1 bt197.2.2.2.2.2.2.2.2.1 bt197.2.2.2.2.2.2.2.2.2).bind fun bt207=>(if bt207.1<bt186.1 then (none) else (some (bt186.1,bt207.1,bt207.2.2.1,bt207.2.2.2.1,bt207.2.2.2.2.1,bt207.2.2.2.2.2.1,bt207.2.2.2.2.2.2.1,bt207.2.2.2.2.2.2.2.1,bt207.2.2.2.2.2.2.2.2.1,bt207.2.2.2.2.2.2.2.2.2.1,bt207.2.2.2.2.2.2.2.2.2.2)))) else (some (bt186.1,bt186.1,bt197.2.1,bt197.2.2.1,bt197.2.2.2.1,bt197.2.2.2.2.1,bt197.2.2.2.2.2.1,bt197.2.2.2.2.2.2.1,bt197.2.2.2.2.2.2.2.1,bt197.2.2.2.2.2.2.2.2.1,bt197.2.2.2.2.2.2.2.2.2))))
set_option maxHeartbeats 64000000 in
set_option maxRecDepth 100000 in
theorem rule_reader_span.calls (k:Nat) (g:Nat) (s0_0:ByteArray) (s0_1:Int) (s0_2:Int) (s0_3:Bool) (s0_4:Bool) (s0_5:Bool) (s0_6:Bool) (s0_7:Bool) (s0_8:Bool) (r1:Int) (r2:Int) (r3:ByteArray) (r4:Int) (r5:Int) (r6:Bool) (r7:Bool) (r8:Bool) (r9:Bool) (r10:Bool) (r11:Bool) (w0 w:World) (hI:IsS56 w0 w g s0_0 s0_1 s0_2 s0_3 s0_4 s0_5 s0_6 s0_7 s0_8) (hB:Below w0.heap.size w0 w) (h:rule_reader_span.f k s0_0 s0_1 s0_2 s0_3 s0_4 s0_5 s0_6 s0_7 s0_8=some (r1,r2,r3,r4,r5,r6,r7,r8,r9,r10,r11)) :
  Calls Tryd.prog 47 #[.pointer (some ⟨g,0,none⟩)] w fun e w'=>e= .returned (.agg #[.int .i64 r1,.int .i64 r2])∧IsS56 w0 w' g r3 r4 r5 r6 r7 r8 r9 r10 r11∧Below w0.heap.size w0 w'∧KeepBut w w' g none:=by
 have hu38:=Tryd.underlying38
 have HI0:=Aside0.mk hI
 have HK:=Aside0.mk (KeepBut.refl w g none)
 have HL:=Aside0.mk hB.size
 clear hI
 have HW0:=Aside0.mk hB.size
 have HB:=Aside0.mk hB
 clear hB
 have H:((rule_reader_value.f k s0_0 s0_1 s0_2 s0_3 s0_4 s0_5 s0_6 s0_7 s0_8).bind fun bt186=>((rule_reader_take.f k bt186.2.2.1 bt186.2.2.2.1 bt186.2.2.2.2.1 bt186.2.2.2.2.2.1 bt186.2.2.2.2.2.2.1 bt186.2.2.2.2.2.2.2.1 bt186.2.2.2.2.2.2.2.2.1 bt186.2.2.2.2.2.2.2.2.2.1 bt186.2.2.2.2.2.2.2.2.2.2 (⟨#[46,46]⟩:ByteArray)).bind fun bt197=>(if bt197.1=true then ((rule_reader_value.f k bt197.2.1 bt197.2.2.1 bt197.2.2.2.1 bt197.2.2.2.2.1 bt197.2.2.2.2.2.1 bt197.2.2.2.2.2.2.1 bt197.2.2.2.2.2.2.2.1 bt197.2.2.2.2.2.2.2.2.1 bt197.2.2.2.2.2.2.2.2.2).bind fun bt207=>(if bt207.1<bt186.1 then (none) else (some (bt186.1,bt207.1,bt207.2.2.1,bt207.2.2.2.1,bt207.2.2.2.2.1,bt207.2.2.2.2.2.1,bt207.2.2.2.2.2.2.1,bt207.2.2.2.2.2.2.2.1,bt207.2.2.2.2.2.2.2.2.1,bt207.2.2.2.2.2.2.2.2.2.1,bt207.2.2.2.2.2.2.2.2.2.2)))) else (some (bt186.1,bt186.1,bt197.2.1,bt197.2.2.1,bt197.2.2.2.1,bt197.2.2.2.2.1,bt197.2.2.2.2.2.1,bt197.2.2.2.2.2.2.1,bt197.2.2.2.2.2.2.2.1,bt197.2.2.2.2.2.2.2.2.1,bt197.2.2.2.2.2.2.2.2.2)))))=some (r1,r2,r3,r4,r5,r6,r7,r8,r9,r10,r11):=h
 clear h
 replace H:=Option.bind_eq_some_iff.mp H
 obtain⟨⟨t186,t187,t188,t189,t190,t191,t192,t193,t194,t195,t196⟩,A20,H⟩:=H
 dsimp only at H
 have A2:=Aside0.mk A20
 clear A20
 replace H:=Option.bind_eq_some_iff.mp H
 obtain⟨⟨t197,t198,t199,t200,t201,t202,t203,t204,t205,t206⟩,A30,H⟩:=H
 dsimp only at H
 have A3:=Aside0.mk A30
 clear A30
 by_cases c4:t197=true
 ·subst c4
  have H1:((rule_reader_value.f k t198 t199 t200 t201 t202 t203 t204 t205 t206).bind fun bt207=>(if bt207.1<t186 then (none) else (some (t186,bt207.1,bt207.2.2.1,bt207.2.2.2.1,bt207.2.2.2.2.1,bt207.2.2.2.2.2.1,bt207.2.2.2.2.2.2.1,bt207.2.2.2.2.2.2.2.1,bt207.2.2.2.2.2.2.2.2.1,bt207.2.2.2.2.2.2.2.2.2.1,bt207.2.2.2.2.2.2.2.2.2.2))))=some (r1,r2,r3,r4,r5,r6,r7,r8,r9,r10,r11):=by rw[if_pos rfl] at H;exact H
  clear H
  have H:=H1
  clear H1
  replace H:=Option.bind_eq_some_iff.mp H
  obtain⟨⟨t207,t208,t209,t210,t211,t212,t213,t214,t215,t216,t217⟩,A50,H⟩:=H
  dsimp only at H
  have A5:=Aside0.mk A50
  clear A50
  replace H:=ifp_ H
  obtain⟨c6,H⟩:=H
  have c6b0:decide (t207<t186)=false:=decide_eq_false c6
  clear c6
  simp only[Option.some.injEq,Prod.mk.injEq] at H
  obtain⟨rfl,rfl,rfl,rfl,rfl,rfl,rfl,rfl,rfl,rfl,rfl⟩:=H
  go_enter Tryd.func47,Tryd.ntmps47
  go_wp2_with (first|((with_reducible refine gate_dst (N:=2) rfl ?_);refine be_ 2 #[.int .i64 0,.int .i64 0] 38 ?_;intro gb185 hg w7 hbox hb;have n0_:=Aside0.mk (IsS56.below (is56_ HI0) hb);have n1_:=Aside0.mk (KeepBut.trans (kp_ HK) (KeepBut.of_below hb g none) (.inl rfl));have n2_:=Aside0.mk (below_step (bs56_ HB HI0) hb);have n3_:=Aside0.mk (hbox);have n4_:=Aside0.mk ((by rw[hg];exact(keep_size (w:=w) (g:=g) (row:=none) (kp_ HK)):w.heap.size≤gb185));have n5_:=Aside0.mk ((Nat.le_trans HW0.out (by rw[hg];exact(keep_size (w:=w) (g:=g) (row:=none) (kp_ HK)):w.heap.size≤gb185):w0.heap.size≤gb185));have n6_:=Aside0.mk ((by rw[hg];exact Nat.ne_of_lt (IsS56.lt (show IsS56 w0 _ g s0_0 s0_1 s0_2 s0_3 s0_4 s0_5 s0_6 s0_7 s0_8 from is56_ HI0)):g≠gb185));have n7_:=Aside0.mk ((by rw[hg];exact Nat.ne_of_gt (IsS56.lt (show IsS56 w0 _ g s0_0 s0_1 s0_2 s0_3 s0_4 s0_5 s0_6 s0_7 s0_8 from is56_ HI0)):gb185≠g));clear HI0;clear HK;clear HB;have HI0:=n0_;have HK:=n1_;have HB:=n2_;have BK185:=n3_;have GW185:=n4_;have GE185:=n5_;have NB0_185:=n6_;have NB185_0:=n7_;clear n0_ n1_ n2_ n3_ n4_ n5_ n6_ n7_;clear hb hbox hg)|((with_reducible refine gate_callee (f:=46) rfl ?_);refine gl_ (some 9) Tryd.func46 #[.pointer (some ⟨g,0,none⟩)] ?_;(with_reducible refine(rule_reader_value.calls _ _ _ _ _ _ _ _ _ _ _ _ _ _ _ _ _ _ _ _ _ _ w0 _ ?side1 ?side2 A2.out).mono ?_);(case side1=>exact is56_ HI0);(case side2=>exact bs56_ HB HI0);rintro e w8 ⟨rfl,hi,hb,hk⟩;refine⟨_,rfl,?_⟩;have n0_:=Aside0.mk (KeepBut.blk hk (bk_ BK185).out NB185_0.out (by simp));have n1_:=Aside0.mk (KeepBut.trans (kp_ HK) hk (.inl rfl));have n2_:=Aside0.mk (hb);have n3_:=Aside0.mk (hi);clear BK185;clear HK;clear HB;clear HI0;have BK185:=n0_;have HK:=n1_;have HB:=n2_;have HI0:=n3_;clear n0_ n1_ n2_ n3_;(try clear hb);(try clear hk);(try clear hi))|((with_reducible refine gate_callee (f:=20) rfl ?_);refine gl_ (some 13) Tryd.func20 #[.pointer (some ⟨g,0,none⟩),.string (⟨#[46,46]⟩:ByteArray)] ?_;(with_reducible refine(rule_reader_take.calls _ _ _ _ _ _ _ _ _ _ _ _ _ _ _ _ _ _ _ _ _ _ w0 _ ?side1 ?side2 A3.out).mono ?_);(case side1=>exact is56_ HI0);(case side2=>exact bs56_ HB HI0);rintro e w9 ⟨rfl,hi,hb,hk⟩;refine⟨_,rfl,?_⟩;have n0_:=Aside0.mk (KeepBut.blk hk (bk_ BK185).out NB185_0.out (by simp));have n1_:=Aside0.mk (KeepBut.trans (kp_ HK) hk (.inl rfl));have n2_:=Aside0.mk (hb);have n3_:=Aside0.mk (hi);clear BK185;clear HK;clear HB;clear HI0;have BK185:=n0_;have HK:=n1_;have HB:=n2_;have HI0:=n3_;clear n0_ n1_ n2_ n3_;(try clear hb);(try clear hk);(try clear hi))|((with_reducible refine gate_callee (f:=46) rfl ?_);refine gl_ (some 20) Tryd.func46 #[.pointer (some ⟨g,0,none⟩)] ?_;(with_reducible refine(rule_reader_value.calls _ _ _ _ _ _ _ _ _ _ _ _ _ _ _ _ _ _ _ _ _ _ w0 _ ?side1 ?side2 A5.out).mono ?_);(case side1=>exact is56_ HI0);(case side2=>exact bs56_ HB HI0);rintro e w10 ⟨rfl,hi,hb,hk⟩;refine⟨_,rfl,?_⟩;have n0_:=Aside0.mk (KeepBut.blk hk (bk_ BK185).out NB185_0.out (by simp));have n1_:=Aside0.mk (KeepBut.trans (kp_ HK) hk (.inl rfl));have n2_:=Aside0.mk (hb);have n3_:=Aside0.mk (hi);clear BK185;clear HK;clear HB;clear HI0;have BK185:=n0_;have HK:=n1_;have HB:=n2_;have HI0:=n3_;clear n0_ n1_ n2_ n3_;(try clear hb);(try clear hk);(try clear hi);have hnb11:=NB185_0.out;have hnc11:=NB0_185.out;obtain⟨hcz12_0,hcz12_1,hfz12_0,hfz12_1⟩:=bo2_ BK185))
  refine bodyPost_ret (results_cell_row rfl _ _ gb185 38 #[.int .i64 t186,.int .i64 t207] (0,0) _ rfl ((bp_ BK185).out) Tryd.underlying38 rfl (by kernel_rfl)) rfl ?_
  exact⟨ew_,is56_ HI0,bs56_ HB HI0,kp_ HK⟩
 ·replace c4:=Bool.eq_false_iff.mpr c4
  subst c4
  have H1:(some (t186,t186,t198,t199,t200,t201,t202,t203,t204,t205,t206))=some (r1,r2,r3,r4,r5,r6,r7,r8,r9,r10,r11):=by rw[if_neg (show ¬(false=true) by decide)] at H;exact H
  clear H
  have H:=H1
  clear H1
  simp only[Option.some.injEq,Prod.mk.injEq] at H
  obtain⟨rfl,rfl,rfl,rfl,rfl,rfl,rfl,rfl,rfl,rfl,rfl⟩:=H
  go_enter Tryd.func47,Tryd.ntmps47
  go_wp2_with (first|((with_reducible refine gate_dst (N:=2) rfl ?_);refine be_ 2 #[.int .i64 0,.int .i64 0] 38 ?_;intro gb185 hg w13 hbox hb;have n0_:=Aside0.mk (IsS56.below (is56_ HI0) hb);have n1_:=Aside0.mk (KeepBut.trans (kp_ HK) (KeepBut.of_below hb g none) (.inl rfl));have n2_:=Aside0.mk (below_step (bs56_ HB HI0) hb);have n3_:=Aside0.mk (hbox);have n4_:=Aside0.mk ((by rw[hg];exact(keep_size (w:=w) (g:=g) (row:=none) (kp_ HK)):w.heap.size≤gb185));have n5_:=Aside0.mk ((Nat.le_trans HW0.out (by rw[hg];exact(keep_size (w:=w) (g:=g) (row:=none) (kp_ HK)):w.heap.size≤gb185):w0.heap.size≤gb185));have n6_:=Aside0.mk ((by rw[hg];exact Nat.ne_of_lt (IsS56.lt (show IsS56 w0 _ g s0_0 s0_1 s0_2 s0_3 s0_4 s0_5 s0_6 s0_7 s0_8 from is56_ HI0)):g≠gb185));have n7_:=Aside0.mk ((by rw[hg];exact Nat.ne_of_gt (IsS56.lt (show IsS56 w0 _ g s0_0 s0_1 s0_2 s0_3 s0_4 s0_5 s0_6 s0_7 s0_8 from is56_ HI0)):gb185≠g));clear HI0;clear HK;clear HB;have HI0:=n0_;have HK:=n1_;have HB:=n2_;have BK185:=n3_;have GW185:=n4_;have GE185:=n5_;have NB0_185:=n6_;have NB185_0:=n7_;clear n0_ n1_ n2_ n3_ n4_ n5_ n6_ n7_;clear hb hbox hg)|((with_reducible refine gate_callee (f:=46) rfl ?_);refine gl_ (some 9) Tryd.func46 #[.pointer (some ⟨g,0,none⟩)] ?_;(with_reducible refine(rule_reader_value.calls _ _ _ _ _ _ _ _ _ _ _ _ _ _ _ _ _ _ _ _ _ _ w0 _ ?side1 ?side2 A2.out).mono ?_);(case side1=>exact is56_ HI0);(case side2=>exact bs56_ HB HI0);rintro e w14 ⟨rfl,hi,hb,hk⟩;refine⟨_,rfl,?_⟩;have n0_:=Aside0.mk (KeepBut.blk hk (bk_ BK185).out NB185_0.out (by simp));have n1_:=Aside0.mk (KeepBut.trans (kp_ HK) hk (.inl rfl));have n2_:=Aside0.mk (hb);have n3_:=Aside0.mk (hi);clear BK185;clear HK;clear HB;clear HI0;have BK185:=n0_;have HK:=n1_;have HB:=n2_;have HI0:=n3_;clear n0_ n1_ n2_ n3_;(try clear hb);(try clear hk);(try clear hi))|((with_reducible refine gate_callee (f:=20) rfl ?_);refine gl_ (some 13) Tryd.func20 #[.pointer (some ⟨g,0,none⟩),.string (⟨#[46,46]⟩:ByteArray)] ?_;(with_reducible refine(rule_reader_take.calls _ _ _ _ _ _ _ _ _ _ _ _ _ _ _ _ _ _ _ _ _ _ w0 _ ?side1 ?side2 A3.out).mono ?_);(case side1=>exact is56_ HI0);(case side2=>exact bs56_ HB HI0);rintro e w15 ⟨rfl,hi,hb,hk⟩;refine⟨_,rfl,?_⟩;have n0_:=Aside0.mk (KeepBut.blk hk (bk_ BK185).out NB185_0.out (by simp));have n1_:=Aside0.mk (KeepBut.trans (kp_ HK) hk (.inl rfl));have n2_:=Aside0.mk (hb);have n3_:=Aside0.mk (hi);clear BK185;clear HK;clear HB;clear HI0;have BK185:=n0_;have HK:=n1_;have HB:=n2_;have HI0:=n3_;clear n0_ n1_ n2_ n3_;(try clear hb);(try clear hk);(try clear hi);have hnb16:=NB185_0.out;have hnc16:=NB0_185.out;obtain⟨hcz17_0,hcz17_1,hfz17_0,hfz17_1⟩:=bo2_ BK185))
  refine bodyPost_ret (results_cell_row rfl _ _ gb185 38 #[.int .i64 t186,.int .i64 t186] (0,0) _ rfl ((bp_ BK185).out) Tryd.underlying38 rfl (by kernel_rfl)) rfl ?_
  exact⟨ew_,is56_ HI0,bs56_ HB HI0,kp_ HK⟩

/-! ### rule_reader_rel: function 38 -/
mutual
def rule_reader_rel.j0:Nat→ByteArray→Bool→ByteArray→Int→Int→Bool→Bool→Bool→Bool→Bool→Bool→Option (Int × Int × Bool × (List (S38)) × ByteArray × Int × Int × Bool × Bool × Bool × Bool × Bool × Bool)
 | 0,_,_,_,_,_,_,_,_,_,_,_=>none
 | k+1,x3,x16,x1000,x1001,x1002,x1003,x1004,x1005,x1006,x1007,x1008=>if x16=true then (none) else (if (wrap64 (x1002+1))>200 then (none) else (if 0<(x3.size:Int) then ((rule_reader_take.f k x1000 (wrap64 (x1001+1)) (wrap64 (x1002+1)) x1003 x1004 x1005 x1006 x1007 x1008 (⟨#[37]⟩:ByteArray)).bind fun bt231=>(if bt231.1=true then ((rule_reader_value.f k bt231.2.1 bt231.2.2.1 bt231.2.2.2.1 bt231.2.2.2.2.1 bt231.2.2.2.2.2.1 bt231.2.2.2.2.2.2.1 bt231.2.2.2.2.2.2.2.1 bt231.2.2.2.2.2.2.2.2.1 bt231.2.2.2.2.2.2.2.2.2).bind fun bt241=>(if bt241.1=0 then (none) else (rule_reader_rel.j1 k bt241.2.2.1 bt241.2.2.2.1 bt241.2.2.2.2.1 bt241.2.2.2.2.2.1 bt241.2.2.2.2.2.2.1 bt241.2.2.2.2.2.2.2.1 bt241.2.2.2.2.2.2.2.2.1 bt241.2.2.2.2.2.2.2.2.2.1 bt241.2.2.2.2.2.2.2.2.2.2 (bt x3 0) bt241.1 false))) else (rule_reader_rel.j1 k bt231.2.1 bt231.2.2.1 bt231.2.2.2.1 bt231.2.2.2.2.1 bt231.2.2.2.2.2.1 bt231.2.2.2.2.2.2.1 bt231.2.2.2.2.2.2.2.1 bt231.2.2.2.2.2.2.2.2.1 bt231.2.2.2.2.2.2.2.2.2 (bt x3 0) 0 false))) else (none)))
def rule_reader_rel.j1:Nat→ByteArray→Int→Int→Bool→Bool→Bool→Bool→Bool→Bool→Int→Int→Bool→Option (Int × Int × Bool × (List (S38)) × ByteArray × Int × Int × Bool × Bool × Bool × Bool × Bool × Bool)
 | 0,_,_,_,_,_,_,_,_,_,_,_,_=>none
 | k+1,x1000,x1001,x1002,x1003,x1004,x1005,x1006,x1007,x1008,x231000,x231001,x231002=>(rule_reader_take.f k x1000 x1001 x1002 x1003 x1004 x1005 x1006 x1007 x1008 (⟨#[33,61]⟩:ByteArray)).bind fun bt252=>(if bt252.1=true then (rule_reader_rel.j2 k bt252.2.1 bt252.2.2.1 bt252.2.2.2.1 bt252.2.2.2.2.1 bt252.2.2.2.2.2.1 bt252.2.2.2.2.2.2.1 bt252.2.2.2.2.2.2.2.1 bt252.2.2.2.2.2.2.2.2.1 bt252.2.2.2.2.2.2.2.2.2 x231000 x231001 bt252.1) else ((rule_reader_want.f k bt252.2.1 bt252.2.2.1 bt252.2.2.2.1 bt252.2.2.2.2.1 bt252.2.2.2.2.2.1 bt252.2.2.2.2.2.2.1 bt252.2.2.2.2.2.2.2.1 bt252.2.2.2.2.2.2.2.2.1 bt252.2.2.2.2.2.2.2.2.2 (⟨#[61]⟩:ByteArray)).bind fun bt262=>(rule_reader_rel.j2 k bt262.1 bt262.2.1 bt262.2.2.1 bt262.2.2.2.1 bt262.2.2.2.2.1 bt262.2.2.2.2.2.1 bt262.2.2.2.2.2.2.1 bt262.2.2.2.2.2.2.2.1 bt262.2.2.2.2.2.2.2.2 x231000 x231001 bt252.1)))
def rule_reader_rel.j2:Nat→ByteArray→Int→Int→Bool→Bool→Bool→Bool→Bool→Bool→Int→Int→Bool→Option (Int × Int × Bool × (List (S38)) × ByteArray × Int × Int × Bool × Bool × Bool × Bool × Bool × Bool)
 | 0,_,_,_,_,_,_,_,_,_,_,_,_=>none
 | k+1,x1000,x1001,x1002,x1003,x1004,x1005,x1006,x1007,x1008,x231000,x231001,x231002=>(rule_reader_span.f k x1000 x1001 x1002 x1003 x1004 x1005 x1006 x1007 x1008).bind fun bt271=>(if ([]:List (S38)).length<8796093022208 then (rule_reader_rel.l0 k bt271.2.2.1 bt271.2.2.2.1 bt271.2.2.2.2.1 bt271.2.2.2.2.2.1 bt271.2.2.2.2.2.2.1 bt271.2.2.2.2.2.2.2.1 bt271.2.2.2.2.2.2.2.2.1 bt271.2.2.2.2.2.2.2.2.2.1 bt271.2.2.2.2.2.2.2.2.2.2 x231000 x231001 x231002 (([]:List (S38))++[(⟨bt271.1,bt271.2.1⟩:S38)])) else (none))
def rule_reader_rel.l0:Nat→ByteArray→Int→Int→Bool→Bool→Bool→Bool→Bool→Bool→Int→Int→Bool→List (S38)→Option (Int × Int × Bool × (List (S38)) × ByteArray × Int × Int × Bool × Bool × Bool × Bool × Bool × Bool)
 | 0,_,_,_,_,_,_,_,_,_,_,_,_,_=>none
 | k+1,x1000,x1001,x1002,x1003,x1004,x1005,x1006,x1007,x1008,x231000,x231001,x231002,x231003=>(rule_reader_take.f k x1000 x1001 x1002 x1003 x1004 x1005 x1006 x1007 x1008 (⟨#[44]⟩:ByteArray)).bind fun bt285=>(if bt285.1=true then ((rule_reader_span.f k bt285.2.1 bt285.2.2.1 bt285.2.2.2.1 bt285.2.2.2.2.1 bt285.2.2.2.2.2.1 bt285.2.2.2.2.2.2.1 bt285.2.2.2.2.2.2.2.1 bt285.2.2.2.2.2.2.2.2.1 bt285.2.2.2.2.2.2.2.2.2).bind fun bt295=>(if x231003.length<8796093022208 then (rule_reader_rel.l0 k bt295.2.2.1 bt295.2.2.2.1 bt295.2.2.2.2.1 bt295.2.2.2.2.2.1 bt295.2.2.2.2.2.2.1 bt295.2.2.2.2.2.2.2.1 bt295.2.2.2.2.2.2.2.2.1 bt295.2.2.2.2.2.2.2.2.2.1 bt295.2.2.2.2.2.2.2.2.2.2 x231000 x231001 x231002 (x231003++[(⟨bt295.1,bt295.2.1⟩:S38)])) else (none))) else (some (x231000,x231001,x231002,x231003,bt285.2.1,bt285.2.2.1,bt285.2.2.2.1,bt285.2.2.2.2.1,bt285.2.2.2.2.2.1,bt285.2.2.2.2.2.2.1,bt285.2.2.2.2.2.2.2.1,bt285.2.2.2.2.2.2.2.2.1,bt285.2.2.2.2.2.2.2.2.2)))
end
def rule_reader_rel.f (k:Nat) (s0_0:ByteArray) (s0_1:Int) (s0_2:Int) (s0_3:Bool) (s0_4:Bool) (s0_5:Bool) (s0_6:Bool) (s0_7:Bool) (s0_8:Bool):Option (Int × Int × Bool × (List (S38)) × ByteArray × Int × Int × Bool × Bool × Bool × Bool × Bool × Bool):=(rule_reader_word.f k s0_0 s0_1 s0_2 s0_3 s0_4 s0_5 s0_6 s0_7 s0_8).bind fun bt219=>(if (bt219.1.size:Int)=1 then ((strings_Contains.f (⟨#[110,105,118,119,102,116,99,101]⟩:ByteArray) bt219.1).bind fun t229=>(rule_reader_rel.j0 k bt219.1 (!t229) bt219.2.1 bt219.2.2.1 bt219.2.2.2.1 bt219.2.2.2.2.1 bt219.2.2.2.2.2.1 bt219.2.2.2.2.2.2.1 bt219.2.2.2.2.2.2.2.1 bt219.2.2.2.2.2.2.2.2.1 bt219.2.2.2.2.2.2.2.2.2)) else (rule_reader_rel.j0 k bt219.1 true bt219.2.1 bt219.2.2.1 bt219.2.2.2.1 bt219.2.2.2.2.1 bt219.2.2.2.2.2.1 bt219.2.2.2.2.2.2.1 bt219.2.2.2.2.2.2.2.1 bt219.2.2.2.2.2.2.2.2.1 bt219.2.2.2.2.2.2.2.2.2))
def rule_reader_rel.T17:Bool × List (List Nat × List Nat):=(true,[([],[]),([0],[0]),([],[]),([2],[2]),([3],[3]),([1,4,3],[1,4]),([0,1,2,3,4,5],[]),([6,5,5,0,1,2,3,4,5],[5,6])])
def rule_reader_rel.B17:List Nat:=[0,1,0,4,12,31,63,127]
theorem rule_reader_rel.tab17:rtab .any (opsOf Tryd.f38 17)=rule_reader_rel.T17:=by kernel_rfl
theorem rule_reader_rel.bits17:waitsOk rule_reader_rel.T17.2 rule_reader_rel.B17=true:=by kernel_rfl
def rule_reader_rel.T19:Bool × List (List Nat × List Nat):=(true,[([],[]),([0],[0]),([],[]),([2],[2]),([3],[3]),([1,4,3],[1,4]),([0,1,2,3,4,5],[]),([6,5,5,0,1,2,3,4,5],[5,6])])
def rule_reader_rel.B19:List Nat:=[0,1,0,4,12,31,63,127]
theorem rule_reader_rel.tab19:rtab .any (opsOf Tryd.f38 19)=rule_reader_rel.T19:=by kernel_rfl
theorem rule_reader_rel.bits19:waitsOk rule_reader_rel.T19.2 rule_reader_rel.B19=true:=by kernel_rfl
set_option maxHeartbeats 64000000 in
set_option maxRecDepth 100000 in
theorem rule_reader_rel.calls (k:Nat) (g:Nat) (s0_0:ByteArray) (s0_1:Int) (s0_2:Int) (s0_3:Bool) (s0_4:Bool) (s0_5:Bool) (s0_6:Bool) (s0_7:Bool) (s0_8:Bool) (r1:Int) (r2:Int) (r3:Bool) (r4:List (S38)) (r5:ByteArray) (r6:Int) (r7:Int) (r8:Bool) (r9:Bool) (r10:Bool) (r11:Bool) (r12:Bool) (r13:Bool) (w0 w:World) (hI:IsS56 w0 w g s0_0 s0_1 s0_2 s0_3 s0_4 s0_5 s0_6 s0_7 s0_8) (hB:Below w0.heap.size w0 w) (h:rule_reader_rel.f k s0_0 s0_1 s0_2 s0_3 s0_4 s0_5 s0_6 s0_7 s0_8=some (r1,r2,r3,r4,r5,r6,r7,r8,r9,r10,r11,r12,r13)) :
  Calls Tryd.prog 38 #[.pointer (some ⟨g,0,none⟩)] w fun e w'=>∃v3_:Value,e= .returned (.agg #[.int .u8 r1,.int .i64 r2,.bool r3,v3_])∧Kd.R k38 38 w' w.heap.size (fun _=>True) v3_ r4∧IsS56 w0 w' g r5 r6 r7 r8 r9 r10 r11 r12 r13∧Below w0.heap.size w0 w'∧KeepBut w w' g none:=by
 have hu36:=Tryd.underlying36
 have HI0:=Aside0.mk hI
 have HK:=Aside0.mk (KeepBut.refl w g none)
 have HL:=Aside0.mk hB.size
 clear hI
 have HW0:=Aside0.mk hB.size
 have HB:=Aside0.mk hB
 clear hB
 have H:((rule_reader_word.f k s0_0 s0_1 s0_2 s0_3 s0_4 s0_5 s0_6 s0_7 s0_8).bind fun bt219=>(if (bt219.1.size:Int)=1 then ((strings_Contains.f (⟨#[110,105,118,119,102,116,99,101]⟩:ByteArray) bt219.1).bind fun t229=>(rule_reader_rel.j0 k bt219.1 (!t229) bt219.2.1 bt219.2.2.1 bt219.2.2.2.1 bt219.2.2.2.2.1 bt219.2.2.2.2.2.1 bt219.2.2.2.2.2.2.1 bt219.2.2.2.2.2.2.2.1 bt219.2.2.2.2.2.2.2.2.1 bt219.2.2.2.2.2.2.2.2.2)) else (rule_reader_rel.j0 k bt219.1 true bt219.2.1 bt219.2.2.1 bt219.2.2.2.1 bt219.2.2.2.2.1 bt219.2.2.2.2.2.1 bt219.2.2.2.2.2.2.1 bt219.2.2.2.2.2.2.2.1 bt219.2.2.2.2.2.2.2.2.1 bt219.2.2.2.2.2.2.2.2.2)))=some (r1,r2,r3,r4,r5,r6,r7,r8,r9,r10,r11,r12,r13):=h
 clear h
 replace H:=Option.bind_eq_some_iff.mp H
 obtain⟨⟨t219,t220,t221,t222,t223,t224,t225,t226,t227,t228⟩,A20,H⟩:=H
 dsimp only at H
 have A2:=Aside0.mk A20
 clear A20
 have HC3:=Aside0.mk H
 clear H
 go_enter Tryd.func38,Tryd.ntmps38
 go_upto_region 2 with (first|((with_reducible refine gate_dst (N:=2) rfl ?_);refine be_ 2 #[.int .u8 0,.int .i64 0,.bool false,.slice none 0 0] 36 ?_;intro gb218 hg w4 hbox hb;have n0_:=Aside0.mk (IsS56.below (is56_ HI0) hb);have n1_:=Aside0.mk (KeepBut.trans (kp_ HK) (KeepBut.of_below hb g none) (.inl rfl));have n2_:=Aside0.mk (below_step (bs56_ HB HI0) hb);have n3_:=Aside0.mk (hbox);have n4_:=Aside0.mk ((by rw[hg];exact(keep_size (w:=w) (g:=g) (row:=none) (kp_ HK)):w.heap.size≤gb218));have n5_:=Aside0.mk ((Nat.le_trans HW0.out (by rw[hg];exact(keep_size (w:=w) (g:=g) (row:=none) (kp_ HK)):w.heap.size≤gb218):w0.heap.size≤gb218));have n6_:=Aside0.mk ((by rw[hg];exact Nat.ne_of_lt (IsS56.lt (show IsS56 w0 _ g s0_0 s0_1 s0_2 s0_3 s0_4 s0_5 s0_6 s0_7 s0_8 from is56_ HI0)):g≠gb218));have n7_:=Aside0.mk ((by rw[hg];exact Nat.ne_of_gt (IsS56.lt (show IsS56 w0 _ g s0_0 s0_1 s0_2 s0_3 s0_4 s0_5 s0_6 s0_7 s0_8 from is56_ HI0)):gb218≠g));clear HI0;clear HK;clear HB;have HI0:=n0_;have HK:=n1_;have HB:=n2_;have BK218:=n3_;have GW218:=n4_;have GE218:=n5_;have NB0_218:=n6_;have NB218_0:=n7_;clear n0_ n1_ n2_ n3_ n4_ n5_ n6_ n7_;clear hb hbox hg)|((with_reducible refine gate_callee (f:=27) rfl ?_);refine gl_ (some 8) Tryd.func27 #[.pointer (some ⟨g,0,none⟩)] ?_;(with_reducible refine(rule_reader_word.calls _ _ _ _ _ _ _ _ _ _ _ _ _ _ _ _ _ _ _ _ _ w0 _ ?side1 ?side2 A2.out).mono ?_);(case side1=>exact is56_ HI0);(case side2=>exact bs56_ HB HI0);rintro e w5 ⟨rfl,hi,hb,hk⟩;refine⟨_,rfl,?_⟩;have n0_:=Aside0.mk (KeepBut.blk hk (bk_ BK218).out NB218_0.out (by simp));have n1_:=Aside0.mk (KeepBut.trans (kp_ HK) hk (.inl rfl));have n2_:=Aside0.mk (hb);have n3_:=Aside0.mk (hi);clear BK218;clear HK;clear HB;clear HI0;have BK218:=n0_;have HK:=n1_;have HB:=n2_;have HI0:=n3_;clear n0_ n1_ n2_ n3_;(try clear hb);(try clear hk);(try clear hi)))
 (try simp only[Act.put,List.setIfInBounds_toArray,List.set_cons_zero,List.set_cons_succ])
 go_cut [16] (fun v16 wc=>∃(kq:Nat) (x16_2:Bool),v16= .bool x16_2∧Aside0 (rule_reader_rel.j0 kq t219 x16_2 t220 t221 t222 t223 t224 t225 t226 t227 t228=some (r1,r2,r3,r4,r5,r6,r7,r8,r9,r10,r11,r12,r13))∧Aside0 (kq≤k)∧Aside0 (wc.heap[gb218]? = some (.cells #[.int .u8 0,.int .i64 0,.bool false,(.slice none 0 0)] 36 (0,0)))∧Aside0 (IsS56 w0 wc g t220 t221 t222 t223 t224 t225 t226 t227 t228)∧Aside0 (KeepBut w wc g none)∧Aside0 (Below w0.heap.size w0 wc))
 case first =>
  have H:=HC3.out
  clear HC3
  by_cases c6:(t219.size:Int)=1
  ·rw[if_pos c6] at H
   have c6b0:((t219.size:Int)==1)=true:=beq_iff_eq.mpr c6
   have c6b1:((t219.size:Int) !=1)=false:=bne_eq_false_iff_eq.mpr c6
   clear c6
   (first|rw[c6b0]|(simp only[i64_w,i32_w];rw[c6b0])|skip)
   replace H:=Option.bind_eq_some_iff.mp H
   obtain⟨t229,A70,H⟩:=H
   have A7:=Aside0.mk A70
   clear A70
   have H':=Aside0.mk H
   clear H
   go_wp2_with (first|(go_at_call 45;(with_reducible refine(strings_Contains.calls _ _ _ _ A7.out).mono ?_);rintro e w' ⟨rfl,⟨nd,rfl⟩⟩))
   go_meet
   case rel=>exact⟨_,(!t229),eq_,H',⟨by first|omega|exact Nat.le_refl _⟩,(bk_ BK218),⟨is56_ HI0⟩,⟨kp_ HK⟩,⟨bs56_ HB HI0⟩⟩
  ·rw[if_neg c6] at H
   have c6b0:((t219.size:Int)==1)=false:=beq_eq_false_iff_ne.mpr c6
   have c6b1:((t219.size:Int) !=1)=true:=bne_iff_ne.mpr c6
   (first|rw[c6b0]|(simp only[i64_w,i32_w];rw[c6b0])|skip)
   have H':=Aside0.mk H
   clear H
   go_wp2
   go_meet
   case rel=>exact⟨_,(true),eq_,H',⟨by first|omega|exact Nat.le_refl _⟩,(bk_ BK218),⟨is56_ HI0⟩,⟨kp_ HK⟩,⟨bs56_ HB HI0⟩⟩
 case rest =>
  clear HC3
  obtain⟨kq,x16_2,rfl,HA,HJ2,BK218,HI0,HK,HB⟩:=hcut
  cases kq with
  | zero=>exact absurd HA.out (by simp[rule_reader_rel.j0])
  | succ kj2 =>
   have H:=HA.out
   clear HA
   simp only[rule_reader_rel.j0] at H
   by_cases c8:x16_2=true
   ·subst c8
    have H1:(none)=some (r1,r2,r3,r4,r5,r6,r7,r8,r9,r10,r11,r12,r13):=by rw[if_pos rfl] at H;exact H
    clear H
    have H:=H1
    clear H1
    exact absurd H (by simp)
   ·replace c8:=Bool.eq_false_iff.mpr c8
    subst c8
    have H1:(if (wrap64 (t222+1))>200 then (none) else (if 0<(t219.size:Int) then ((rule_reader_take.f kj2 t220 (wrap64 (t221+1)) (wrap64 (t222+1)) t223 t224 t225 t226 t227 t228 (⟨#[37]⟩:ByteArray)).bind fun bt231=>(if bt231.1=true then ((rule_reader_value.f kj2 bt231.2.1 bt231.2.2.1 bt231.2.2.2.1 bt231.2.2.2.2.1 bt231.2.2.2.2.2.1 bt231.2.2.2.2.2.2.1 bt231.2.2.2.2.2.2.2.1 bt231.2.2.2.2.2.2.2.2.1 bt231.2.2.2.2.2.2.2.2.2).bind fun bt241=>(if bt241.1=0 then (none) else (rule_reader_rel.j1 kj2 bt241.2.2.1 bt241.2.2.2.1 bt241.2.2.2.2.1 bt241.2.2.2.2.2.1 bt241.2.2.2.2.2.2.1 bt241.2.2.2.2.2.2.2.1 bt241.2.2.2.2.2.2.2.2.1 bt241.2.2.2.2.2.2.2.2.2.1 bt241.2.2.2.2.2.2.2.2.2.2 (bt t219 0) bt241.1 false))) else (rule_reader_rel.j1 kj2 bt231.2.1 bt231.2.2.1 bt231.2.2.2.1 bt231.2.2.2.2.1 bt231.2.2.2.2.2.1 bt231.2.2.2.2.2.2.1 bt231.2.2.2.2.2.2.2.1 bt231.2.2.2.2.2.2.2.2.1 bt231.2.2.2.2.2.2.2.2.2 (bt t219 0) 0 false))) else (none)))=some (r1,r2,r3,r4,r5,r6,r7,r8,r9,r10,r11,r12,r13):=by rw[if_neg (show ¬(false=true) by decide)] at H;exact H
    clear H
    have H:=H1
    clear H1
    by_cases c9:(wrap64 (t222+1))>200
    ·rw[if_pos c9] at H
     have c9b0:decide (200<(wrap64 (t222+1)))=true:=decide_eq_true c9
     clear c9
     exact absurd H (by simp)
    ·rw[if_neg c9] at H
     have c9b0:decide (200<(wrap64 (t222+1)))=false:=decide_eq_false c9
     clear c9
     replace H:=ifn_ H
     obtain⟨c10,H⟩:=H
     have c10b0:decide (0<(t219.size:Int))=true:=decide_eq_true c10
     have c10b1:decide (0<t219.size)=true:=decide_eq_true (by omega)
     clear c10
     replace H:=Option.bind_eq_some_iff.mp H
     obtain⟨⟨t231,t232,t233,t234,t235,t236,t237,t238,t239,t240⟩,A120,H⟩:=H
     dsimp only at H
     have A12:=Aside0.mk A120
     clear A120
     have HC13:=Aside0.mk H
     clear H
     obtain⟨hcz14_0,hcz14_1,hcz14_2,hcz14_3,hcz14_4,hcz14_5,hcz14_6,hcz14_7,hcz14_8,hfz14_0,hfz14_1,hfz14_2,hfz14_3,hfz14_4,hfz14_5,hfz14_6,hfz14_7,hfz14_8⟩:=cs56_ HI0
     have p11:0≤(0:Int):=(by omega)
     have q11:0<t219.size:=(by have:(0:Int)<(t219.size:Int):=od_;omega)
     have hx11:∀h:0<t219.size,((t219[0]'h).toNat:Int)=bt t219 0:=bt_at t219 0
     clear p11
     have qi11:(0<(t219.size:Int))=True:=eq_true (od_)
     replace q11:=eq_true q11
     go_upto_if 50 with (first|((with_reducible refine gate_dst (N:=4) rfl ?_);refine be_ 4 #[.int .u8 0,.int .i64 0,.bool false,.slice none 0 0] 36 ?_;intro gb230 hg w15 hbox hb;have n0_:=bz_ BK218 hb;have n1_:=Aside0.mk (IsS56.below (show IsS56 w0 ((wc.setCell ⟨g,2,none⟩ (.int .i64 (wrap64 (t222+1)))).setCell ⟨g,1,none⟩ (.int .i64 (wrap64 (t221+1)))) g t220 (wrap64 (t221+1)) (wrap64 (t222+1)) t223 t224 t225 t226 t227 t228 from is56_ HI0) hb);have n2_:=Aside0.mk (KeepBut.trans (kp_ HK) (KeepBut.of_below hb g none) (.inl rfl));have n3_:=Aside0.mk (below_step (bs56_ HB HI0) hb);have n4_:=Aside0.mk (hbox);have n5_:=Aside0.mk ((by rw[hg];exact(keep_size (w:=w) (g:=g) (row:=none) (kp_ HK)):w.heap.size≤gb230));have n6_:=Aside0.mk ((Nat.le_trans HW0.out (by rw[hg];exact(keep_size (w:=w) (g:=g) (row:=none) (kp_ HK)):w.heap.size≤gb230):w0.heap.size≤gb230));have n7_:=Aside0.mk ((by rw[hg];exact Nat.ne_of_lt (blk_lt (g:=gb218) (o:= .cells #[.int .u8 0,.int .i64 0,.bool false,.slice none 0 0] 36 (0,0)) ((bf_ BK218).out)):gb218≠gb230));have n8_:=Aside0.mk ((by rw[hg];exact Nat.ne_of_gt (blk_lt (g:=gb218) (o:= .cells #[.int .u8 0,.int .i64 0,.bool false,.slice none 0 0] 36 (0,0)) ((bf_ BK218).out)):gb230≠gb218));have n9_:=Aside0.mk ((by rw[hg];exact Nat.ne_of_lt (IsS56.lt (show IsS56 w0 _ g t220 (wrap64 (t221+1)) (wrap64 (t222+1)) t223 t224 t225 t226 t227 t228 from is56_ HI0)):g≠gb230));have n10_:=Aside0.mk ((by rw[hg];exact Nat.ne_of_gt (IsS56.lt (show IsS56 w0 _ g t220 (wrap64 (t221+1)) (wrap64 (t222+1)) t223 t224 t225 t226 t227 t228 from is56_ HI0)):gb230≠g));clear BK218;clear HI0;clear HK;clear HB;have BK218:=n0_;have HI0:=n1_;have HK:=n2_;have HB:=n3_;have BK230:=n4_;have GW230:=n5_;have GE230:=n6_;have NB218_230:=n7_;have NB230_218:=n8_;have NB0_230:=n9_;have NB230_0:=n10_;clear n0_ n1_ n2_ n3_ n4_ n5_ n6_ n7_ n8_ n9_ n10_;clear hb hbox hg;have hnb16:=NB230_218.out;have hnc16:=NB218_230.out;have hnb17:=NB230_0.out;have hnc17:=NB0_230.out;obtain⟨hcz18_0,hcz18_1,hcz18_2,hcz18_3,hfz18_0,hfz18_1,hfz18_2,hfz18_3⟩:=bo4_ BK230)|((with_reducible refine gate_callee (f:=20) rfl ?_);refine gl_ (some 50) Tryd.func20 #[.pointer (some ⟨g,0,none⟩),.string (⟨#[37]⟩:ByteArray)] ?_;(with_reducible refine(rule_reader_take.calls _ _ _ _ _ _ _ _ _ _ _ _ _ _ _ _ _ _ _ _ _ _ w0 _ ?side1 ?side2 A12.out).mono ?_);(case side1=>exact is56_ HI0);(case side2=>exact bs56_ HB HI0);rintro e w19 ⟨rfl,hi,hb,hk⟩;refine⟨_,rfl,?_⟩;have n0_:=Aside0.mk (KeepBut.blk hk (g':=gb218) (o:= .cells #[.int .u8 0,.int .i64 0,.bool false,.slice none 0 0] 36 (0,0)) ((bf_ BK218).out) NB218_0.out (by simp));have n1_:=Aside0.mk (KeepBut.blk hk (g':=gb230) (o:= .cells #[.int .u8 (bt t219 0),.int .i64 0,.bool false,.slice none 0 0] 36 (0,0)) ((bp_ BK230).out) NB230_0.out (by simp));have n2_:=Aside0.mk (KeepBut.trans (kp_ HK) hk (.inl rfl));have n3_:=Aside0.mk (hb);have n4_:=Aside0.mk (hi);clear BK218;clear BK230;clear HK;clear HB;clear HI0;have BK218:=n0_;have BK230:=n1_;have HK:=n2_;have HB:=n3_;have HI0:=n4_;clear n0_ n1_ n2_ n3_ n4_;(try clear hb);(try clear hk);(try clear hi)))
     (try simp only[Act.put,List.setIfInBounds_toArray,List.set_cons_zero,List.set_cons_succ])
     go_cut [] (fun wc=>∃(kq:Nat) (x1000_12:ByteArray) (x1001_12:Int) (x1002_12:Int) (x1003_12:Bool) (x1004_12:Bool) (x1005_12:Bool) (x1006_12:Bool) (x1007_12:Bool) (x1008_12:Bool) (x231001_12:Int),Aside0 (rule_reader_rel.j1 kq x1000_12 x1001_12 x1002_12 x1003_12 x1004_12 x1005_12 x1006_12 x1007_12 x1008_12 (bt t219 0) x231001_12 false=some (r1,r2,r3,r4,r5,r6,r7,r8,r9,r10,r11,r12,r13))∧Aside0 (kq≤kj2)∧Aside0 (wc.heap[gb218]? = some (.cells #[.int .u8 0,.int .i64 0,.bool false,(.slice none 0 0)] 36 (0,0)))∧Aside0 (wc.heap[gb230]? = some (.cells #[.int .u8 (bt t219 0),.int .i64 x231001_12,.bool false,(.slice none 0 0)] 36 (0,0)))∧Aside0 (IsS56 w0 wc g x1000_12 x1001_12 x1002_12 x1003_12 x1004_12 x1005_12 x1006_12 x1007_12 x1008_12)∧Aside0 (KeepBut w wc g none)∧Aside0 (Below w0.heap.size w0 wc))
     case first =>
      have H:=HC13.out
      clear HC13
      by_cases c20:t231=true
      ·subst c20
       have H1:((rule_reader_value.f kj2 t232 t233 t234 t235 t236 t237 t238 t239 t240).bind fun bt241=>(if bt241.1=0 then (none) else (rule_reader_rel.j1 kj2 bt241.2.2.1 bt241.2.2.2.1 bt241.2.2.2.2.1 bt241.2.2.2.2.2.1 bt241.2.2.2.2.2.2.1 bt241.2.2.2.2.2.2.2.1 bt241.2.2.2.2.2.2.2.2.1 bt241.2.2.2.2.2.2.2.2.2.1 bt241.2.2.2.2.2.2.2.2.2.2 (bt t219 0) bt241.1 false)))=some (r1,r2,r3,r4,r5,r6,r7,r8,r9,r10,r11,r12,r13):=by rw[if_pos rfl] at H;exact H
       clear H
       have H:=H1
       clear H1
       replace H:=Option.bind_eq_some_iff.mp H
       obtain⟨⟨t241,t242,t243,t244,t245,t246,t247,t248,t249,t250,t251⟩,A210,H⟩:=H
       dsimp only at H
       have A21:=Aside0.mk A210
       clear A210
       replace H:=ifp_ H
       obtain⟨c22,H⟩:=H
       have c22b0:(t241==0)=false:=beq_eq_false_iff_ne.mpr c22
       have c22b1:(t241 !=0)=true:=bne_iff_ne.mpr c22
       (first|rw[c22b0]|(simp only[i64_w,i32_w];rw[c22b0])|skip)
       have H':=Aside0.mk H
       clear H
       go_wp2_with (first|((with_reducible refine gate_callee (f:=46) rfl ?_);refine gl_ (some 53) Tryd.func46 #[.pointer (some ⟨g,0,none⟩)] ?_;(with_reducible refine(rule_reader_value.calls _ _ _ _ _ _ _ _ _ _ _ _ _ _ _ _ _ _ _ _ _ _ w0 _ ?side1 ?side2 A21.out).mono ?_);(case side1=>exact is56_ HI0);(case side2=>exact bs56_ HB HI0);rintro e w23 ⟨rfl,hi,hb,hk⟩;refine⟨_,rfl,?_⟩;have n0_:=Aside0.mk (KeepBut.blk hk (bk_ BK218).out NB218_0.out (by simp));have n1_:=Aside0.mk (KeepBut.blk hk (bk_ BK230).out NB230_0.out (by simp));have n2_:=Aside0.mk (KeepBut.trans (kp_ HK) hk (.inl rfl));have n3_:=Aside0.mk (hb);have n4_:=Aside0.mk (hi);clear BK218;clear BK230;clear HK;clear HB;clear HI0;have BK218:=n0_;have BK230:=n1_;have HK:=n2_;have HB:=n3_;have HI0:=n4_;clear n0_ n1_ n2_ n3_ n4_;(try clear hb);(try clear hk);(try clear hi);have hnb24:=NB230_218.out;have hnc24:=NB218_230.out;have hnb25:=NB230_0.out;have hnc25:=NB0_230.out;obtain⟨hcz26_0,hcz26_1,hcz26_2,hcz26_3,hfz26_0,hfz26_1,hfz26_2,hfz26_3⟩:=bo4_ BK230))
       go_meet
       case rel=>exact⟨_,(t243),(t244),(t245),(t246),(t247),(t248),(t249),(t250),(t251),(t241),H',⟨by have:=HJ2.out;first|omega|exact Nat.le_refl _⟩,⟨(bf_ BK218).out⟩,⟨(bp_ BK230).out⟩,⟨is56_ HI0⟩,⟨kp_ HK⟩,⟨bs56_ HB HI0⟩⟩
      ·replace c20:=Bool.eq_false_iff.mpr c20
       subst c20
       have H1:(rule_reader_rel.j1 kj2 t232 t233 t234 t235 t236 t237 t238 t239 t240 (bt t219 0) 0 false)=some (r1,r2,r3,r4,r5,r6,r7,r8,r9,r10,r11,r12,r13):=by rw[if_neg (show ¬(false=true) by decide)] at H;exact H
       clear H
       have H:=H1
       clear H1
       have H':=Aside0.mk H
       clear H
       go_wp2
       go_meet
       case rel=>exact⟨_,(t232),(t233),(t234),(t235),(t236),(t237),(t238),(t239),(t240),(0),H',⟨by have:=HJ2.out;first|omega|exact Nat.le_refl _⟩,(bk_ BK218),(bk_ BK230),⟨is56_ HI0⟩,⟨kp_ HK⟩,⟨bs56_ HB HI0⟩⟩
     case rest =>
      clear HC13
      obtain⟨kq,x1000_12,x1001_12,x1002_12,x1003_12,x1004_12,x1005_12,x1006_12,x1007_12,x1008_12,x231001_12,HA,HJ12,BK218,BK230,HI0,HK,HB⟩:=hcut
      cases kq with
      | zero=>exact absurd HA.out (by simp[rule_reader_rel.j1])
      | succ kj12 =>
       have H:=HA.out
       clear HA
       simp only[rule_reader_rel.j1] at H
       replace H:=Option.bind_eq_some_iff.mp H
       obtain⟨⟨t252,t253,t254,t255,t256,t257,t258,t259,t260,t261⟩,A270,H⟩:=H
       dsimp only at H
       have A27:=Aside0.mk A270
       clear A270
       have HC28:=Aside0.mk H
       clear H
       go_upto_if 67 with (first|((with_reducible refine gate_callee (f:=20) rfl ?_);refine gl_ (some 63) Tryd.func20 #[.pointer (some ⟨g,0,none⟩),.string (⟨#[33,61]⟩:ByteArray)] ?_;(with_reducible refine(rule_reader_take.calls _ _ _ _ _ _ _ _ _ _ _ _ _ _ _ _ _ _ _ _ _ _ w0 _ ?side1 ?side2 A27.out).mono ?_);(case side1=>exact is56_ HI0);(case side2=>exact bs56_ HB HI0);rintro e w29 ⟨rfl,hi,hb,hk⟩;refine⟨_,rfl,?_⟩;have n0_:=Aside0.mk (KeepBut.blk hk (bk_ BK218).out NB218_0.out (by simp));have n1_:=Aside0.mk (KeepBut.blk hk (bk_ BK230).out NB230_0.out (by simp));have n2_:=Aside0.mk (KeepBut.trans (kp_ HK) hk (.inl rfl));have n3_:=Aside0.mk (hb);have n4_:=Aside0.mk (hi);clear BK218;clear BK230;clear HK;clear HB;clear HI0;have BK218:=n0_;have BK230:=n1_;have HK:=n2_;have HB:=n3_;have HI0:=n4_;clear n0_ n1_ n2_ n3_ n4_;(try clear hb);(try clear hk);(try clear hi);have hnb30:=NB230_218.out;have hnc30:=NB218_230.out;have hnb31:=NB230_0.out;have hnc31:=NB0_230.out;obtain⟨hcz32_0,hcz32_1,hcz32_2,hcz32_3,hfz32_0,hfz32_1,hfz32_2,hfz32_3⟩:=bo4_ BK230))
       (try simp only[Act.put,List.setIfInBounds_toArray,List.set_cons_zero,List.set_cons_succ])
       go_cut [] (fun wc=>∃(kq:Nat) (x1000_27:ByteArray) (x1001_27:Int) (x1002_27:Int) (x1003_27:Bool) (x1004_27:Bool) (x1005_27:Bool) (x1006_27:Bool) (x1007_27:Bool) (x1008_27:Bool),Aside0 (rule_reader_rel.j2 kq x1000_27 x1001_27 x1002_27 x1003_27 x1004_27 x1005_27 x1006_27 x1007_27 x1008_27 (bt t219 0) x231001_12 t252=some (r1,r2,r3,r4,r5,r6,r7,r8,r9,r10,r11,r12,r13))∧Aside0 (kq≤kj12)∧Aside0 (wc.heap[gb218]? = some (.cells #[.int .u8 0,.int .i64 0,.bool false,(.slice none 0 0)] 36 (0,0)))∧Aside0 (wc.heap[gb230]? = some (.cells #[.int .u8 (bt t219 0),.int .i64 x231001_12,.bool t252,(.slice none 0 0)] 36 (0,0)))∧Aside0 (IsS56 w0 wc g x1000_27 x1001_27 x1002_27 x1003_27 x1004_27 x1005_27 x1006_27 x1007_27 x1008_27)∧Aside0 (KeepBut w wc g none)∧Aside0 (Below w0.heap.size w0 wc))
       case first =>
        have H:=HC28.out
        clear HC28
        by_cases c33:t252=true
        ·subst c33
         have H1:(rule_reader_rel.j2 kj12 t253 t254 t255 t256 t257 t258 t259 t260 t261 (bt t219 0) x231001_12 true)=some (r1,r2,r3,r4,r5,r6,r7,r8,r9,r10,r11,r12,r13):=by rw[if_pos rfl] at H;exact H
         clear H
         have H:=H1
         clear H1
         have H':=Aside0.mk H
         clear H
         go_wp2
         go_meet
         case rel=>exact⟨_,(t253),(t254),(t255),(t256),(t257),(t258),(t259),(t260),(t261),H',⟨by have:=HJ2.out;have:=HJ12.out;first|omega|exact Nat.le_refl _⟩,⟨(bf_ BK218).out⟩,⟨(bp_ BK230).out⟩,⟨is56_ HI0⟩,⟨kp_ HK⟩,⟨bs56_ HB HI0⟩⟩
        ·replace c33:=Bool.eq_false_iff.mpr c33
         subst c33
         have H1:((rule_reader_want.f kj12 t253 t254 t255 t256 t257 t258 t259 t260 t261 (⟨#[61]⟩:ByteArray)).bind fun bt262=>(rule_reader_rel.j2 kj12 bt262.1 bt262.2.1 bt262.2.2.1 bt262.2.2.2.1 bt262.2.2.2.2.1 bt262.2.2.2.2.2.1 bt262.2.2.2.2.2.2.1 bt262.2.2.2.2.2.2.2.1 bt262.2.2.2.2.2.2.2.2 (bt t219 0) x231001_12 false))=some (r1,r2,r3,r4,r5,r6,r7,r8,r9,r10,r11,r12,r13):=by rw[if_neg (show ¬(false=true) by decide)] at H;exact H
         clear H
         have H:=H1
         clear H1
         replace H:=Option.bind_eq_some_iff.mp H
         obtain⟨⟨t262,t263,t264,t265,t266,t267,t268,t269,t270⟩,A340,H⟩:=H
         dsimp only at H
         have A34:=Aside0.mk A340
         clear A340
         have H':=Aside0.mk H
         clear H
         go_wp2_with (first|((with_reducible refine gate_callee (f:=28) rfl ?_);refine gl_ (some 69) Tryd.func28 #[.pointer (some ⟨g,0,none⟩),.string (⟨#[61]⟩:ByteArray)] ?_;(with_reducible refine(rule_reader_want.calls _ _ _ _ _ _ _ _ _ _ _ _ _ _ _ _ _ _ _ _ _ w0 _ ?side1 ?side2 A34.out).mono ?_);(case side1=>exact is56_ HI0);(case side2=>exact bs56_ HB HI0);rintro e w35 ⟨rfl,hi,hb,hk⟩;refine⟨_,rfl,?_⟩;have n0_:=Aside0.mk (KeepBut.blk hk (g':=gb218) (o:= .cells #[.int .u8 0,.int .i64 0,.bool false,.slice none 0 0] 36 (0,0)) ((bf_ BK218).out) NB218_0.out (by simp));have n1_:=Aside0.mk (KeepBut.blk hk (g':=gb230) (o:= .cells #[.int .u8 (bt t219 0),.int .i64 x231001_12,.bool false,.slice none 0 0] 36 (0,0)) ((bp_ BK230).out) NB230_0.out (by simp));have n2_:=Aside0.mk (KeepBut.trans (kp_ HK) hk (.inl rfl));have n3_:=Aside0.mk (hb);have n4_:=Aside0.mk (hi);clear BK218;clear BK230;clear HK;clear HB;clear HI0;have BK218:=n0_;have BK230:=n1_;have HK:=n2_;have HB:=n3_;have HI0:=n4_;clear n0_ n1_ n2_ n3_ n4_;(try clear hb);(try clear hk);(try clear hi)))
         go_meet
         case rel=>exact⟨_,(t262),(t263),(t264),(t265),(t266),(t267),(t268),(t269),(t270),H',⟨by have:=HJ2.out;have:=HJ12.out;first|omega|exact Nat.le_refl _⟩,(bk_ BK218),(bk_ BK230),⟨is56_ HI0⟩,⟨kp_ HK⟩,⟨bs56_ HB HI0⟩⟩
       case rest =>
        clear HC28
        obtain⟨kq,x1000_27,x1001_27,x1002_27,x1003_27,x1004_27,x1005_27,x1006_27,x1007_27,x1008_27,HA,HJ27,BK218,BK230,HI0,HK,HB⟩:=hcut
        cases kq with
        | zero=>exact absurd HA.out (by simp[rule_reader_rel.j2])
        | succ kj27 =>
         have H:=HA.out
         clear HA
         simp only[rule_reader_rel.j2] at H
         replace H:=Option.bind_eq_some_iff.mp H
         obtain⟨⟨t271,t272,t273,t274,t275,t276,t277,t278,t279,t280,t281⟩,A360,H⟩:=H
         dsimp only at H
         have A36:=Aside0.mk A360
         clear A360
         replace H:=ifn_ H
         obtain⟨c37,H⟩:=H
         have LMc37:=Aside0.mk c37
         clear c37
         obtain⟨y282,hy282⟩:∃y_:List (S38),y_=(([]:List (S38))++[(⟨t271,t272⟩:S38)]):=⟨_,rfl⟩
         replace H:(rule_reader_rel.l0 kj27 t273 t274 t275 t276 t277 t278 t279 t280 t281 (bt t219 0) x231001_12 t252 y282)=some (r1,r2,r3,r4,r5,r6,r7,r8,r9,r10,r11,r12,r13):=by first|(rw[hy282];with_reducible exact H)|(have H2_:=(Option.bind_some _ _).symm.trans H;rw[hy282];with_reducible exact H2_)|(have H2_:=(Option.bind_some _ _).symm.trans H;with_reducible exact H2_)|with_reducible exact H|(rw[hy282];exact H)|exact H
         have Ny282:=Aside0.mk hy282
         clear hy282
         have H':=Aside0.mk H
         clear H
         try go_wp2
         replace BK218:=Aside0.mk (blk_drew BK218.out)
         replace BK230:=Aside0.mk (blk_drew BK230.out)
         replace HI0:=Aside0.mk (IsS56.drew HI0.out)
         replace HK:=Aside0.mk (keep_drew HK.out)
         replace HB:=Aside0.mk (below_drew1 HB.out)
         refine start_ (n:=8) (S:=fun w'=>w'.cell? ⟨gb230,0,none⟩=some (.int .u8 (bt t219 0))∧w'.cell? ⟨gb230,1,none⟩=some (.int .i64 x231001_12)∧w'.cell? ⟨gb230,2,none⟩=some (.bool t252)∧w'.cell? ⟨gb230,3,none⟩=some (.slice none 0 0)) (ds:=[7]) #[false,false,false,false,false,false,false,false] (by kernel_rfl) rfl rfl ⟨bc_ BK230 0,bc_ BK230 1,bc_ BK230 2,bc_ BK230 3⟩ (fun hHeld=>?_);refine with_tabW rule_reader_rel.tab17 rule_reader_rel.bits17 (fun HT_ HW_=>?_)
         generalize wc.drew=w38 at BK218 BK230 HI0 HK HB hHeld ⊢
         refine pu_ 0 70 #[true,false,false,false,false,false,false,false] HT_ ?_
         refine pu_ 2 72 #[true,false,true,false,false,false,false,false] HT_ ?_
         refine tk_ 1 71 #[true,true,true,false,false,false,false,false] HT_ HW_ hHeld rfl (by rintro w' ⟨s0,s1,s2,s3⟩;go_simp;with_reducible rfl) ?_
         refine one_ (i:=3) (N:=some 73) #[true,true,true,true,false,false,false,false] rfl rfl (one_of HT_.out (by kernel_rfl)) (by decide) (fun K hK=>?_)
         refine gs_ Tryd.func47 #[.pointer (some ⟨g,0,none⟩)] ?_
         with_reducible refine(rule_reader_span.calls _ _ _ _ _ _ _ _ _ _ _ _ _ _ _ _ _ _ _ _ _ _ w0 _ ?side1 ?side2 A36.out).mono ?_
         (case side1=>exact is56_ HI0)
         (case side2=>exact bs56_ HB HI0)
         rintro e w39 ⟨rfl,hi,hb,hk⟩
         refine⟨_,rfl,?_⟩
         replace BK218:=Aside0.mk (KeepBut.blk hk (bk_ BK218).out NB218_0.out (by simp))
         replace BK230:=Aside0.mk (KeepBut.blk hk (bk_ BK230).out NB230_0.out (by simp))
         replace HK:=Aside0.mk (KeepBut.trans (kp_ HK) hk (.inl rfl))
         replace HB:=Aside0.mk (hb)
         replace HI0:=Aside0.mk (hi)
         (try clear hb)
         (try clear hb2)
         (try clear hk)
         (try clear hi)
         refine hK.out _ _ ⟨bc_ BK230 0,bc_ BK230 1,bc_ BK230 2,bc_ BK230 3⟩ (fun hHeld=>?_)
         clear hK K
         refine nm_ 73 ?_
         refine one_ (i:=4) (N:=some 74) #[true,true,true,true,true,false,false,false] rfl rfl (one_of HT_.out (by kernel_rfl)) (by decide) (fun K hK=>?_)
         refine value_ (w1:=?_) (v:=?_) (by rfl) rfl ?_ ?_
         rotate_left 2
         ·go_simp
          constructor
          ·rfl
          ·rfl
         refine hK.out _ _ ⟨(blk_cell (blk_alloc BK230.out _) 0).trans rfl,(blk_cell (blk_alloc BK230.out _) 1).trans rfl,(blk_cell (blk_alloc BK230.out _) 2).trans rfl,(blk_cell (blk_alloc BK230.out _) 3).trans rfl⟩ (fun hHeld=>?_)
         clear hK K
         refine nm_ 74 ?_
         refine one_ (i:=5) (N:=some 75) #[true,true,true,true,true,true,false,false] rfl rfl (one_of HT_.out (by kernel_rfl)) (by decide) (fun K hK=>?_)
         refine Kd.R_append_step k38 w.heap.size (by rfl) (.tmp 71) (.tmp 74) 34 38 (.agg #[(.int .i64 0),(.int .i64 0)]) 16 rfl Tryd.underlying34 info38 rfl (by decide) (by omega) (.slice none 0 0) ([]:List (S38)) (⟨t271,t272⟩:S38) [.int .i64 t271,.int .i64 t272] (fun _=>True) (fun _=>False) rfl rfl ?aP (fun _ hk=>hk.elim) ?aF ?aO (Below.refl _ _) ?aS ?aL ?_
         (case aP=>exact k38_mkM _ _ _ (⟨t271,t272⟩:S38))
         (case aF=>exact(fun _ _=>trivial))
         (case aO=>exact((Kd.R_nil _ _ _ _ (fun _=>True))))
         (case aS=>exact(keep_size (w:=w) (g:=g) (row:=none) (kp_ HK)))
         (case aL=>have:=LMc37.out;omega)
         intro v283 w40 ho hb hg hat
         rw[← Ny282.out] at ho
         have n0_:=Aside0.mk (blk_grown (bk_ BK218).out hg (by simp[Value.ownBlock]))
         have n1_:=Aside0.mk (blk_grown (bk_ BK230).out hg (by simp[Value.ownBlock]))
         have n2_:=Aside0.mk (IsS56.grown (is56_ HI0) hg (by simp[Value.ownBlock]))
         have n3_:=Aside0.mk (below_weaken (bs56_ HB HI0) HL.out hb)
         have n4_:=Aside0.mk (KeepBut.trans (kp_ HK) (KeepBut.of_grown hg g) (.inl (by simp[Value.ownBlock])))
         have n5_:=Aside0.mk (ho)
         clear BK218
         clear BK230
         clear HI0
         clear HB
         clear HK
         have BK218:=n0_
         have BK230:=n1_
         have HI0:=n2_
         have HB:=n3_
         have HK:=n4_
         have HO284:=n5_
         clear n0_ n1_ n2_ n3_ n4_ n5_
         clear ho hb hg hat
         obtain⟨Ao41,co41,eo41⟩:=Kd.R_slice HO284.out
         (first|subst eo41|(injection eo41 with f1_ f2_ f3_;have f4_:=f1_.symm;have f5_:=f3_.symm;clear f1_ f2_ f3_;subst f4_;subst f5_))
         refine hK.out _ _ ⟨bc_ BK230 0,bc_ BK230 1,bc_ BK230 2,bc_ BK230 3⟩ (fun hHeld=>?_)
         clear hK K
         refine nm_ 75 ?_
         refine pu_ 6 76 #[true,true,true,true,true,true,true,false] HT_ ?_
         refine last_ (i:=7) (N:=none) #[true,true,true,true,true,true,true,true] rfl rfl (one_of HT_.out (by kernel_rfl)) (by decide) (fun K hK=>?_)
         have hs42:w40.cell? ⟨gb230,3,none⟩=some (.slice none 0 0):=bc_ BK230 3
         have hfs42:=blk_frozen BK230.out 3
         have hns42_0:=NB218_230.out
         have hms42_0:=NB230_218.out
         refine skip_ (w1:=?_) (by rfl) rfl ?_ ?_
         rotate_left
         ·go_simp
          rfl
         refine hK.out _ _ ?_
         clear hK K
         refine done_ (done_of HT_.out (by kernel_rfl)) ?_
         try go_wp2
         go_loopg [] kj27 (fun kq w'=>∃(x1000_4:ByteArray) (x1001_4:Int) (x1002_4:Int) (x1003_4:Bool) (x1004_4:Bool) (x1005_4:Bool) (x1006_4:Bool) (x1007_4:Bool) (x1008_4:Bool) (x231003_4:List (S38)) (u231003:Value),Aside0 (rule_reader_rel.l0 kq x1000_4 x1001_4 x1002_4 x1003_4 x1004_4 x1005_4 x1006_4 x1007_4 x1008_4 (bt t219 0) x231001_12 t252 x231003_4=some (r1,r2,r3,r4,r5,r6,r7,r8,r9,r10,r11,r12,r13))∧Aside0 (kq≤kj27)∧Aside0 (Kd.R k38 38 w' w.heap.size (fun _=>True) u231003 x231003_4)∧Aside0 (w'.heap[gb218]? = some (.cells #[.int .u8 0,.int .i64 0,.bool false,(.slice none 0 0)] 36 (0,0)))∧Aside0 (w'.heap[gb230]? = some (.cells #[.int .u8 (bt t219 0),.int .i64 x231001_12,.bool t252,u231003] 36 (0,0)))∧Aside0 (IsS56 w0 w' g x1000_4 x1001_4 x1002_4 x1003_4 x1004_4 x1005_4 x1006_4 x1007_4 x1008_4)∧Aside0 (KeepBut w w' g none)∧Aside0 (Below w0.heap.size w0 w'))
         case atStart=>exact⟨(t273),(t274),(t275),(t276),(t277),(t278),(t279),(t280),(t281),(y282),(.slice Ao41 y282.length co41),H',⟨Nat.le_refl _⟩,⟨kdR_ (Kd.R_mono (Kd.R_far (Kd.R_types HO284.out BK230.out (by decide)) (fun _ hk=>hk.2) _) (fun _ hk=>trivial))⟩,⟨(bf_ BK218).out⟩,⟨(bp_ BK230).out⟩,⟨is56_ HI0⟩,⟨kp_ HK⟩,⟨bs56_ HB HI0⟩⟩
         case round =>
          clear H'
          obtain⟨x1000_4,x1001_4,x1002_4,x1003_4,x1004_4,x1005_4,x1006_4,x1007_4,x1008_4,x231003_4,u231003,HA,HK4,HO_231003,BK218,BK230,HI0,HK,HB⟩:=hrel
          cases gk with
          | zero=>exact absurd HA.out (by simp[rule_reader_rel.l0])
          | succ k4 =>
           have H:=HA.out
           clear HA
           simp only[rule_reader_rel.l0] at H
           replace H:=Option.bind_eq_some_iff.mp H
           obtain⟨⟨t285,t286,t287,t288,t289,t290,t291,t292,t293,t294⟩,A430,H⟩:=H
           dsimp only at H
           have A43:=Aside0.mk A430
           clear A430
           by_cases c44:t285=true
           ·subst c44
            have H1:((rule_reader_span.f k4 t286 t287 t288 t289 t290 t291 t292 t293 t294).bind fun bt295=>(if x231003_4.length<8796093022208 then (rule_reader_rel.l0 k4 bt295.2.2.1 bt295.2.2.2.1 bt295.2.2.2.2.1 bt295.2.2.2.2.2.1 bt295.2.2.2.2.2.2.1 bt295.2.2.2.2.2.2.2.1 bt295.2.2.2.2.2.2.2.2.1 bt295.2.2.2.2.2.2.2.2.2.1 bt295.2.2.2.2.2.2.2.2.2.2 (bt t219 0) x231001_12 t252 (x231003_4++[(⟨bt295.1,bt295.2.1⟩:S38)])) else (none)))=some (r1,r2,r3,r4,r5,r6,r7,r8,r9,r10,r11,r12,r13):=by rw[if_pos rfl] at H;exact H
            clear H
            have H:=H1
            clear H1
            replace H:=Option.bind_eq_some_iff.mp H
            obtain⟨⟨t295,t296,t297,t298,t299,t300,t301,t302,t303,t304,t305⟩,A450,H⟩:=H
            dsimp only at H
            have A45:=Aside0.mk A450
            clear A450
            replace H:=ifn_ H
            obtain⟨c46,H⟩:=H
            have LMc46:=Aside0.mk c46
            clear c46
            obtain⟨y306,hy306⟩:∃y_:List (S38),y_=(x231003_4++[(⟨t295,t296⟩:S38)]):=⟨_,rfl⟩
            replace H:(rule_reader_rel.l0 k4 t297 t298 t299 t300 t301 t302 t303 t304 t305 (bt t219 0) x231001_12 t252 y306)=some (r1,r2,r3,r4,r5,r6,r7,r8,r9,r10,r11,r12,r13):=by first|(rw[hy306];with_reducible exact H)|(have H2_:=(Option.bind_some _ _).symm.trans H;rw[hy306];with_reducible exact H2_)|(have H2_:=(Option.bind_some _ _).symm.trans H;with_reducible exact H2_)|with_reducible exact H|(rw[hy306];exact H)|exact H
            have Ny306:=Aside0.mk hy306
            clear hy306
            have H':=Aside0.mk H
            clear H
            try go_wp2_with (first|((with_reducible refine gate_callee (f:=20) rfl ?_);refine gl_ (some 78) Tryd.func20 #[.pointer (some ⟨g,0,none⟩),.string (⟨#[44]⟩:ByteArray)] ?_;(with_reducible refine(rule_reader_take.calls _ _ _ _ _ _ _ _ _ _ _ _ _ _ _ _ _ _ _ _ _ _ w0 _ ?side1 ?side2 A43.out).mono ?_);(case side1=>exact is56_ HI0);(case side2=>exact bs56_ HB HI0);rintro e w47 ⟨rfl,hi,hb,hk⟩;refine⟨_,rfl,?_⟩;have n0_:=Aside0.mk (Kd.R_mono (Kd.R_keep (IsS56.apart (show IsS56 w0 _ g x1000_4 x1001_4 x1002_4 x1003_4 x1004_4 x1005_4 x1006_4 x1007_4 x1008_4 from is56_ HI0) (kr_ HO_231003) (by decide)) hk (fun _ h=>h.2)) (fun _ h=>h.1));have n1_:=Aside0.mk (KeepBut.blk hk (bk_ BK218).out NB218_0.out (by simp));have n2_:=Aside0.mk (KeepBut.blk hk (bk_ BK230).out NB230_0.out (by simp));have n3_:=Aside0.mk (KeepBut.trans (kp_ HK) hk (.inl rfl));have n4_:=Aside0.mk (hb);have n5_:=Aside0.mk (hi);clear HO_231003;clear BK218;clear BK230;clear HK;clear HB;clear HI0;have HO_231003:=n0_;have BK218:=n1_;have BK230:=n2_;have HK:=n3_;have HB:=n4_;have HI0:=n5_;clear n0_ n1_ n2_ n3_ n4_ n5_;(try clear hb);(try clear hk);(try clear hi)))
            replace HO_231003:=Aside0.mk (Kd.R_drew HO_231003.out)
            replace BK218:=Aside0.mk (blk_drew BK218.out)
            replace BK230:=Aside0.mk (blk_drew BK230.out)
            replace HI0:=Aside0.mk (IsS56.drew HI0.out)
            replace HK:=Aside0.mk (keep_drew HK.out)
            replace HB:=Aside0.mk (below_drew1 HB.out)
            refine start_ (n:=8) (S:=fun w'=>w'.cell? ⟨gb230,0,none⟩=some (.int .u8 (bt t219 0))∧w'.cell? ⟨gb230,1,none⟩=some (.int .i64 x231001_12)∧w'.cell? ⟨gb230,2,none⟩=some (.bool t252)∧w'.cell? ⟨gb230,3,none⟩=some (u231003)) (ds:=[7]) #[false,false,false,false,false,false,false,false] (by kernel_rfl) rfl rfl ⟨bc_ BK230 0,bc_ BK230 1,bc_ BK230 2,bc_ BK230 3⟩ (fun hHeld=>?_);refine with_tabW rule_reader_rel.tab19 rule_reader_rel.bits19 (fun HT_ HW_=>?_)
            generalize w47.drew=w48 at HO_231003 BK218 BK230 HI0 HK HB hHeld ⊢
            refine pu_ 0 79 #[true,false,false,false,false,false,false,false] HT_ ?_
            refine pu_ 2 81 #[true,false,true,false,false,false,false,false] HT_ ?_
            refine tk_ 1 80 #[true,true,true,false,false,false,false,false] HT_ HW_ hHeld rfl (by rintro w' ⟨s0,s1,s2,s3⟩;go_simp;with_reducible rfl) ?_
            refine one_ (i:=3) (N:=some 82) #[true,true,true,true,false,false,false,false] rfl rfl (one_of HT_.out (by kernel_rfl)) (by decide) (fun K hK=>?_)
            refine gs_ Tryd.func47 #[.pointer (some ⟨g,0,none⟩)] ?_
            with_reducible refine(rule_reader_span.calls _ _ _ _ _ _ _ _ _ _ _ _ _ _ _ _ _ _ _ _ _ _ w0 _ ?side1 ?side2 A45.out).mono ?_
            (case side1=>exact is56_ HI0)
            (case side2=>exact bs56_ HB HI0)
            rintro e w49 ⟨rfl,hi,hb,hk⟩
            refine⟨_,rfl,?_⟩
            have n0_:=Aside0.mk (Kd.R_mono (Kd.R_keep (IsS56.apart (show IsS56 w0 _ g t286 t287 t288 t289 t290 t291 t292 t293 t294 from is56_ HI0) (kr_ HO_231003) (by decide)) hk (fun _ h=>h.2)) (fun _ h=>h.1))
            have n1_:=Aside0.mk (KeepBut.blk hk (bk_ BK218).out NB218_0.out (by simp))
            have n2_:=Aside0.mk (KeepBut.blk hk (bk_ BK230).out NB230_0.out (by simp))
            have n3_:=Aside0.mk (KeepBut.trans (kp_ HK) hk (.inl rfl))
            have n4_:=Aside0.mk (hb)
            have n5_:=Aside0.mk (hi)
            clear HO_231003
            clear BK218
            clear BK230
            clear HK
            clear HB
            clear HI0
            have HO_231003:=n0_
            have BK218:=n1_
            have BK230:=n2_
            have HK:=n3_
            have HB:=n4_
            have HI0:=n5_
            clear n0_ n1_ n2_ n3_ n4_ n5_
            (try clear hb)
            (try clear hb2)
            (try clear hk)
            (try clear hi)
            refine hK.out _ _ ⟨bc_ BK230 0,bc_ BK230 1,bc_ BK230 2,bc_ BK230 3⟩ (fun hHeld=>?_)
            clear hK K
            refine nm_ 82 ?_
            refine one_ (i:=4) (N:=some 83) #[true,true,true,true,true,false,false,false] rfl rfl (one_of HT_.out (by kernel_rfl)) (by decide) (fun K hK=>?_)
            refine value_ (w1:=?_) (v:=?_) (by rfl) rfl ?_ ?_
            rotate_left 2
            ·go_simp
             constructor
             ·rfl
             ·rfl
            refine hK.out _ _ ⟨(blk_cell (blk_alloc BK230.out _) 0).trans rfl,(blk_cell (blk_alloc BK230.out _) 1).trans rfl,(blk_cell (blk_alloc BK230.out _) 2).trans rfl,(blk_cell (blk_alloc BK230.out _) 3).trans rfl⟩ (fun hHeld=>?_)
            clear hK K
            refine nm_ 83 ?_
            refine one_ (i:=5) (N:=some 84) #[true,true,true,true,true,true,false,false] rfl rfl (one_of HT_.out (by kernel_rfl)) (by decide) (fun K hK=>?_)
            refine Kd.R_append_step k38 w.heap.size (by rfl) (.tmp 80) (.tmp 83) 34 38 (.agg #[(.int .i64 0),(.int .i64 0)]) 16 rfl Tryd.underlying34 info38 rfl (by decide) (by omega) u231003 x231003_4 (⟨t295,t296⟩:S38) [.int .i64 t295,.int .i64 t296] (fun _=>True) (fun _=>False) rfl rfl ?aP (fun _ hk=>hk.elim) ?aF ?aO (Below.refl _ _) ?aS ?aL ?_
            (case aP=>exact k38_mkM _ _ _ (⟨t295,t296⟩:S38))
            (case aF=>exact(fun _ _=>trivial))
            (case aO=>exact(kr_ HO_231003))
            (case aS=>exact(keep_size (w:=w) (g:=g) (row:=none) (kp_ HK)))
            (case aL=>have:=LMc46.out;omega)
            intro v307 w50 ho hb hg hat
            rw[← Ny306.out] at ho
            have n0_:=Aside0.mk (blk_grown (bk_ BK218).out hg (Kd.R_ne HO_231003.out BK218.out (by decide)))
            have n1_:=Aside0.mk (blk_grown (bk_ BK230).out hg (Kd.R_ne HO_231003.out BK230.out (by decide)))
            have n2_:=Aside0.mk (IsS56.grown (is56_ HI0) hg (IsS56.own_ne HI0.out HO_231003.out (by decide)))
            have n3_:=Aside0.mk (below_weaken (bs56_ HB HI0) HL.out hb)
            have n4_:=Aside0.mk (KeepBut.trans (kp_ HK) (KeepBut.of_grown hg g) (Kd.R_base2 HO_231003.out))
            have n5_:=Aside0.mk (ho)
            clear BK218
            clear BK230
            clear HI0
            clear HB
            clear HK
            clear HO_231003
            have BK218:=n0_
            have BK230:=n1_
            have HI0:=n2_
            have HB:=n3_
            have HK:=n4_
            have HO308:=n5_
            clear n0_ n1_ n2_ n3_ n4_ n5_
            clear ho hb hg hat
            obtain⟨Ao51,co51,eo51⟩:=Kd.R_slice HO308.out
            (first|subst eo51|(injection eo51 with f1_ f2_ f3_;have f4_:=f1_.symm;have f5_:=f3_.symm;clear f1_ f2_ f3_;subst f4_;subst f5_))
            refine hK.out _ _ ⟨bc_ BK230 0,bc_ BK230 1,bc_ BK230 2,bc_ BK230 3⟩ (fun hHeld=>?_)
            clear hK K
            refine nm_ 84 ?_
            refine pu_ 6 85 #[true,true,true,true,true,true,true,false] HT_ ?_
            refine last_ (i:=7) (N:=none) #[true,true,true,true,true,true,true,true] rfl rfl (one_of HT_.out (by kernel_rfl)) (by decide) (fun K hK=>?_)
            have hs52:w50.cell? ⟨gb230,3,none⟩=some (u231003):=bc_ BK230 3
            have hfs52:=blk_frozen BK230.out 3
            have hns52_0:=NB218_230.out
            have hms52_0:=NB230_218.out
            refine skip_ (w1:=?_) (by rfl) rfl ?_ ?_
            rotate_left
            ·go_simp
             rfl
            refine hK.out _ _ ?_
            clear hK K
            refine done_ (done_of HT_.out (by kernel_rfl)) ?_
            try go_wp2
            go_roundg k4
            case measure=>have:=HJ2.out;have:=HJ12.out;have:=HJ27.out;have:=HK4.out;omega
            case rel=>exact⟨(t297),(t298),(t299),(t300),(t301),(t302),(t303),(t304),(t305),(y306),(.slice Ao51 y306.length co51),H',⟨by have:=HJ2.out;have:=HJ12.out;have:=HJ27.out;have:=HK4.out;omega⟩,⟨kdR_ (Kd.R_mono (Kd.R_far (Kd.R_types HO308.out BK230.out (by decide)) (fun _ hk=>hk.2) _) (fun _ hk=>trivial))⟩,⟨(bf_ BK218).out⟩,⟨(bp_ BK230).out⟩,⟨is56_ HI0⟩,⟨kp_ HK⟩,⟨bs56_ HB HI0⟩⟩
           ·replace c44:=Bool.eq_false_iff.mpr c44
            subst c44
            have H1:(some ((bt t219 0),x231001_12,t252,x231003_4,t286,t287,t288,t289,t290,t291,t292,t293,t294))=some (r1,r2,r3,r4,r5,r6,r7,r8,r9,r10,r11,r12,r13):=by rw[if_neg (show ¬(false=true) by decide)] at H;exact H
            clear H
            have H:=H1
            clear H1
            simp only[Option.some.injEq,Prod.mk.injEq] at H
            obtain⟨rfl,rfl,rfl,rfl,rfl,rfl,rfl,rfl,rfl,rfl,rfl,rfl,rfl⟩:=H
            go_wp2_with (first|((with_reducible refine gate_callee (f:=20) rfl ?_);refine gl_ (some 78) Tryd.func20 #[.pointer (some ⟨g,0,none⟩),.string (⟨#[44]⟩:ByteArray)] ?_;(with_reducible refine(rule_reader_take.calls _ _ _ _ _ _ _ _ _ _ _ _ _ _ _ _ _ _ _ _ _ _ w0 _ ?side1 ?side2 A43.out).mono ?_);(case side1=>exact is56_ HI0);(case side2=>exact bs56_ HB HI0);rintro e w53 ⟨rfl,hi,hb,hk⟩;refine⟨_,rfl,?_⟩;have n0_:=Aside0.mk (Kd.R_mono (Kd.R_keep (IsS56.apart (show IsS56 w0 _ g x1000_4 x1001_4 x1002_4 x1003_4 x1004_4 x1005_4 x1006_4 x1007_4 x1008_4 from is56_ HI0) (kr_ HO_231003) (by decide)) hk (fun _ h=>h.2)) (fun _ h=>h.1));have n1_:=Aside0.mk (KeepBut.blk hk (bk_ BK218).out NB218_0.out (by simp));have n2_:=Aside0.mk (KeepBut.blk hk (bk_ BK230).out NB230_0.out (by simp));have n3_:=Aside0.mk (KeepBut.trans (kp_ HK) hk (.inl rfl));have n4_:=Aside0.mk (hb);have n5_:=Aside0.mk (hi);clear HO_231003;clear BK218;clear BK230;clear HK;clear HB;clear HI0;have HO_231003:=n0_;have BK218:=n1_;have BK230:=n2_;have HK:=n3_;have HB:=n4_;have HI0:=n5_;clear n0_ n1_ n2_ n3_ n4_ n5_;(try clear hb);(try clear hk);(try clear hi);have hnb54:=NB230_218.out;have hnc54:=NB218_230.out;have hnb55:=NB230_0.out;have hnc55:=NB0_230.out;obtain⟨hcz56_0,hcz56_1,hcz56_2,hcz56_3,hfz56_0,hfz56_1,hfz56_2,hfz56_3⟩:=bo4_ BK230;have hnb57:=NB218_0.out;have hnc57:=NB0_218.out;obtain⟨hcz58_0,hcz58_1,hcz58_2,hcz58_3,hfz58_0,hfz58_1,hfz58_2,hfz58_3⟩:=bo4_ BK218;obtain⟨Ao59,co59,eo59⟩:=Kd.R_slice HO_231003.out;subst eo59))
            refine bodyPost_ret (results_cell_row rfl _ _ gb218 36 #[.int .u8 (bt t219 0),.int .i64 x231001_12,.bool t252,.slice Ao59 x231003_4.length co59] (0,0) _ rfl ((bp_ BK218).out) Tryd.underlying36 rfl (by kernel_rfl)) rfl ?_
            exact⟨_,by first|rfl|(simp[errW_none,errW_some] <;> rfl)|(simp[*,errW_none,errW_some] <;> first|rfl|exact given_isEmpty _|exact(given_isEmpty _).symm),kdR_ (Kd.R_mono (Kd.R_far (Kd.R_far (Kd.R_far (Kd.R_far (Kd.R_types HO_231003.out BK218.out (by decide)) (fun _ hk=>hk.2) _) (fun _ hk=>hk.2) _) (fun _ hk=>hk.2) _) (fun _ hk=>hk.2) _) (fun _ hk=>trivial)),is56_ HI0,bs56_ HB HI0,kp_ HK⟩

/-! ### rule_reader_all: function 29 -/
def rule_reader_all.l0:Nat→List (S36)→ByteArray→Int→Int→Bool→Bool→Bool→Bool→Bool→Bool→Option ((List (S36)) × ByteArray × Int × Int × Bool × Bool × Bool × Bool × Bool × Bool)
 | 0,_,_,_,_,_,_,_,_,_,_=>none
 | k+1,x3,x1000,x1001,x1002,x1003,x1004,x1005,x1006,x1007,x1008=>(rule_reader_next.f k x1000 x1001 x1002 x1003 x1004 x1005 x1006 x1007 x1008 (⟨#[97,110,100]⟩:ByteArray)).bind fun bt327=>(if bt327.1=true then ((rule_reader_rel.f k bt327.2.1 bt327.2.2.1 bt327.2.2.2.1 bt327.2.2.2.2.1 bt327.2.2.2.2.2.1 bt327.2.2.2.2.2.2.1 bt327.2.2.2.2.2.2.2.1 bt327.2.2.2.2.2.2.2.2.1 bt327.2.2.2.2.2.2.2.2.2).bind fun bt337=>(if x3.length<2932031007402 then (rule_reader_all.l0 k (x3++[(⟨bt337.1,bt337.2.1,bt337.2.2.1,bt337.2.2.2.1⟩:S36)]) bt337.2.2.2.2.1 bt337.2.2.2.2.2.1 bt337.2.2.2.2.2.2.1 bt337.2.2.2.2.2.2.2.1 bt337.2.2.2.2.2.2.2.2.1 bt337.2.2.2.2.2.2.2.2.2.1 bt337.2.2.2.2.2.2.2.2.2.2.1 bt337.2.2.2.2.2.2.2.2.2.2.2.1 bt337.2.2.2.2.2.2.2.2.2.2.2.2) else (none))) else (some (x3,bt327.2.1,bt327.2.2.1,bt327.2.2.2.1,bt327.2.2.2.2.1,bt327.2.2.2.2.2.1,bt327.2.2.2.2.2.2.1,bt327.2.2.2.2.2.2.2.1,bt327.2.2.2.2.2.2.2.2.1,bt327.2.2.2.2.2.2.2.2.2)))
def rule_reader_all.f (k:Nat) (s0_0:ByteArray) (s0_1:Int) (s0_2:Int) (s0_3:Bool) (s0_4:Bool) (s0_5:Bool) (s0_6:Bool) (s0_7:Bool) (s0_8:Bool):Option ((List (S36)) × ByteArray × Int × Int × Bool × Bool × Bool × Bool × Bool × Bool):=(rule_reader_rel.f k s0_0 s0_1 s0_2 s0_3 s0_4 s0_5 s0_6 s0_7 s0_8).bind fun bt309=>(rule_reader_all.l0 k (([(⟨bt309.1,bt309.2.1,bt309.2.2.1,bt309.2.2.2.1⟩:S36)]:List (S36))) bt309.2.2.2.2.1 bt309.2.2.2.2.2.1 bt309.2.2.2.2.2.2.1 bt309.2.2.2.2.2.2.2.1 bt309.2.2.2.2.2.2.2.2.1 bt309.2.2.2.2.2.2.2.2.2.1 bt309.2.2.2.2.2.2.2.2.2.2.1 bt309.2.2.2.2.2.2.2.2.2.2.2.1 bt309.2.2.2.2.2.2.2.2.2.2.2.2)
set_option maxHeartbeats 64000000 in
set_option maxRecDepth 100000 in
theorem rule_reader_all.calls (k:Nat) (g:Nat) (s0_0:ByteArray) (s0_1:Int) (s0_2:Int) (s0_3:Bool) (s0_4:Bool) (s0_5:Bool) (s0_6:Bool) (s0_7:Bool) (s0_8:Bool) (r1:List (S36)) (r2:ByteArray) (r3:Int) (r4:Int) (r5:Bool) (r6:Bool) (r7:Bool) (r8:Bool) (r9:Bool) (r10:Bool) (w0 w:World) (hI:IsS56 w0 w g s0_0 s0_1 s0_2 s0_3 s0_4 s0_5 s0_6 s0_7 s0_8) (hB:Below w0.heap.size w0 w) (h:rule_reader_all.f k s0_0 s0_1 s0_2 s0_3 s0_4 s0_5 s0_6 s0_7 s0_8=some (r1,r2,r3,r4,r5,r6,r7,r8,r9,r10)) :
  Calls Tryd.prog 29 #[.pointer (some ⟨g,0,none⟩)] w fun e w'=>∃v0_:Value,e= .returned (v0_)∧Kd.N k36 36 w' w.heap.size (fun k_=>(w.heap.size≤k_)) v0_ r1∧IsS56 w0 w' g r2 r3 r4 r5 r6 r7 r8 r9 r10∧Below w0.heap.size w0 w'∧KeepBut w w' g none:=by
 have HI0:=Aside0.mk hI
 have HK:=Aside0.mk (KeepBut.refl w g none)
 have HL:=Aside0.mk hB.size
 clear hI
 have HW0:=Aside0.mk hB.size
 have HB:=Aside0.mk hB
 clear hB
 have H:((rule_reader_rel.f k s0_0 s0_1 s0_2 s0_3 s0_4 s0_5 s0_6 s0_7 s0_8).bind fun bt309=>(rule_reader_all.l0 k (([(⟨bt309.1,bt309.2.1,bt309.2.2.1,bt309.2.2.2.1⟩:S36)]:List (S36))) bt309.2.2.2.2.1 bt309.2.2.2.2.2.1 bt309.2.2.2.2.2.2.1 bt309.2.2.2.2.2.2.2.1 bt309.2.2.2.2.2.2.2.2.1 bt309.2.2.2.2.2.2.2.2.2.1 bt309.2.2.2.2.2.2.2.2.2.2.1 bt309.2.2.2.2.2.2.2.2.2.2.2.1 bt309.2.2.2.2.2.2.2.2.2.2.2.2))=some (r1,r2,r3,r4,r5,r6,r7,r8,r9,r10):=h
 clear h
 replace H:=Option.bind_eq_some_iff.mp H
 obtain⟨⟨t309,t310,t311,t312,t315,t316,t317,t318,t319,t320,t321,t322,t323⟩,A20,H⟩:=H
 dsimp only at H
 have A2:=Aside0.mk A20
 clear A20
 obtain⟨y324,hy324⟩:∃y_:List (S36),y_=(([(⟨t309,t310,t311,t312⟩:S36)]:List (S36))):=⟨_,rfl⟩
 replace H:(rule_reader_all.l0 k y324 t315 t316 t317 t318 t319 t320 t321 t322 t323)=some (r1,r2,r3,r4,r5,r6,r7,r8,r9,r10):=by first|(rw[hy324];with_reducible exact H)|(have H2_:=(Option.bind_some _ _).symm.trans H;rw[hy324];with_reducible exact H2_)|(have H2_:=(Option.bind_some _ _).symm.trans H;with_reducible exact H2_)|with_reducible exact H|(rw[hy324];exact H)|exact H
 have Ny324:=Aside0.mk hy324
 clear hy324
 have H':=Aside0.mk H
 clear H
 go_enter Tryd.func29,Tryd.ntmps29
 go_wp2_with (first|((with_reducible refine gate_callee (f:=38) rfl ?_);refine gl_ (some 5) Tryd.func38 #[.pointer (some ⟨g,0,none⟩)] ?_;(with_reducible refine(rule_reader_rel.calls _ _ _ _ _ _ _ _ _ _ _ _ _ _ _ _ _ _ _ _ _ _ _ _ w0 _ ?side1 ?side2 A2.out).mono ?_);(case side1=>exact is56_ HI0);(case side2=>exact bs56_ HB HI0);rintro e w3 ⟨v313,rfl,ho0,hi,hb,hk⟩;refine⟨_,rfl,?_⟩;have HO314:=Aside0.mk (Kd.R_lower (Kd.R_newM (M:=fun k_=>(w.heap.size≤k_)) ho0 (keep_size (w:=w) (g:=g) (row:=none) (kp_ HK)) (fun k_ h_=>h_)) (keep_size (w:=w) (g:=g) (row:=none) (kp_ HK)));replace HK:=Aside0.mk (KeepBut.trans (kp_ HK) hk (.inl rfl));replace HB:=Aside0.mk (hb);replace HI0:=Aside0.mk (hi);(try clear hb);(try clear hk);(try clear hi);(try clear ho0);obtain⟨Ao4,co4,eo4⟩:=Kd.R_slice HO314.out;subst eo4)|((with_reducible refine gate_dst (N:=6) rfl ?_);refine Kd.N_lit k36 _ 36 ?hg (N':=6) ?hd (xs:=([(⟨t309,t310,t311,t312⟩:S36)]:List (S36))) (inner:=[.int .u8 t309,.int .i64 t310,.bool t311,.slice Ao4 t312.length co4]) (ok:=(fun k_=>(w.heap.size≤k_)∧k_≠g)) (okp:=(fun k_=>(w.heap.size≤k_)∧k_≠g)) ?hr ?hp (fun _ hk=>hk) ((show ∀k_,w3.heap.size≤k_→(fun k_=>(w.heap.size≤k_)∧k_≠g) k_ from fun k_ hk=>⟨(Nat.le_trans (keep_size (w:=w) (g:=g) (row:=none) (kp_ HK)) hk),IsS56.fresh (is56_ HI0) k_ hk⟩) _ (Nat.le_refl _)) (Below.refl _ _) (Nat.le_refl _) (by simp) ?_;(case hd=>rfl);(case hg=>rfl);(case hr=>first|(go_simp;done)|(go_simp;rfl));(case hp=>exact(Reps.c4 (show Kd.FK k36 _ _ (⟨t309,t310,t311,t312⟩:S36) [.int .u8 t309,.int .i64 t310,.bool t311,.slice Ao4 t312.length co4] from(k36_mkF _ _ (⟨t309,t310,t311,t312⟩:S36) (Kd.R_reads' (Kd.R_mono (ok':=(fun k_=>(w.heap.size≤k_)∧k_≠g)) (IsS56.apart HI0.out (HO314.out) (by decide)) (fun k_ hk=>⟨hk.1.1,hk.2⟩))).2.1 (Kd.R_F (Kd.R_mono (ok':=(fun k_=>(w.heap.size≤k_)∧k_≠g)) (IsS56.apart HI0.out (HO314.out) (by decide)) (fun k_ hk=>⟨hk.1.1,hk.2⟩))))) (Reps.none _ _)));intro v325 w5 ho6 hb hg_ hnew_;clear hg_ hnew_;(first|rw[← Ny324.out] at ho6|(simp only[Int.reduceToNat] at ho6;rw[← Ny324.out] at ho6));have n0_:=Aside0.mk (Kd.N_lower ho6 (keep_size (w:=w) (g:=g) (row:=none) (kp_ HK)));have n1_:=Aside0.mk (IsS56.below (is56_ HI0) hb);have n2_:=Aside0.mk (KeepBut.trans (kp_ HK) (KeepBut.of_below hb g none) (.inl rfl));have n3_:=Aside0.mk (below_step (bs56_ HB HI0) hb);clear HI0;clear HK;clear HB;clear HO314;have HO326:=n0_;have HI0:=n1_;have HK:=n2_;have HB:=n3_;clear n0_ n1_ n2_ n3_;clear hb ho6))
 go_loopg [3] k (fun kq v3 w'=>∃(x3_1:List (S36)) (x1000_1:ByteArray) (x1001_1:Int) (x1002_1:Int) (x1003_1:Bool) (x1004_1:Bool) (x1005_1:Bool) (x1006_1:Bool) (x1007_1:Bool) (x1008_1:Bool),Aside0 (rule_reader_all.l0 kq x3_1 x1000_1 x1001_1 x1002_1 x1003_1 x1004_1 x1005_1 x1006_1 x1007_1 x1008_1=some (r1,r2,r3,r4,r5,r6,r7,r8,r9,r10))∧Aside0 (kq≤k)∧Aside0 (Kd.N k36 36 w' w.heap.size (fun k_=>(w.heap.size≤k_)∧k_≠g) v3 x3_1)∧Aside0 (IsS56 w0 w' g x1000_1 x1001_1 x1002_1 x1003_1 x1004_1 x1005_1 x1006_1 x1007_1 x1008_1)∧Aside0 (KeepBut w w' g none)∧Aside0 (Below w0.heap.size w0 w'))
 case atStart=>exact⟨(y324),(t315),(t316),(t317),(t318),(t319),(t320),(t321),(t322),(t323),H',⟨Nat.le_refl _⟩,⟨kdN_ HO326.out⟩,⟨is56_ HI0⟩,⟨kp_ HK⟩,⟨bs56_ HB HI0⟩⟩
 case round =>
  clear H'
  obtain⟨x3_1,x1000_1,x1001_1,x1002_1,x1003_1,x1004_1,x1005_1,x1006_1,x1007_1,x1008_1,HA,HK1,HO_3,HI0,HK,HB⟩:=hrel
  cases gk with
  | zero=>exact absurd HA.out (by simp[rule_reader_all.l0])
  | succ k1 =>
   have H:=HA.out
   clear HA
   simp only[rule_reader_all.l0] at H
   replace H:=Option.bind_eq_some_iff.mp H
   obtain⟨⟨t327,t328,t329,t330,t331,t332,t333,t334,t335,t336⟩,A70,H⟩:=H
   dsimp only at H
   have A7:=Aside0.mk A70
   clear A70
   by_cases c8:t327=true
   ·subst c8
    have H1:((rule_reader_rel.f k1 t328 t329 t330 t331 t332 t333 t334 t335 t336).bind fun bt337=>(if x3_1.length<2932031007402 then (rule_reader_all.l0 k1 (x3_1++[(⟨bt337.1,bt337.2.1,bt337.2.2.1,bt337.2.2.2.1⟩:S36)]) bt337.2.2.2.2.1 bt337.2.2.2.2.2.1 bt337.2.2.2.2.2.2.1 bt337.2.2.2.2.2.2.2.1 bt337.2.2.2.2.2.2.2.2.1 bt337.2.2.2.2.2.2.2.2.2.1 bt337.2.2.2.2.2.2.2.2.2.2.1 bt337.2.2.2.2.2.2.2.2.2.2.2.1 bt337.2.2.2.2.2.2.2.2.2.2.2.2) else (none)))=some (r1,r2,r3,r4,r5,r6,r7,r8,r9,r10):=by rw[if_pos rfl] at H;exact H
    clear H
    have H:=H1
    clear H1
    replace H:=Option.bind_eq_some_iff.mp H
    obtain⟨⟨t337,t338,t339,t340,t343,t344,t345,t346,t347,t348,t349,t350,t351⟩,A90,H⟩:=H
    dsimp only at H
    have A9:=Aside0.mk A90
    clear A90
    replace H:=ifn_ H
    obtain⟨c10,H⟩:=H
    have LMc10:=Aside0.mk c10
    clear c10
    obtain⟨y352,hy352⟩:∃y_:List (S36),y_=(x3_1++[(⟨t337,t338,t339,t340⟩:S36)]):=⟨_,rfl⟩
    replace H:(rule_reader_all.l0 k1 y352 t343 t344 t345 t346 t347 t348 t349 t350 t351)=some (r1,r2,r3,r4,r5,r6,r7,r8,r9,r10):=by first|(rw[hy352];with_reducible exact H)|(have H2_:=(Option.bind_some _ _).symm.trans H;rw[hy352];with_reducible exact H2_)|(have H2_:=(Option.bind_some _ _).symm.trans H;with_reducible exact H2_)|with_reducible exact H|(rw[hy352];exact H)|exact H
    have Ny352:=Aside0.mk hy352
    clear hy352
    have H':=Aside0.mk H
    clear H
    go_wp2_with (first|((with_reducible refine gate_callee (f:=30) rfl ?_);refine gl_ (some 8) Tryd.func30 #[.pointer (some ⟨g,0,none⟩),.string (⟨#[97,110,100]⟩:ByteArray)] ?_;(with_reducible refine(rule_reader_next.calls _ _ _ _ _ _ _ _ _ _ _ _ _ _ _ _ _ _ _ _ _ _ w0 _ ?side1 ?side2 A7.out).mono ?_);(case side1=>exact is56_ HI0);(case side2=>exact bs56_ HB HI0);rintro e w11 ⟨rfl,hi,hb,hk⟩;refine⟨_,rfl,?_⟩;replace HO_3:=Aside0.mk (Kd.N_mono (Kd.N_keep (Kd.N_mono (ok:=fun k_=>(((w.heap.size≤k_))∧k_≠g)) (krN_ HO_3) (fun k_ hk_=>(⟨hk_,hk_.2⟩:_∧k_≠g))) hk (fun _ h=>h.2)) (fun _ h=>h.1));replace HK:=Aside0.mk (KeepBut.trans (kp_ HK) hk (.inl rfl));replace HB:=Aside0.mk (hb);replace HI0:=Aside0.mk (hi);(try clear hb);(try clear hk);(try clear hi))|((with_reducible refine gate_callee (f:=38) rfl ?_);refine gl_ (some 11) Tryd.func38 #[.pointer (some ⟨g,0,none⟩)] ?_;(with_reducible refine(rule_reader_rel.calls _ _ _ _ _ _ _ _ _ _ _ _ _ _ _ _ _ _ _ _ _ _ _ _ w0 _ ?side1 ?side2 A9.out).mono ?_);(case side1=>exact is56_ HI0);(case side2=>exact bs56_ HB HI0);rintro e w12 ⟨v341,rfl,ho0,hi,hb,hk⟩;refine⟨_,rfl,?_⟩;have HO342:=Aside0.mk (Kd.R_lower (Kd.R_newM (M:=fun k_=>(w.heap.size≤k_)) ho0 (keep_size (w:=w) (g:=g) (row:=none) (kp_ HK)) (fun k_ h_=>h_)) (keep_size (w:=w) (g:=g) (row:=none) (kp_ HK)));replace HO_3:=Aside0.mk (Kd.N_mono (Kd.N_told (Kd.N_oldK (Kd.N_mono (ok:=fun k_=>(((w.heap.size≤k_))∧k_≠g)) (krN_ HO_3) (fun k_ hk_=>(⟨hk_,hk_.2⟩:_∧k_≠g))) hk) (Kd.R_base ho0)) (fun _ h_=>h_.1));replace HK:=Aside0.mk (KeepBut.trans (kp_ HK) hk (.inl rfl));replace HB:=Aside0.mk (hb);replace HI0:=Aside0.mk (hi);(try clear hb);(try clear hk);(try clear hi);(try clear ho0);obtain⟨Ao14,co14,eo14⟩:=Kd.R_slice HO342.out;subst eo14)|((with_reducible refine gate_builtin (b:= .append) (xs:= #[.tmp 9,.tmp 12]) rfl ?_);at_builtin;refine Kd.N_append k36 w.heap.size rfl (.tmp 9) (.tmp 12) 33 36 (.agg #[(.int .u8 0),(.int .i64 0),(.bool false),(.slice none 0 0)]) 48 rfl Tryd.underlying33 info36 rfl (by decide) (by omega) u3 x3_1 (⟨t337,t338,t339,t340⟩:S36) [.int .u8 t337,.int .i64 t338,.bool t339,.slice Ao14 t340.length co14] (fun k_=>(w.heap.size≤k_)∧k_≠g) (fun k_=>((fun k_=>(w.heap.size≤k_)∧k_≠g)) k_∧some k_≠(u3:Value).ownBlock) rfl rfl ?aP (fun _ hk=>hk) ?aF ?aO (Below.refl _ _) ?aS ?aL ?_;(case aP=>exact(k36_mkF _ _ (⟨t337,t338,t339,t340⟩:S36) (Kd.R_reads' (Kd.R_mono (ok':=(fun k_=>((fun k_=>(w.heap.size≤k_)∧k_≠g)) k_∧some k_≠(u3:Value).ownBlock)) (IsS56.apart HI0.out (Kd.R_apart' (HO342.out) (Kd.N_typed HO_3.out) (by decide)) (by decide)) (fun k_ hk=>⟨⟨hk.1.1.1,hk.2⟩,hk.1.2⟩))).2.1 (Kd.R_F (Kd.R_mono (ok':=(fun k_=>((fun k_=>(w.heap.size≤k_)∧k_≠g)) k_∧some k_≠(u3:Value).ownBlock)) (IsS56.apart HI0.out (Kd.R_apart' (HO342.out) (Kd.N_typed HO_3.out) (by decide)) (by decide)) (fun k_ hk=>⟨⟨hk.1.1.1,hk.2⟩,hk.1.2⟩)))));(case aF=>exact(fun k_ hk=>⟨(Nat.le_trans (keep_size (w:=w) (g:=g) (row:=none) (kp_ HK)) hk),IsS56.fresh (is56_ HI0) k_ hk⟩));(case aO=>exact(kdN_ (Kd.N_mono HO_3.out (fun _ hk=>⟨hk.1.1,hk.1.2⟩))));(case aS=>exact(keep_size (w:=w) (g:=g) (row:=none) (kp_ HK)));(case aL=>have:=LMc10.out;omega);intro v353 w13 ho hb hg hat;rw[← Ny352.out] at ho;have n0_:=Aside0.mk (IsS56.grown (is56_ HI0) hg (IsS56.own_neN HI0.out HO_3.out (by decide)));have n1_:=Aside0.mk (below_weaken (bs56_ HB HI0) HL.out hb);have n2_:=Aside0.mk (KeepBut.trans (kp_ HK) (KeepBut.of_grown hg g) (Kd.N_base2 HO_3.out));have n3_:=Aside0.mk (ho);clear HI0;clear HB;clear HK;clear HO_3;clear HO342;have HI0:=n0_;have HB:=n1_;have HK:=n2_;have HO354:=n3_;clear n0_ n1_ n2_ n3_;clear ho hb hg hat))
    go_roundg k1
    case measure=>have:=HK1.out;omega
    case rel=>exact⟨(y352),(t343),(t344),(t345),(t346),(t347),(t348),(t349),(t350),(t351),H',⟨by have:=HK1.out;omega⟩,⟨kdN_ HO354.out⟩,⟨is56_ HI0⟩,⟨kp_ HK⟩,⟨bs56_ HB HI0⟩⟩
   ·replace c8:=Bool.eq_false_iff.mpr c8
    subst c8
    have H1:(some (x3_1,t328,t329,t330,t331,t332,t333,t334,t335,t336))=some (r1,r2,r3,r4,r5,r6,r7,r8,r9,r10):=by rw[if_neg (show ¬(false=true) by decide)] at H;exact H
    clear H
    have H:=H1
    clear H1
    simp only[Option.some.injEq,Prod.mk.injEq] at H
    obtain⟨rfl,rfl,rfl,rfl,rfl,rfl,rfl,rfl,rfl,rfl⟩:=H
    go_wp2_with (first|((with_reducible refine gate_callee (f:=30) rfl ?_);refine gl_ (some 8) Tryd.func30 #[.pointer (some ⟨g,0,none⟩),.string (⟨#[97,110,100]⟩:ByteArray)] ?_;(with_reducible refine(rule_reader_next.calls _ _ _ _ _ _ _ _ _ _ _ _ _ _ _ _ _ _ _ _ _ _ w0 _ ?side1 ?side2 A7.out).mono ?_);(case side1=>exact is56_ HI0);(case side2=>exact bs56_ HB HI0);rintro e w15 ⟨rfl,hi,hb,hk⟩;refine⟨_,rfl,?_⟩;replace HO_3:=Aside0.mk (Kd.N_mono (Kd.N_keep (Kd.N_mono (ok:=fun k_=>(((w.heap.size≤k_))∧k_≠g)) (krN_ HO_3) (fun k_ hk_=>(⟨hk_,hk_.2⟩:_∧k_≠g))) hk (fun _ h=>h.2)) (fun _ h=>h.1));replace HK:=Aside0.mk (KeepBut.trans (kp_ HK) hk (.inl rfl));replace HB:=Aside0.mk (hb);replace HI0:=Aside0.mk (hi);(try clear hb);(try clear hk);(try clear hi)))
    go_ret
    exact⟨_,by first|rfl|(simp[errW_none,errW_some] <;> rfl)|(simp[*,errW_none,errW_some] <;> first|rfl|exact given_isEmpty _|exact(given_isEmpty _).symm),kdN_ (Kd.N_mono HO_3.out (fun _ hk=>hk.1)),is56_ HI0,bs56_ HB HI0,kp_ HK⟩

/-! ### stringslite_Cut: function 48 -/
def stringslite_Cut.f (a0:ByteArray) (a1:ByteArray):Option (ByteArray × ByteArray × Bool):=(stringslite_Index.f a0 a1).bind fun t355=>(if t355≥0 then (if 0≤t355 then (if t355≤(a0.size:Int) then (if 0≤(wrap64 (t355+(a1.size:Int))) then (if (wrap64 (t355+(a1.size:Int)))≤(a0.size:Int) then (some (a0.extract 0 (t355:Int).toNat,a0.extract ((wrap64 (t355+(a1.size:Int))):Int).toNat a0.size,true)) else (none)) else (none)) else (none)) else (none)) else (some (a0,(⟨#[]⟩:ByteArray),false)))
set_option maxHeartbeats 64000000 in
set_option maxRecDepth 100000 in
theorem stringslite_Cut.calls (a0:ByteArray) (a1:ByteArray) (r1:ByteArray) (r2:ByteArray) (r3:Bool) (w:World) (h:stringslite_Cut.f a0 a1=some (r1,r2,r3)) :
  Calls Tryd.prog 48 #[.string a0,.string a1] w fun e w'=>e= .returned (.tuple #[.string r1,.string r2,.bool r3])∧Drawn0 w w':=by
 have H:((stringslite_Index.f a0 a1).bind fun t355=>(if t355≥0 then (if 0≤t355 then (if t355≤(a0.size:Int) then (if 0≤(wrap64 (t355+(a1.size:Int))) then (if (wrap64 (t355+(a1.size:Int)))≤(a0.size:Int) then (some (a0.extract 0 (t355:Int).toNat,a0.extract ((wrap64 (t355+(a1.size:Int))):Int).toNat a0.size,true)) else (none)) else (none)) else (none)) else (none)) else (some (a0,(⟨#[]⟩:ByteArray),false))))=some (r1,r2,r3):=h
 clear h
 replace H:=Option.bind_eq_some_iff.mp H
 obtain⟨t355,A30,H⟩:=H
 have A3:=Aside0.mk A30
 clear A30
 by_cases c4:t355≥0
 ·rw[if_pos c4] at H
  have c4b0:decide (0≤t355)=true:=decide_eq_true c4
  clear c4
  replace H:=ifn_ H
  obtain⟨c5,H⟩:=H
  have c5b0:=eq_true c5
  have c5b1:decide (0≤t355)=true:=decide_eq_true c5
  clear c5
  replace H:=ifn_ H
  obtain⟨c6,H⟩:=H
  have c6b0:=eq_true c6
  have c6b1:decide (t355≤(a0.size:Int))=true:=decide_eq_true c6
  clear c6
  obtain⟨ji7,hji7⟩:∃j_:Int,(wrap64 (t355+(a1.size:Int)))=j_:=⟨_,rfl⟩
  replace H:(if 0≤(ji7) then (if (ji7)≤(a0.size:Int) then (some (a0.extract 0 (t355:Int).toNat,a0.extract ((ji7):Int).toNat a0.size,true)) else (none)) else (none))=some (r1,r2,r3):=by first|(rw[hji7] at H;exact H)|(simp only[hji7] at H ⊢;exact H)
  (try rw[hji7] at A3)
  have hji7w:(IntKind.i64.wrap (t355+(a1.size:Int)))=ji7:=(i64_w _).trans hji7
  replace H:=ifn_ H
  obtain⟨c8,H⟩:=H
  have c8b0:=eq_true c8
  have c8b1:decide (0≤(ji7))=true:=decide_eq_true c8
  clear c8
  replace H:=ifn_ H
  obtain⟨c9,H⟩:=H
  have c9b0:=eq_true c9
  have c9b1:decide ((ji7)≤(a0.size:Int))=true:=decide_eq_true c9
  clear c9
  simp only[Option.some.injEq,Prod.mk.injEq] at H
  obtain⟨rfl,rfl,rfl⟩:=H
  go_enter Tryd.func48,Tryd.ntmps48
  go_wp2_with (first|(go_at_call 56;(with_reducible refine(stringslite_Index.calls _ _ _ _ A3.out).mono ?_);rintro e w' ⟨rfl,⟨nd,rfl⟩⟩;(try first|exact⟨rfl,_,World.drewN_drewN _ _ _⟩|exact⟨rfl,_,Eq.trans (World.drewN_drewN _ _ _) (congrArg (World.drewN _) (Nat.add_assoc _ _ _))⟩)))
  repeat(go_quiet (first|(go_at_call 56;(with_reducible refine(stringslite_Index.calls _ _ _ _ A3.out).mono ?_);rintro e w' ⟨rfl,⟨nd,rfl⟩⟩;(try first|exact⟨rfl,_,World.drewN_drewN _ _ _⟩|exact⟨rfl,_,Eq.trans (World.drewN_drewN _ _ _) (congrArg (World.drewN _) (Nat.add_assoc _ _ _))⟩)));try go_wp2_with (first|(go_at_call 56;(with_reducible refine(stringslite_Index.calls _ _ _ _ A3.out).mono ?_);rintro e w' ⟨rfl,⟨nd,rfl⟩⟩;(try first|exact⟨rfl,_,World.drewN_drewN _ _ _⟩|exact⟨rfl,_,Eq.trans (World.drewN_drewN _ _ _) (congrArg (World.drewN _) (Nat.add_assoc _ _ _))⟩))))
  go_ret3
  exact⟨by first|rfl|(simp;done)|(simp only[← hji7] <;> (first|rfl|simp))|(simp[*];done),by repeat(first|exact Drawn0.refl _|apply Drawn0.step)⟩
 ·rw[if_neg c4] at H
  have c4b0:decide (0≤t355)=false:=decide_eq_false c4
  clear c4
  simp only[Option.some.injEq,Prod.mk.injEq] at H
  obtain⟨rfl,rfl,rfl⟩:=H
  go_enter Tryd.func48,Tryd.ntmps48
  go_wp2_with (first|(go_at_call 56;(with_reducible refine(stringslite_Index.calls _ _ _ _ A3.out).mono ?_);rintro e w' ⟨rfl,⟨nd,rfl⟩⟩;(try first|exact⟨rfl,_,World.drewN_drewN _ _ _⟩|exact⟨rfl,_,Eq.trans (World.drewN_drewN _ _ _) (congrArg (World.drewN _) (Nat.add_assoc _ _ _))⟩)))
  repeat(go_quiet (first|(go_at_call 56;(with_reducible refine(stringslite_Index.calls _ _ _ _ A3.out).mono ?_);rintro e w' ⟨rfl,⟨nd,rfl⟩⟩;(try first|exact⟨rfl,_,World.drewN_drewN _ _ _⟩|exact⟨rfl,_,Eq.trans (World.drewN_drewN _ _ _) (congrArg (World.drewN _) (Nat.add_assoc _ _ _))⟩)));try go_wp2_with (first|(go_at_call 56;(with_reducible refine(stringslite_Index.calls _ _ _ _ A3.out).mono ?_);rintro e w' ⟨rfl,⟨nd,rfl⟩⟩;(try first|exact⟨rfl,_,World.drewN_drewN _ _ _⟩|exact⟨rfl,_,Eq.trans (World.drewN_drewN _ _ _) (congrArg (World.drewN _) (Nat.add_assoc _ _ _))⟩))))
  go_ret3
  exact⟨by first|rfl|(simp;done)|(simp[*];done)|(simp;first|exact given_isEmpty _|exact(given_isEmpty _).symm)|(unfold wrap64;omega)|(congr 1;unfold wrap64;omega),by repeat(first|exact Drawn0.refl _|apply Drawn0.step)⟩

/-! ### strings_Cut: function 39 -/
def strings_Cut.f (a0:ByteArray) (a1:ByteArray):Option (ByteArray × ByteArray × Bool):=(stringslite_Cut.f a0 a1).bind fun bt356=>(some (bt356.1,bt356.2.1,bt356.2.2))
set_option maxHeartbeats 64000000 in
set_option maxRecDepth 100000 in
theorem strings_Cut.calls (a0:ByteArray) (a1:ByteArray) (r1:ByteArray) (r2:ByteArray) (r3:Bool) (w:World) (h:strings_Cut.f a0 a1=some (r1,r2,r3)) :
    Calls Tryd.prog 39 #[.string a0,.string a1] w fun e w'=>e= .returned (.tuple #[.string r1,.string r2,.bool r3])∧Drawn0 w w':=by
  have H:((stringslite_Cut.f a0 a1).bind fun bt356=>(some (bt356.1,bt356.2.1,bt356.2.2)))=some (r1,r2,r3):=h
  clear h
  replace H:=Option.bind_eq_some_iff.mp H
  obtain⟨⟨t356,t357,t358⟩,A30,H⟩:=H
  dsimp only at H
  have A3:=Aside0.mk A30
  clear A30
  simp only[Option.some.injEq,Prod.mk.injEq] at H
  obtain⟨rfl,rfl,rfl⟩:=H
  go_enter Tryd.func39,Tryd.ntmps39
  go_wp2_with (first|((with_reducible refine gate_callee (f:=48) rfl ?_);refine gl_ (some 9) Tryd.func48 #[.string a0,.string a1] ?_;(with_reducible refine(stringslite_Cut.calls _ _ _ _ _ _ A3.out).mono ?_);rintro e w' ⟨rfl,⟨nd,rfl⟩⟩;refine⟨_,rfl,?_⟩))
  go_ret3
  exact⟨by first|rfl|(simp;done)|(simp[*];done)|(simp;first|exact given_isEmpty _|exact(given_isEmpty _).symm)|(unfold wrap64;omega)|(congr 1;unfold wrap64;omega),by repeat(first|exact Drawn0.refl _|apply Drawn0.step)⟩

/-! ### strings_TrimRight: function 40 -/
def strings_TrimRight.f (a b:ByteArray):Option ByteArray:=if h:b.size=1 then (if (b[0]'(by omega)).toNat<128∧a.size≤9223372036854775807 then some ⟨(Lib.trimRightB a.data.toList (b[0]'(by omega))).toArray⟩ else none) else none
theorem strings_TrimRight.one (b:ByteArray) (h:b.size=1):b=⟨#[b[0]'(by omega)]⟩:=by
  obtain⟨d⟩:=b
  have hd:d.size=1:=h
  congr 1
  apply Array.ext
  · exact hd
  · intro i h1 h2
    have:i=0:=by omega
    subst this
    rfl
theorem strings_TrimRight.calls (a0 a1:ByteArray) (r:ByteArray) (w:World) (h:strings_TrimRight.f a0 a1=some r) :
    Calls Tryd.prog 40 #[.string a0,.string a1] w fun e w'=>e= .returned (.string r)∧Drawn0 w w':=by
  unfold strings_TrimRight.f at h
  split at h
  · rename_i h1
    split at h
    · rename_i hc
      obtain rfl:=Option.some.inj h
      have c:=Tryd.strings_TrimRight_one a0 (a1[0]'(by omega)) hc.1 w hc.2
      rw[← strings_TrimRight.one a1 h1] at c
      refine c.mono ?_
      rintro e w' ⟨rfl,rfl⟩
      exact⟨rfl,Drawn0.refl _⟩
    · cases h
  · cases h

end Go.Proofs.YtcokjmnkieakiaaDoor.P
