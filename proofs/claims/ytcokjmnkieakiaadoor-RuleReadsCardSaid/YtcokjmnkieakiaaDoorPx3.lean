-- written by a program of this session (wip/p2)
import Derived.Test.YtcokjmnkieakiaaDoorPx0
import Derived.Test.YtcokjmnkieakiaaDoorPx2
namespace Go.Proofs.YtcokjmnkieakiaaDoor.P
open Go.RowKit Go.Proofs.YtcokjmnkieakiaaDoorW.PrintWords Go.Proofs.YtcokjmnkieakiaaDoorW.PrintLast Go.Proofs.YtcokjmnkieakiaaDoorW.PrintMore
attribute [local go_sem] max2_int min2_int max_two min_two max_three min_three max_four min_four   -- for this text's walks alone
set_option linter.unusedVariables false
set_option linter.unusedSimpArgs false

/-! ### rule_reader_value: function 46 -/
def rule_reader_value.j0:Nat→Int→Int→ByteArray→Bool→ByteArray→Int→Int→Bool→Bool→Bool→Bool→Bool→Bool→Option (Int × Int × ByteArray × Int × Int × Bool × Bool × Bool × Bool × Bool × Bool)
 | 0,_,_,_,_,_,_,_,_,_,_,_,_,_=>none
 | k+1,x4,x5,x6,x26,x1000,x1001,x1002,x1003,x1004,x1005,x1006,x1007,x1008=>if x26=true then (none) else (if x5>9 then (none) else ((strconv_Atoi.f x6).bind fun bt195=>(some (bt195.1,x4,x1000,wrap64 (x1001+x5),x1002,x1003,x1004,x1005,x1006,x1007,x1008))))
def rule_reader_value.f (k:Nat) (s0_0:ByteArray) (s0_1:Int) (s0_2:Int) (s0_3:Bool) (s0_4:Bool) (s0_5:Bool) (s0_6:Bool) (s0_7:Bool) (s0_8:Bool):Option (Int × Int × ByteArray × Int × Int × Bool × Bool × Bool × Bool × Bool × Bool):=(rule_reader_blanks.f k s0_0 s0_1 s0_2 s0_3 s0_4 s0_5 s0_6 s0_7 s0_8).bind fun bt176=>((rule_reader_run.f k bt176.1 bt176.2.1 bt176.2.2.1 bt176.2.2.2.1 bt176.2.2.2.2.1 bt176.2.2.2.2.2.1 bt176.2.2.2.2.2.2.1 bt176.2.2.2.2.2.2.2.1 bt176.2.2.2.2.2.2.2.2 48 57).bind fun bt185=>(if 0≤bt176.2.1 then (if bt176.2.1≤(wrap64 (bt176.2.1+bt185.1)) then (if (wrap64 (bt176.2.1+bt185.1))≤(bt176.1.size:Int) then (if bt185.1=0 then (rule_reader_value.j0 k bt176.2.1 bt185.1 (bt176.1.extract (bt176.2.1:Int).toNat ((wrap64 (bt176.2.1+bt185.1)):Int).toNat) (bt185.1==0) bt176.1 bt176.2.1 bt176.2.2.1 bt176.2.2.2.1 bt176.2.2.2.2.1 bt176.2.2.2.2.2.1 bt176.2.2.2.2.2.2.1 bt176.2.2.2.2.2.2.2.1 bt176.2.2.2.2.2.2.2.2) else (if bt185.1>1 then (if 0<((bt176.1.extract (bt176.2.1:Int).toNat ((wrap64 (bt176.2.1+bt185.1)):Int).toNat).size:Int) then (rule_reader_value.j0 k bt176.2.1 bt185.1 (bt176.1.extract (bt176.2.1:Int).toNat ((wrap64 (bt176.2.1+bt185.1)):Int).toNat) ((bt (bt176.1.extract (bt176.2.1:Int).toNat ((wrap64 (bt176.2.1+bt185.1)):Int).toNat) 0)==48) bt176.1 bt176.2.1 bt176.2.2.1 bt176.2.2.2.1 bt176.2.2.2.2.1 bt176.2.2.2.2.2.1 bt176.2.2.2.2.2.2.1 bt176.2.2.2.2.2.2.2.1 bt176.2.2.2.2.2.2.2.2) else (none)) else (rule_reader_value.j0 k bt176.2.1 bt185.1 (bt176.1.extract (bt176.2.1:Int).toNat ((wrap64 (bt176.2.1+bt185.1)):Int).toNat) false bt176.1 bt176.2.1 bt176.2.2.1 bt176.2.2.2.1 bt176.2.2.2.2.1 bt176.2.2.2.2.2.1 bt176.2.2.2.2.2.2.1 bt176.2.2.2.2.2.2.2.1 bt176.2.2.2.2.2.2.2.2))) else (none)) else (none)) else (none)))
def rule_reader_value.T2:Bool × List (List Nat × List Nat):=(true,[([],[]),([0],[0]),([1],[1]),([2],[2]),([],[]),([4],[4]),([3,5,0,1,2,3],[3]),([5,6,0,1,2,3,4,5,6],[5])])
def rule_reader_value.B2:List Nat:=[0,1,3,7,0,16,63,127]
theorem rule_reader_value.tab2:rtab .any (opsOf Tryd.f46 2)=rule_reader_value.T2:=by kernel_rfl
theorem rule_reader_value.bits2:waitsOk rule_reader_value.T2.2 rule_reader_value.B2=true:=by kernel_rfl
set_option maxHeartbeats 64000000 in
set_option maxRecDepth 100000 in
theorem rule_reader_value.calls (k:Nat) (g:Nat) (s0_0:ByteArray) (s0_1:Int) (s0_2:Int) (s0_3:Bool) (s0_4:Bool) (s0_5:Bool) (s0_6:Bool) (s0_7:Bool) (s0_8:Bool) (r1:Int) (r2:Int) (r3:ByteArray) (r4:Int) (r5:Int) (r6:Bool) (r7:Bool) (r8:Bool) (r9:Bool) (r10:Bool) (r11:Bool) (w0 w:World) (hI:IsS56 w0 w g s0_0 s0_1 s0_2 s0_3 s0_4 s0_5 s0_6 s0_7 s0_8) (hB:Below w0.heap.size w0 w) (h:rule_reader_value.f k s0_0 s0_1 s0_2 s0_3 s0_4 s0_5 s0_6 s0_7 s0_8=some (r1,r2,r3,r4,r5,r6,r7,r8,r9,r10,r11)) :
  Calls Tryd.prog 46 #[.pointer (some ⟨g,0,none⟩)] w fun e w'=>e= .returned (.tuple #[.int .i64 r1,.int .i64 r2])∧IsS56 w0 w' g r3 r4 r5 r6 r7 r8 r9 r10 r11∧Below w0.heap.size w0 w'∧KeepBut w w' g none:=by
 have HI0:=Aside0.mk hI
 have HK:=Aside0.mk (KeepBut.refl w g none)
 have HL:=Aside0.mk hB.size
 clear hI
 have HW0:=Aside0.mk hB.size
 have HB:=Aside0.mk hB
 clear hB
 have H:((rule_reader_blanks.f k s0_0 s0_1 s0_2 s0_3 s0_4 s0_5 s0_6 s0_7 s0_8).bind fun bt176=>((rule_reader_run.f k bt176.1 bt176.2.1 bt176.2.2.1 bt176.2.2.2.1 bt176.2.2.2.2.1 bt176.2.2.2.2.2.1 bt176.2.2.2.2.2.2.1 bt176.2.2.2.2.2.2.2.1 bt176.2.2.2.2.2.2.2.2 48 57).bind fun bt185=>(if 0≤bt176.2.1 then (if bt176.2.1≤(wrap64 (bt176.2.1+bt185.1)) then (if (wrap64 (bt176.2.1+bt185.1))≤(bt176.1.size:Int) then (if bt185.1=0 then (rule_reader_value.j0 k bt176.2.1 bt185.1 (bt176.1.extract (bt176.2.1:Int).toNat ((wrap64 (bt176.2.1+bt185.1)):Int).toNat) (bt185.1==0) bt176.1 bt176.2.1 bt176.2.2.1 bt176.2.2.2.1 bt176.2.2.2.2.1 bt176.2.2.2.2.2.1 bt176.2.2.2.2.2.2.1 bt176.2.2.2.2.2.2.2.1 bt176.2.2.2.2.2.2.2.2) else (if bt185.1>1 then (if 0<((bt176.1.extract (bt176.2.1:Int).toNat ((wrap64 (bt176.2.1+bt185.1)):Int).toNat).size:Int) then (rule_reader_value.j0 k bt176.2.1 bt185.1 (bt176.1.extract (bt176.2.1:Int).toNat ((wrap64 (bt176.2.1+bt185.1)):Int).toNat) ((bt (bt176.1.extract (bt176.2.1:Int).toNat ((wrap64 (bt176.2.1+bt185.1)):Int).toNat) 0)==48) bt176.1 bt176.2.1 bt176.2.2.1 bt176.2.2.2.1 bt176.2.2.2.2.1 bt176.2.2.2.2.2.1 bt176.2.2.2.2.2.2.1 bt176.2.2.2.2.2.2.2.1 bt176.2.2.2.2.2.2.2.2) else (none)) else (rule_reader_value.j0 k bt176.2.1 bt185.1 (bt176.1.extract (bt176.2.1:Int).toNat ((wrap64 (bt176.2.1+bt185.1)):Int).toNat) false bt176.1 bt176.2.1 bt176.2.2.1 bt176.2.2.2.1 bt176.2.2.2.2.1 bt176.2.2.2.2.2.1 bt176.2.2.2.2.2.2.1 bt176.2.2.2.2.2.2.2.1 bt176.2.2.2.2.2.2.2.2))) else (none)) else (none)) else (none))))=some (r1,r2,r3,r4,r5,r6,r7,r8,r9,r10,r11):=h
 clear h
 replace H:=Option.bind_eq_some_iff.mp H
 obtain⟨⟨t176,t177,t178,t179,t180,t181,t182,t183,t184⟩,A20,H⟩:=H
 dsimp only at H
 have A2:=Aside0.mk A20
 clear A20
 replace H:=Option.bind_eq_some_iff.mp H
 obtain⟨⟨t185,t186,t187,t188,t189,t190,t191,t192,t193,t194⟩,A30,H⟩:=H
 dsimp only at H
 have A3:=Aside0.mk A30
 clear A30
 obtain⟨rfl,rfl,rfl,rfl,rfl,rfl,rfl,rfl,rfl⟩:=rule_reader_run.same A3.out
 replace H:=ifn_ H
 obtain⟨c4,H⟩:=H
 have c4b0:=eq_true c4
 have c4b1:decide (0≤t177)=true:=decide_eq_true c4
 clear c4
 replace H:=ifn_ H
 obtain⟨c5,H⟩:=H
 have c5b0:=eq_true c5
 have c5b1:decide (t177≤(wrap64 (t177+t185)))=true:=decide_eq_true c5
 replace H:=ifn_ H
 obtain⟨c6,H⟩:=H
 have c6b0:=eq_true c6
 have c6b1:decide ((wrap64 (t177+t185))≤(t176.size:Int))=true:=decide_eq_true c6
 have HC7:=Aside0.mk H
 clear H
 go_enter Tryd.func46,Tryd.ntmps46
 try go_wp2_with (first|((with_reducible refine gate_callee (f:=26) rfl ?_);refine gl_ (some 10) Tryd.func26 #[.pointer (some ⟨g,0,none⟩)] ?_;(with_reducible refine(rule_reader_blanks.calls _ _ _ _ _ _ _ _ _ _ _ _ _ _ _ _ _ _ _ _ w0 _ ?side1 ?side2 A2.out).mono ?_);(case side1=>exact is56_ HI0);(case side2=>exact bs56_ HB HI0);rintro e w8 ⟨rfl,hi,hb,hk⟩;refine⟨_,rfl,?_⟩;replace HK:=Aside0.mk (KeepBut.trans (kp_ HK) hk (.inl rfl));replace HB:=Aside0.mk (hb);replace HI0:=Aside0.mk (hi);(try clear hb);(try clear hk);(try clear hi)))
 replace HI0:=Aside0.mk (IsS56.drew HI0.out)
 replace HK:=Aside0.mk (keep_drew HK.out)
 replace HB:=Aside0.mk (below_drew1 HB.out)
 refine start_ (n:=8) (S:=fun w'=>w'.cell? ⟨g,0,none⟩=some (.string t176)∧w'.cell? ⟨g,1,none⟩=some (.int .i64 t177)∧w'.cell? ⟨g,2,none⟩=some (.int .i64 t178)∧w'.cell? ⟨g,3,none⟩=some (.bool t179)∧w'.cell? ⟨g,4,none⟩=some (.bool t180)∧w'.cell? ⟨g,5,none⟩=some (.bool t181)∧w'.cell? ⟨g,6,none⟩=some (.bool t182)∧w'.cell? ⟨g,7,none⟩=some (.bool t183)∧w'.cell? ⟨g,8,none⟩=some (.bool t184)) (ds:=[]) #[false,false,false,false,false,false,false,false] (by kernel_rfl) rfl rfl ⟨(cellS56_0 HI0.out.1),(cellS56_1 HI0.out.1),(cellS56_2 HI0.out.1),(cellS56_3 HI0.out.1),(cellS56_4 HI0.out.1),(cellS56_5 HI0.out.1),(cellS56_6 HI0.out.1),(cellS56_7 HI0.out.1),(cellS56_8 HI0.out.1)⟩ (fun hHeld=>?_);refine with_tabW rule_reader_value.tab2 rule_reader_value.bits2 (fun HT_ HW_=>?_)
 generalize w8.drew=w9 at HI0 HK HB hHeld ⊢
 refine pu_ 0 11 #[true,false,false,false,false,false,false,false] HT_ ?_
 refine pu_ 1 12 #[true,true,false,false,false,false,false,false] HT_ ?_
 refine pu_ 2 13 #[true,true,true,false,false,false,false,false] HT_ ?_
 refine pu_ 4 15 #[true,true,true,false,true,false,false,false] HT_ ?_
 refine tk_ 3 14 #[true,true,true,true,true,false,false,false] HT_ HW_ hHeld rfl (by rintro w' ⟨s0,s1,s2,s3,s4,s5,s6,s7,s8⟩;go_simp;with_reducible rfl) ?_
 refine one_ (i:=5) (N:=some 16) #[true,true,true,true,true,true,false,false] rfl rfl (one_of HT_.out (by kernel_rfl)) (by decide) (fun K hK=>?_)
 refine gs_ Tryd.func37 #[.pointer (some ⟨g,0,none⟩),.int .u8 48,.int .u8 57] ?_
 with_reducible refine(rule_reader_run.calls _ _ _ _ _ _ _ _ _ _ _ _ _ _ _ _ _ _ _ _ _ _ _ w0 _ ?side1 ?side2 A3.out).mono ?_
 (case side1=>exact is56_ HI0)
 (case side2=>exact bs56_ HB HI0)
 rintro e w10 ⟨rfl,hi,hb,hk⟩
 refine⟨_,rfl,?_⟩
 replace HK:=Aside0.mk (KeepBut.trans (kp_ HK) hk (.inl rfl))
 replace HB:=Aside0.mk (hb)
 replace HI0:=Aside0.mk (hi)
 (try clear hb)
 (try clear hb2)
 (try clear hk)
 (try clear hi)
 refine hK.out _ _ ⟨(cellS56_0 HI0.out.1),(cellS56_1 HI0.out.1),(cellS56_2 HI0.out.1),(cellS56_3 HI0.out.1),(cellS56_4 HI0.out.1),(cellS56_5 HI0.out.1),(cellS56_6 HI0.out.1),(cellS56_7 HI0.out.1),(cellS56_8 HI0.out.1)⟩ (fun hHeld=>?_)
 clear hK K
 refine nm_ 16 ?_
 refine pu_ 6 4 #[true,true,true,true,true,true,true,false] HT_ ?_
 refine pu_ 7 5 #[true,true,true,true,true,true,true,true] HT_ ?_
 refine done_ (done_of HT_.out (by kernel_rfl)) ?_
 obtain⟨hcz11_0,hcz11_1,hcz11_2,hcz11_3,hcz11_4,hcz11_5,hcz11_6,hcz11_7,hcz11_8,hfz11_0,hfz11_1,hfz11_2,hfz11_3,hfz11_4,hfz11_5,hfz11_6,hfz11_7,hfz11_8⟩:=cs56_ HI0
 go_upto_if 26 with (fail)
 go_cut [26] (fun v26 wc=>∃(kq:Nat) (x26_6:Bool),v26= .bool x26_6∧Aside0 (rule_reader_value.j0 kq t177 t185 (t176.extract (t177:Int).toNat ((wrap64 (t177+t185)):Int).toNat) x26_6 t176 t177 t178 t179 t180 t181 t182 t183 t184=some (r1,r2,r3,r4,r5,r6,r7,r8,r9,r10,r11))∧Aside0 (kq≤k)∧Aside0 (IsS56 w0 wc g t176 t177 t178 t179 t180 t181 t182 t183 t184)∧Aside0 (KeepBut w wc g none)∧Aside0 (Below w0.heap.size w0 wc))
 case first =>
  have H:=HC7.out
  clear HC7
  by_cases c12:t185=0
  ·rw[if_pos c12] at H
   have c12b0:(t185==0)=true:=beq_iff_eq.mpr c12
   have c12b1:(t185 !=0)=false:=bne_eq_false_iff_eq.mpr c12
   clear c12
   (first|rw[c12b0]|(simp only[i64_w,i32_w];rw[c12b0])|skip)
   have H':=Aside0.mk H
   clear H
   go_wp2
   go_meet
   case rel=>exact⟨_,((t185==0)),eq_,H',⟨by first|omega|exact Nat.le_refl _⟩,⟨is56_ HI0⟩,⟨kp_ HK⟩,⟨bs56_ HB HI0⟩⟩
  ·rw[if_neg c12] at H
   have c12b0:(t185==0)=false:=beq_eq_false_iff_ne.mpr c12
   have c12b1:(t185 !=0)=true:=bne_iff_ne.mpr c12
   (first|rw[c12b0]|(simp only[i64_w,i32_w];rw[c12b0])|skip)
   by_cases c13:t185>1
   ·rw[if_pos c13] at H
    have c13b0:decide (1<t185)=true:=decide_eq_true c13
    clear c13
    replace H:=ifn_ H
    obtain⟨c14,H⟩:=H
    have c14b0:decide (0<((t176.extract (t177:Int).toNat ((wrap64 (t177+t185)):Int).toNat).size:Int))=true:=decide_eq_true c14
    have c14b1:decide (0<(t176.extract (t177:Int).toNat ((wrap64 (t177+t185)):Int).toNat).size)=true:=decide_eq_true (by omega)
    clear c14
    (try (have c14x0:=c14b0;simp only[ByteArray.size_extract,Nat.min_self,Nat.sub_zero] at c14x0))
    (try (have c14x1:=c14b1;simp only[ByteArray.size_extract,Nat.min_self,Nat.sub_zero] at c14x1))
    have H':=Aside0.mk H
    clear H
    have p15:0≤(0:Int):=(by omega)
    have q15:0<(t176.extract (t177:Int).toNat ((wrap64 (t177+t185)):Int).toNat).size:=(by have:(0:Int)<((t176.extract (t177:Int).toNat ((wrap64 (t177+t185)):Int).toNat).size:Int):=od_;omega)
    have hx15:∀h:0<(t176.extract (t177:Int).toNat ((wrap64 (t177+t185)):Int).toNat).size,(((t176.extract (t177:Int).toNat ((wrap64 (t177+t185)):Int).toNat)[0]'h).toNat:Int)=bt (t176.extract (t177:Int).toNat ((wrap64 (t177+t185)):Int).toNat) 0:=bt_at (t176.extract (t177:Int).toNat ((wrap64 (t177+t185)):Int).toNat) 0
    clear p15
    have qi15:(0<((t176.extract (t177:Int).toNat ((wrap64 (t177+t185)):Int).toNat).size:Int))=True:=eq_true (od_)
    replace q15:=eq_true q15
    (try (have qv15:=q15;simp only[ByteArray.size_extract,Nat.min_self,Nat.sub_zero] at qv15))
    (try (have qw15:=qi15;simp only[ByteArray.size_extract,Nat.min_self,Nat.sub_zero] at qw15))
    (try (have hy15:=hx15 (of_eq_true q15)))
    (try (have qm15:(wrap64 (t177+t185))≤(t176.size:Int):=od_;have qz15:=qv15;rw[Nat.min_eq_left (by omega)] at qz15;clear qm15))
    go_wp2
    go_meet
    case rel=>exact⟨_,(((bt (t176.extract (t177:Int).toNat ((wrap64 (t177+t185)):Int).toNat) 0)==48)),eq_,H',⟨by first|omega|exact Nat.le_refl _⟩,⟨is56_ HI0⟩,⟨kp_ HK⟩,⟨bs56_ HB HI0⟩⟩
   ·rw[if_neg c13] at H
    have c13b0:decide (1<t185)=false:=decide_eq_false c13
    clear c13
    have H':=Aside0.mk H
    clear H
    go_wp2
    go_meet
    case rel=>exact⟨_,(false),eq_,H',⟨by first|omega|exact Nat.le_refl _⟩,⟨is56_ HI0⟩,⟨kp_ HK⟩,⟨bs56_ HB HI0⟩⟩
 case rest =>
  clear HC7
  obtain⟨kq,x26_6,rfl,HA,HJ6,HI0,HK,HB⟩:=hcut
  cases kq with
  | zero=>exact absurd HA.out (by simp[rule_reader_value.j0])
  | succ kj6 =>
   have H:=HA.out
   clear HA
   simp only[rule_reader_value.j0] at H
   by_cases c16:x26_6=true
   ·subst c16
    have H1:(none)=some (r1,r2,r3,r4,r5,r6,r7,r8,r9,r10,r11):=by rw[if_pos rfl] at H;exact H
    clear H
    have H:=H1
    clear H1
    exact absurd H (by simp)
   ·replace c16:=Bool.eq_false_iff.mpr c16
    subst c16
    have H1:(if t185>9 then (none) else ((strconv_Atoi.f (t176.extract (t177:Int).toNat ((wrap64 (t177+t185)):Int).toNat)).bind fun bt195=>(some (bt195.1,t177,t176,wrap64 (t177+t185),t178,t179,t180,t181,t182,t183,t184))))=some (r1,r2,r3,r4,r5,r6,r7,r8,r9,r10,r11):=by rw[if_neg (show ¬(false=true) by decide)] at H;exact H
    clear H
    have H:=H1
    clear H1
    replace H:=ifp_ H
    obtain⟨c17,H⟩:=H
    have c17b0:decide (9<t185)=false:=decide_eq_false c17
    clear c17
    replace H:=Option.bind_eq_some_iff.mp H
    obtain⟨⟨t195,t196⟩,A180,H⟩:=H
    dsimp only at H
    have A18:=Aside0.mk A180
    clear A180
    simp only[Option.some.injEq,Prod.mk.injEq] at H
    obtain⟨rfl,rfl,rfl,rfl,rfl,rfl,rfl,rfl,rfl,rfl,rfl⟩:=H
    obtain⟨hcz19_0,hcz19_1,hcz19_2,hcz19_3,hcz19_4,hcz19_5,hcz19_6,hcz19_7,hcz19_8,hfz19_0,hfz19_1,hfz19_2,hfz19_3,hfz19_4,hfz19_5,hfz19_6,hfz19_7,hfz19_8⟩:=cs56_ HI0
    go_wp2_with (first|((with_reducible refine gate_callee (f:=55) rfl ?_);refine gl_ (some 53) Tryd.func55 #[.string (t176.extract (t177:Int).toNat ((wrap64 (t177+t185)):Int).toNat)] ?_;(with_reducible refine(strconv_Atoi.calls (t176.extract (t177:Int).toNat ((wrap64 (t177+t185)):Int).toNat) t195 t196 _ A18.out).mono ?_);rintro e w20 ⟨rfl,hb⟩;refine⟨_,rfl,?_⟩;have n0_:=Aside0.mk (IsS56.below (show IsS56 w0 (wc.setCell ⟨g,1,none⟩ (.int .i64 (wrap64 (t177+t185)))) g t176 (wrap64 (t177+t185)) t178 t179 t180 t181 t182 t183 t184 from is56_ HI0) hb);have n1_:=Aside0.mk (KeepBut.trans (kp_ HK) (KeepBut.of_below hb g none) (.inl rfl));have n2_:=Aside0.mk (below_step (bs56_ HB HI0) hb);clear HI0;clear HK;clear HB;have HI0:=n0_;have HK:=n1_;have HB:=n2_;clear n0_ n1_ n2_;(try clear hb);(try simp only[errW_none,errW_some])))
    go_ret2
    exact⟨ew_,is56_ HI0,bs56_ HB HI0,kp_ HK⟩

/-! ### rule_reader_value_g: function 46 -/
def rule_reader_value_g.j0:Nat→Int→Int→Bool→Option (Int × Int)
 | 0,_,_,_=>none
 | k+1,x4,x5,x26=>if x26=true then ((rule_fail_g.f 1 x4).bind fun bt216=>(some (bt216.1,bt216.2))) else (if x5>9 then ((rule_fail_g.f 2 x4).bind fun bt218=>(some (bt218.1,bt218.2))) else (none))
def rule_reader_value_g.f (k:Nat) (s0_0:ByteArray) (s0_1:Int) (s0_2:Int) (s0_3:Bool) (s0_4:Bool) (s0_5:Bool) (s0_6:Bool) (s0_7:Bool) (s0_8:Bool):Option (Int × Int):=(rule_reader_blanks.f k s0_0 s0_1 s0_2 s0_3 s0_4 s0_5 s0_6 s0_7 s0_8).bind fun bt197=>((rule_reader_run.f k bt197.1 bt197.2.1 bt197.2.2.1 bt197.2.2.2.1 bt197.2.2.2.2.1 bt197.2.2.2.2.2.1 bt197.2.2.2.2.2.2.1 bt197.2.2.2.2.2.2.2.1 bt197.2.2.2.2.2.2.2.2 48 57).bind fun bt206=>(if 0≤bt197.2.1 then (if bt197.2.1≤(wrap64 (bt197.2.1+bt206.1)) then (if (wrap64 (bt197.2.1+bt206.1))≤(bt197.1.size:Int) then (if bt206.1=0 then (rule_reader_value_g.j0 k bt197.2.1 bt206.1 (bt206.1==0)) else (if bt206.1>1 then (if 0<((bt197.1.extract (bt197.2.1:Int).toNat ((wrap64 (bt197.2.1+bt206.1)):Int).toNat).size:Int) then (rule_reader_value_g.j0 k bt197.2.1 bt206.1 ((bt (bt197.1.extract (bt197.2.1:Int).toNat ((wrap64 (bt197.2.1+bt206.1)):Int).toNat) 0)==48)) else (none)) else (rule_reader_value_g.j0 k bt197.2.1 bt206.1 false))) else (none)) else (none)) else (none)))
def rule_reader_value_g.T2:Bool × List (List Nat × List Nat):=(true,[([],[]),([0],[0]),([1],[1]),([2],[2]),([],[]),([4],[4]),([3,5,0,1,2,3],[3]),([5,6,0,1,2,3,4,5,6],[5])])
def rule_reader_value_g.B2:List Nat:=[0,1,3,7,0,16,63,127]
theorem rule_reader_value_g.tab2:rtab .any (opsOf Tryd.f46 2)=rule_reader_value_g.T2:=by kernel_rfl
theorem rule_reader_value_g.bits2:waitsOk rule_reader_value_g.T2.2 rule_reader_value_g.B2=true:=by kernel_rfl
set_option maxHeartbeats 64000000 in
set_option maxRecDepth 100000 in
theorem rule_reader_value_g.calls (k:Nat) (g:Nat) (s0_0:ByteArray) (s0_1:Int) (s0_2:Int) (s0_3:Bool) (s0_4:Bool) (s0_5:Bool) (s0_6:Bool) (s0_7:Bool) (s0_8:Bool) (r1:Int) (r2:Int) (w0 w:World) (hI:IsS56 w0 w g s0_0 s0_1 s0_2 s0_3 s0_4 s0_5 s0_6 s0_7 s0_8) (hB:Below w0.heap.size w0 w) (h:rule_reader_value_g.f k s0_0 s0_1 s0_2 s0_3 s0_4 s0_5 s0_6 s0_7 s0_8=some (r1,r2)) :
  Calls Tryd.prog 46 #[.pointer (some ⟨g,0,none⟩)] w fun e w'=>e= .panicked [{v:= .iface 52 (.agg #[.int .i64 r1,.int .i64 r2]),recovered:=false}]∧Below w0.heap.size w0 w':=by
 have HI0:=Aside0.mk hI
 have HK:=Aside0.mk (KeepBut.refl w g none)
 have HL:=Aside0.mk hB.size
 clear hI
 have HW0:=Aside0.mk hB.size
 have HB:=Aside0.mk hB
 clear hB
 have H:((rule_reader_blanks.f k s0_0 s0_1 s0_2 s0_3 s0_4 s0_5 s0_6 s0_7 s0_8).bind fun bt197=>((rule_reader_run.f k bt197.1 bt197.2.1 bt197.2.2.1 bt197.2.2.2.1 bt197.2.2.2.2.1 bt197.2.2.2.2.2.1 bt197.2.2.2.2.2.2.1 bt197.2.2.2.2.2.2.2.1 bt197.2.2.2.2.2.2.2.2 48 57).bind fun bt206=>(if 0≤bt197.2.1 then (if bt197.2.1≤(wrap64 (bt197.2.1+bt206.1)) then (if (wrap64 (bt197.2.1+bt206.1))≤(bt197.1.size:Int) then (if bt206.1=0 then (rule_reader_value_g.j0 k bt197.2.1 bt206.1 (bt206.1==0)) else (if bt206.1>1 then (if 0<((bt197.1.extract (bt197.2.1:Int).toNat ((wrap64 (bt197.2.1+bt206.1)):Int).toNat).size:Int) then (rule_reader_value_g.j0 k bt197.2.1 bt206.1 ((bt (bt197.1.extract (bt197.2.1:Int).toNat ((wrap64 (bt197.2.1+bt206.1)):Int).toNat) 0)==48)) else (none)) else (rule_reader_value_g.j0 k bt197.2.1 bt206.1 false))) else (none)) else (none)) else (none))))=some (r1,r2):=h
 clear h
 replace H:=Option.bind_eq_some_iff.mp H
 obtain⟨⟨t197,t198,t199,t200,t201,t202,t203,t204,t205⟩,A20,H⟩:=H
 dsimp only at H
 have A2:=Aside0.mk A20
 clear A20
 replace H:=Option.bind_eq_some_iff.mp H
 obtain⟨⟨t206,t207,t208,t209,t210,t211,t212,t213,t214,t215⟩,A30,H⟩:=H
 dsimp only at H
 have A3:=Aside0.mk A30
 clear A30
 obtain⟨rfl,rfl,rfl,rfl,rfl,rfl,rfl,rfl,rfl⟩:=rule_reader_run.same A3.out
 replace H:=ifn_ H
 obtain⟨c4,H⟩:=H
 have c4b0:=eq_true c4
 have c4b1:decide (0≤t198)=true:=decide_eq_true c4
 clear c4
 replace H:=ifn_ H
 obtain⟨c5,H⟩:=H
 have c5b0:=eq_true c5
 have c5b1:decide (t198≤(wrap64 (t198+t206)))=true:=decide_eq_true c5
 replace H:=ifn_ H
 obtain⟨c6,H⟩:=H
 have c6b0:=eq_true c6
 have c6b1:decide ((wrap64 (t198+t206))≤(t197.size:Int))=true:=decide_eq_true c6
 have HC7:=Aside0.mk H
 clear H
 go_enter Tryd.func46,Tryd.ntmps46
 try go_wp2_with (first|((with_reducible refine gate_callee (f:=26) rfl ?_);refine gl_ (some 10) Tryd.func26 #[.pointer (some ⟨g,0,none⟩)] ?_;(with_reducible refine(rule_reader_blanks.calls _ _ _ _ _ _ _ _ _ _ _ _ _ _ _ _ _ _ _ _ w0 _ ?side1 ?side2 A2.out).mono ?_);(case side1=>exact is56_ HI0);(case side2=>exact bs56_ HB HI0);rintro e w8 ⟨rfl,hi,hb,hk⟩;refine⟨_,rfl,?_⟩;replace HK:=Aside0.mk (KeepBut.trans (kp_ HK) hk (.inl rfl));replace HB:=Aside0.mk (hb);replace HI0:=Aside0.mk (hi);(try clear hb);(try clear hk);(try clear hi)))
 replace HI0:=Aside0.mk (IsS56.drew HI0.out)
 replace HK:=Aside0.mk (keep_drew HK.out)
 replace HB:=Aside0.mk (below_drew1 HB.out)
 refine start_ (n:=8) (S:=fun w'=>w'.cell? ⟨g,0,none⟩=some (.string t197)∧w'.cell? ⟨g,1,none⟩=some (.int .i64 t198)∧w'.cell? ⟨g,2,none⟩=some (.int .i64 t199)∧w'.cell? ⟨g,3,none⟩=some (.bool t200)∧w'.cell? ⟨g,4,none⟩=some (.bool t201)∧w'.cell? ⟨g,5,none⟩=some (.bool t202)∧w'.cell? ⟨g,6,none⟩=some (.bool t203)∧w'.cell? ⟨g,7,none⟩=some (.bool t204)∧w'.cell? ⟨g,8,none⟩=some (.bool t205)) (ds:=[]) #[false,false,false,false,false,false,false,false] (by kernel_rfl) rfl rfl ⟨(cellS56_0 HI0.out.1),(cellS56_1 HI0.out.1),(cellS56_2 HI0.out.1),(cellS56_3 HI0.out.1),(cellS56_4 HI0.out.1),(cellS56_5 HI0.out.1),(cellS56_6 HI0.out.1),(cellS56_7 HI0.out.1),(cellS56_8 HI0.out.1)⟩ (fun hHeld=>?_);refine with_tabW rule_reader_value_g.tab2 rule_reader_value_g.bits2 (fun HT_ HW_=>?_)
 generalize w8.drew=w9 at HI0 HK HB hHeld ⊢
 refine pu_ 0 11 #[true,false,false,false,false,false,false,false] HT_ ?_
 refine pu_ 1 12 #[true,true,false,false,false,false,false,false] HT_ ?_
 refine pu_ 2 13 #[true,true,true,false,false,false,false,false] HT_ ?_
 refine pu_ 4 15 #[true,true,true,false,true,false,false,false] HT_ ?_
 refine tk_ 3 14 #[true,true,true,true,true,false,false,false] HT_ HW_ hHeld rfl (by rintro w' ⟨s0,s1,s2,s3,s4,s5,s6,s7,s8⟩;go_simp;with_reducible rfl) ?_
 refine one_ (i:=5) (N:=some 16) #[true,true,true,true,true,true,false,false] rfl rfl (one_of HT_.out (by kernel_rfl)) (by decide) (fun K hK=>?_)
 refine gs_ Tryd.func37 #[.pointer (some ⟨g,0,none⟩),.int .u8 48,.int .u8 57] ?_
 with_reducible refine(rule_reader_run.calls _ _ _ _ _ _ _ _ _ _ _ _ _ _ _ _ _ _ _ _ _ _ _ w0 _ ?side1 ?side2 A3.out).mono ?_
 (case side1=>exact is56_ HI0)
 (case side2=>exact bs56_ HB HI0)
 rintro e w10 ⟨rfl,hi,hb,hk⟩
 refine⟨_,rfl,?_⟩
 replace HK:=Aside0.mk (KeepBut.trans (kp_ HK) hk (.inl rfl))
 replace HB:=Aside0.mk (hb)
 replace HI0:=Aside0.mk (hi)
 (try clear hb)
 (try clear hb2)
 (try clear hk)
 (try clear hi)
 refine hK.out _ _ ⟨(cellS56_0 HI0.out.1),(cellS56_1 HI0.out.1),(cellS56_2 HI0.out.1),(cellS56_3 HI0.out.1),(cellS56_4 HI0.out.1),(cellS56_5 HI0.out.1),(cellS56_6 HI0.out.1),(cellS56_7 HI0.out.1),(cellS56_8 HI0.out.1)⟩ (fun hHeld=>?_)
 clear hK K
 refine nm_ 16 ?_
 refine pu_ 6 4 #[true,true,true,true,true,true,true,false] HT_ ?_
 refine pu_ 7 5 #[true,true,true,true,true,true,true,true] HT_ ?_
 refine done_ (done_of HT_.out (by kernel_rfl)) ?_
 obtain⟨hcz11_0,hcz11_1,hcz11_2,hcz11_3,hcz11_4,hcz11_5,hcz11_6,hcz11_7,hcz11_8,hfz11_0,hfz11_1,hfz11_2,hfz11_3,hfz11_4,hfz11_5,hfz11_6,hfz11_7,hfz11_8⟩:=cs56_ HI0
 go_upto_if 26 with (fail)
 go_cut [26] (fun v26 wc=>∃(kq:Nat) (x26_6:Bool),v26= .bool x26_6∧Aside0 (rule_reader_value_g.j0 kq t198 t206 x26_6=some (r1,r2))∧Aside0 (kq≤k)∧Aside0 (KeepBut w wc g none)∧Aside0 (Below w0.heap.size w0 wc))
 case first =>
  have H:=HC7.out
  clear HC7
  by_cases c12:t206=0
  ·rw[if_pos c12] at H
   have c12b0:(t206==0)=true:=beq_iff_eq.mpr c12
   have c12b1:(t206 !=0)=false:=bne_eq_false_iff_eq.mpr c12
   clear c12
   (first|rw[c12b0]|(simp only[i64_w,i32_w];rw[c12b0])|skip)
   have H':=Aside0.mk H
   clear H
   go_wp2
   go_meet
   case rel=>exact⟨_,((t206==0)),eq_,H',⟨by first|omega|exact Nat.le_refl _⟩,⟨kp_ HK⟩,⟨bs56_ HB HI0⟩⟩
  ·rw[if_neg c12] at H
   have c12b0:(t206==0)=false:=beq_eq_false_iff_ne.mpr c12
   have c12b1:(t206 !=0)=true:=bne_iff_ne.mpr c12
   (first|rw[c12b0]|(simp only[i64_w,i32_w];rw[c12b0])|skip)
   by_cases c13:t206>1
   ·rw[if_pos c13] at H
    have c13b0:decide (1<t206)=true:=decide_eq_true c13
    clear c13
    replace H:=ifn_ H
    obtain⟨c14,H⟩:=H
    have c14b0:decide (0<((t197.extract (t198:Int).toNat ((wrap64 (t198+t206)):Int).toNat).size:Int))=true:=decide_eq_true c14
    have c14b1:decide (0<(t197.extract (t198:Int).toNat ((wrap64 (t198+t206)):Int).toNat).size)=true:=decide_eq_true (by omega)
    clear c14
    (try (have c14x0:=c14b0;simp only[ByteArray.size_extract,Nat.min_self,Nat.sub_zero] at c14x0))
    (try (have c14x1:=c14b1;simp only[ByteArray.size_extract,Nat.min_self,Nat.sub_zero] at c14x1))
    have H':=Aside0.mk H
    clear H
    have p15:0≤(0:Int):=(by omega)
    have q15:0<(t197.extract (t198:Int).toNat ((wrap64 (t198+t206)):Int).toNat).size:=(by have:(0:Int)<((t197.extract (t198:Int).toNat ((wrap64 (t198+t206)):Int).toNat).size:Int):=od_;omega)
    have hx15:∀h:0<(t197.extract (t198:Int).toNat ((wrap64 (t198+t206)):Int).toNat).size,(((t197.extract (t198:Int).toNat ((wrap64 (t198+t206)):Int).toNat)[0]'h).toNat:Int)=bt (t197.extract (t198:Int).toNat ((wrap64 (t198+t206)):Int).toNat) 0:=bt_at (t197.extract (t198:Int).toNat ((wrap64 (t198+t206)):Int).toNat) 0
    clear p15
    have qi15:(0<((t197.extract (t198:Int).toNat ((wrap64 (t198+t206)):Int).toNat).size:Int))=True:=eq_true (od_)
    replace q15:=eq_true q15
    (try (have qv15:=q15;simp only[ByteArray.size_extract,Nat.min_self,Nat.sub_zero] at qv15))
    (try (have qw15:=qi15;simp only[ByteArray.size_extract,Nat.min_self,Nat.sub_zero] at qw15))
    (try (have hy15:=hx15 (of_eq_true q15)))
    (try (have qm15:(wrap64 (t198+t206))≤(t197.size:Int):=od_;have qz15:=qv15;rw[Nat.min_eq_left (by omega)] at qz15;clear qm15))
    go_wp2
    go_meet
    case rel=>exact⟨_,(((bt (t197.extract (t198:Int).toNat ((wrap64 (t198+t206)):Int).toNat) 0)==48)),eq_,H',⟨by first|omega|exact Nat.le_refl _⟩,⟨kp_ HK⟩,⟨bs56_ HB HI0⟩⟩
   ·rw[if_neg c13] at H
    have c13b0:decide (1<t206)=false:=decide_eq_false c13
    clear c13
    have H':=Aside0.mk H
    clear H
    go_wp2
    go_meet
    case rel=>exact⟨_,(false),eq_,H',⟨by first|omega|exact Nat.le_refl _⟩,⟨kp_ HK⟩,⟨bs56_ HB HI0⟩⟩
 case rest =>
  clear HC7
  obtain⟨kq,x26_6,rfl,HA,HJ6,HK,HB⟩:=hcut
  cases kq with
  | zero=>exact absurd HA.out (by simp[rule_reader_value_g.j0])
  | succ kj6 =>
   have H:=HA.out
   clear HA
   simp only[rule_reader_value_g.j0] at H
   by_cases c16:x26_6=true
   ·subst c16
    have H1:((rule_fail_g.f 1 t198).bind fun bt216=>(some (bt216.1,bt216.2)))=some (r1,r2):=by rw[if_pos rfl] at H;exact H
    clear H
    have H:=H1
    clear H1
    replace H:=Option.bind_eq_some_iff.mp H
    obtain⟨⟨t216,t217⟩,A170,H⟩:=H
    dsimp only at H
    have A17:=Aside0.mk A170
    clear A170
    simp only[Option.some.injEq,Prod.mk.injEq] at H
    obtain⟨rfl,rfl⟩:=H
    go_wp2_with (first|(go_at_call 21;(with_reducible refine(rule_fail_g.calls _ _ _ _ _ A17.out).mono ?_);rintro e w' ⟨rfl,hb⟩;exact And.intro rfl (And.intro rfl (below_step (bl_ HB).out hb))))
   ·replace c16:=Bool.eq_false_iff.mpr c16
    subst c16
    have H1:(if t206>9 then ((rule_fail_g.f 2 t198).bind fun bt218=>(some (bt218.1,bt218.2))) else (none))=some (r1,r2):=by rw[if_neg (show ¬(false=true) by decide)] at H;exact H
    clear H
    have H:=H1
    clear H1
    replace H:=ifn_ H
    obtain⟨c18,H⟩:=H
    have c18b0:decide (9<t206)=true:=decide_eq_true c18
    clear c18
    replace H:=Option.bind_eq_some_iff.mp H
    obtain⟨⟨t218,t219⟩,A190,H⟩:=H
    dsimp only at H
    have A19:=Aside0.mk A190
    clear A190
    simp only[Option.some.injEq,Prod.mk.injEq] at H
    obtain⟨rfl,rfl⟩:=H
    go_wp2_with (first|(go_at_call 21;(with_reducible refine(rule_fail_g.calls _ _ _ _ _ A19.out).mono ?_);rintro e w' ⟨rfl,hb⟩;exact And.intro rfl (And.intro rfl (below_step (bl_ HB).out hb))))

/-! ### rule_reader_span: function 47 -/
def rule_reader_span.f (k:Nat) (s0_0:ByteArray) (s0_1:Int) (s0_2:Int) (s0_3:Bool) (s0_4:Bool) (s0_5:Bool) (s0_6:Bool) (s0_7:Bool) (s0_8:Bool):Option (Int × Int × ByteArray × Int × Int × Bool × Bool × Bool × Bool × Bool × Bool):=(rule_reader_value.f k s0_0 s0_1 s0_2 s0_3 s0_4 s0_5 s0_6 s0_7 s0_8).bind fun bt223=>((rule_reader_take.f k bt223.2.2.1 bt223.2.2.2.1 bt223.2.2.2.2.1 bt223.2.2.2.2.2.1 bt223.2.2.2.2.2.2.1 bt223.2.2.2.2.2.2.2.1 bt223.2.2.2.2.2.2.2.2.1 bt223.2.2.2.2.2.2.2.2.2.1 bt223.2.2.2.2.2.2.2.2.2.2 (⟨#[46,46]⟩:ByteArray)).bind fun bt234=>(if bt234.1=true then ((rule_reader_value.f k bt234.2.1 bt234.2.2.1 bt234.2.2.2.1 bt234.2.2.2.2.1 bt234.2.2.2.2.2.1 bt234.2.2.2.2.2.2.1 bt234.2.2.2.2.2.2.2.1 bt234.2.2.2.2.2.2.2.2.1 bt234.2.2.2.2.2.2.2.2.2).bind fun bt244=>(if bt244.1<bt223.1 then (none) else (some (bt223.1,bt244.1,bt244.2.2.1,bt244.2.2.2.1,bt244.2.2.2.2.1,bt244.2.2.2.2.2.1,bt244.2.2.2.2.2.2.1,bt244.2.2.2.2.2.2.2.1,bt244.2.2.2.2.2.2.2.2.1,bt244.2.2.2.2.2.2.2.2.2.1,bt244.2.2.2.2.2.2.2.2.2.2)))) else (some (bt223.1,bt223.1,bt234.2.1,bt234.2.2.1,bt234.2.2.2.1,bt234.2.2.2.2.1,bt234.2.2.2.2.2.1,bt234.2.2.2.2.2.2.1,bt234.2.2.2.2.2.2.2.1,bt234.2.2.2.2.2.2.2.2.1,bt234.2.2.2.2.2.2.2.2.2))))
set_option maxHeartbeats 64000000 in
set_option maxRecDepth 100000 in
theorem rule_reader_span.calls (k:Nat) (g:Nat) (s0_0:ByteArray) (s0_1:Int) (s0_2:Int) (s0_3:Bool) (s0_4:Bool) (s0_5:Bool) (s0_6:Bool) (s0_7:Bool) (s0_8:Bool) (r1:Int) (r2:Int) (r3:ByteArray) (r4:Int) (r5:Int) (r6:Bool) (r7:Bool) (r8:Bool) (r9:Bool) (r10:Bool) (r11:Bool) (w0 w:World) (hI:IsS56 w0 w g s0_0 s0_1 s0_2 s0_3 s0_4 s0_5 s0_6 s0_7 s0_8) (hB:Below w0.heap.size w0 w) (h:rule_reader_span.f k s0_0 s0_1 s0_2 s0_3 s0_4 s0_5 s0_6 s0_7 s0_8=some (r1,r2,r3,r4,r5,r6,r7,r8,r9,r10,r11)) :
  Calls Tryd.prog 47 #[.pointer (some ⟨g,0,none⟩)] w fun e w'=>e= .returned (.agg #[.int .i64 r1,.int .i64 r2])∧IsS56 w0 w' g r3 r4 r5 r6 r7 r8 r9 r10 r11∧Below w0.heap.size w0 w'∧KeepBut w w' g none:=by
 have hu38:=Tryd.underlying38
 have HI0:=Aside0.mk hI
 have HK:=Aside0.mk (KeepBut.refl w g none)
 have HL:=Aside0.mk hB.size
 clear hI
 have HW0:=Aside0.mk hB.size
 have HB:=Aside0.mk hB
 clear hB
 have H:((rule_reader_value.f k s0_0 s0_1 s0_2 s0_3 s0_4 s0_5 s0_6 s0_7 s0_8).bind fun bt223=>((rule_reader_take.f k bt223.2.2.1 bt223.2.2.2.1 bt223.2.2.2.2.1 bt223.2.2.2.2.2.1 bt223.2.2.2.2.2.2.1 bt223.2.2.2.2.2.2.2.1 bt223.2.2.2.2.2.2.2.2.1 bt223.2.2.2.2.2.2.2.2.2.1 bt223.2.2.2.2.2.2.2.2.2.2 (⟨#[46,46]⟩:ByteArray)).bind fun bt234=>(if bt234.1=true then ((rule_reader_value.f k bt234.2.1 bt234.2.2.1 bt234.2.2.2.1 bt234.2.2.2.2.1 bt234.2.2.2.2.2.1 bt234.2.2.2.2.2.2.1 bt234.2.2.2.2.2.2.2.1 bt234.2.2.2.2.2.2.2.2.1 bt234.2.2.2.2.2.2.2.2.2).bind fun bt244=>(if bt244.1<bt223.1 then (none) else (some (bt223.1,bt244.1,bt244.2.2.1,bt244.2.2.2.1,bt244.2.2.2.2.1,bt244.2.2.2.2.2.1,bt244.2.2.2.2.2.2.1,bt244.2.2.2.2.2.2.2.1,bt244.2.2.2.2.2.2.2.2.1,bt244.2.2.2.2.2.2.2.2.2.1,bt244.2.2.2.2.2.2.2.2.2.2)))) else (some (bt223.1,bt223.1,bt234.2.1,bt234.2.2.1,bt234.2.2.2.1,bt234.2.2.2.2.1,bt234.2.2.2.2.2.1,bt234.2.2.2.2.2.2.1,bt234.2.2.2.2.2.2.2.1,bt234.2.2.2.2.2.2.2.2.1,bt234.2.2.2.2.2.2.2.2.2)))))=some (r1,r2,r3,r4,r5,r6,r7,r8,r9,r10,r11):=h
 clear h
 replace H:=Option.bind_eq_some_iff.mp H
 obtain⟨⟨t223,t224,t225,t226,t227,t228,t229,t230,t231,t232,t233⟩,A20,H⟩:=H
 dsimp only at H
 have A2:=Aside0.mk A20
 clear A20
 replace H:=Option.bind_eq_some_iff.mp H
 obtain⟨⟨t234,t235,t236,t237,t238,t239,t240,t241,t242,t243⟩,A30,H⟩:=H
 dsimp only at H
 have A3:=Aside0.mk A30
 clear A30
 by_cases c4:t234=true
 ·subst c4
  have H1:((rule_reader_value.f k t235 t236 t237 t238 t239 t240 t241 t242 t243).bind fun bt244=>(if bt244.1<t223 then (none) else (some (t223,bt244.1,bt244.2.2.1,bt244.2.2.2.1,bt244.2.2.2.2.1,bt244.2.2.2.2.2.1,bt244.2.2.2.2.2.2.1,bt244.2.2.2.2.2.2.2.1,bt244.2.2.2.2.2.2.2.2.1,bt244.2.2.2.2.2.2.2.2.2.1,bt244.2.2.2.2.2.2.2.2.2.2))))=some (r1,r2,r3,r4,r5,r6,r7,r8,r9,r10,r11):=by rw[if_pos rfl] at H;exact H
  clear H
  have H:=H1
  clear H1
  replace H:=Option.bind_eq_some_iff.mp H
  obtain⟨⟨t244,t245,t246,t247,t248,t249,t250,t251,t252,t253,t254⟩,A50,H⟩:=H
  dsimp only at H
  have A5:=Aside0.mk A50
  clear A50
  replace H:=ifp_ H
  obtain⟨c6,H⟩:=H
  have c6b0:decide (t244<t223)=false:=decide_eq_false c6
  clear c6
  simp only[Option.some.injEq,Prod.mk.injEq] at H
  obtain⟨rfl,rfl,rfl,rfl,rfl,rfl,rfl,rfl,rfl,rfl,rfl⟩:=H
  go_enter Tryd.func47,Tryd.ntmps47
  go_wp2_with (first|((with_reducible refine gate_dst (N:=2) rfl ?_);refine be_ 2 #[.int .i64 0,.int .i64 0] 38 ?_;intro gb222 hg w7 hbox hb;have n0_:=Aside0.mk (IsS56.below (is56_ HI0) hb);have n1_:=Aside0.mk (KeepBut.trans (kp_ HK) (KeepBut.of_below hb g none) (.inl rfl));have n2_:=Aside0.mk (below_step (bs56_ HB HI0) hb);have n3_:=Aside0.mk (hbox);have n4_:=Aside0.mk ((by rw[hg];exact(keep_size (w:=w) (g:=g) (row:=none) (kp_ HK)):w.heap.size≤gb222));have n5_:=Aside0.mk ((Nat.le_trans HW0.out (by rw[hg];exact(keep_size (w:=w) (g:=g) (row:=none) (kp_ HK)):w.heap.size≤gb222):w0.heap.size≤gb222));have n6_:=Aside0.mk ((by rw[hg];exact Nat.ne_of_lt (IsS56.lt (show IsS56 w0 _ g s0_0 s0_1 s0_2 s0_3 s0_4 s0_5 s0_6 s0_7 s0_8 from is56_ HI0)):g≠gb222));have n7_:=Aside0.mk ((by rw[hg];exact Nat.ne_of_gt (IsS56.lt (show IsS56 w0 _ g s0_0 s0_1 s0_2 s0_3 s0_4 s0_5 s0_6 s0_7 s0_8 from is56_ HI0)):gb222≠g));clear HI0;clear HK;clear HB;have HI0:=n0_;have HK:=n1_;have HB:=n2_;have BK222:=n3_;have GW222:=n4_;have GE222:=n5_;have NB0_222:=n6_;have NB222_0:=n7_;clear n0_ n1_ n2_ n3_ n4_ n5_ n6_ n7_;clear hb hbox hg)|((with_reducible refine gate_callee (f:=46) rfl ?_);refine gl_ (some 9) Tryd.func46 #[.pointer (some ⟨g,0,none⟩)] ?_;(with_reducible refine(rule_reader_value.calls _ _ _ _ _ _ _ _ _ _ _ _ _ _ _ _ _ _ _ _ _ _ w0 _ ?side1 ?side2 A2.out).mono ?_);(case side1=>exact is56_ HI0);(case side2=>exact bs56_ HB HI0);rintro e w8 ⟨rfl,hi,hb,hk⟩;refine⟨_,rfl,?_⟩;have n0_:=Aside0.mk (KeepBut.blk hk (bk_ BK222).out NB222_0.out (by simp));have n1_:=Aside0.mk (KeepBut.trans (kp_ HK) hk (.inl rfl));have n2_:=Aside0.mk (hb);have n3_:=Aside0.mk (hi);clear BK222;clear HK;clear HB;clear HI0;have BK222:=n0_;have HK:=n1_;have HB:=n2_;have HI0:=n3_;clear n0_ n1_ n2_ n3_;(try clear hb);(try clear hk);(try clear hi))|((with_reducible refine gate_callee (f:=20) rfl ?_);refine gl_ (some 13) Tryd.func20 #[.pointer (some ⟨g,0,none⟩),.string (⟨#[46,46]⟩:ByteArray)] ?_;(with_reducible refine(rule_reader_take.calls _ _ _ _ _ _ _ _ _ _ _ _ _ _ _ _ _ _ _ _ _ _ w0 _ ?side1 ?side2 A3.out).mono ?_);(case side1=>exact is56_ HI0);(case side2=>exact bs56_ HB HI0);rintro e w9 ⟨rfl,hi,hb,hk⟩;refine⟨_,rfl,?_⟩;have n0_:=Aside0.mk (KeepBut.blk hk (bk_ BK222).out NB222_0.out (by simp));have n1_:=Aside0.mk (KeepBut.trans (kp_ HK) hk (.inl rfl));have n2_:=Aside0.mk (hb);have n3_:=Aside0.mk (hi);clear BK222;clear HK;clear HB;clear HI0;have BK222:=n0_;have HK:=n1_;have HB:=n2_;have HI0:=n3_;clear n0_ n1_ n2_ n3_;(try clear hb);(try clear hk);(try clear hi))|((with_reducible refine gate_callee (f:=46) rfl ?_);refine gl_ (some 20) Tryd.func46 #[.pointer (some ⟨g,0,none⟩)] ?_;(with_reducible refine(rule_reader_value.calls _ _ _ _ _ _ _ _ _ _ _ _ _ _ _ _ _ _ _ _ _ _ w0 _ ?side1 ?side2 A5.out).mono ?_);(case side1=>exact is56_ HI0);(case side2=>exact bs56_ HB HI0);rintro e w10 ⟨rfl,hi,hb,hk⟩;refine⟨_,rfl,?_⟩;have n0_:=Aside0.mk (KeepBut.blk hk (bk_ BK222).out NB222_0.out (by simp));have n1_:=Aside0.mk (KeepBut.trans (kp_ HK) hk (.inl rfl));have n2_:=Aside0.mk (hb);have n3_:=Aside0.mk (hi);clear BK222;clear HK;clear HB;clear HI0;have BK222:=n0_;have HK:=n1_;have HB:=n2_;have HI0:=n3_;clear n0_ n1_ n2_ n3_;(try clear hb);(try clear hk);(try clear hi);have hnb11:=NB222_0.out;have hnc11:=NB0_222.out;obtain⟨hcz12_0,hcz12_1,hfz12_0,hfz12_1⟩:=bo2_ BK222))
  refine bodyPost_ret (results_cell_row rfl _ _ gb222 38 #[.int .i64 t223,.int .i64 t244] (0,0) _ rfl ((bp_ BK222).out) Tryd.underlying38 rfl (by kernel_rfl)) rfl ?_
  exact⟨ew_,is56_ HI0,bs56_ HB HI0,kp_ HK⟩
 ·replace c4:=Bool.eq_false_iff.mpr c4
  subst c4
  have H1:(some (t223,t223,t235,t236,t237,t238,t239,t240,t241,t242,t243))=some (r1,r2,r3,r4,r5,r6,r7,r8,r9,r10,r11):=by rw[if_neg (show ¬(false=true) by decide)] at H;exact H
  clear H
  have H:=H1
  clear H1
  simp only[Option.some.injEq,Prod.mk.injEq] at H
  obtain⟨rfl,rfl,rfl,rfl,rfl,rfl,rfl,rfl,rfl,rfl,rfl⟩:=H
  go_enter Tryd.func47,Tryd.ntmps47
  go_wp2_with (first|((with_reducible refine gate_dst (N:=2) rfl ?_);refine be_ 2 #[.int .i64 0,.int .i64 0] 38 ?_;intro gb222 hg w13 hbox hb;have n0_:=Aside0.mk (IsS56.below (is56_ HI0) hb);have n1_:=Aside0.mk (KeepBut.trans (kp_ HK) (KeepBut.of_below hb g none) (.inl rfl));have n2_:=Aside0.mk (below_step (bs56_ HB HI0) hb);have n3_:=Aside0.mk (hbox);have n4_:=Aside0.mk ((by rw[hg];exact(keep_size (w:=w) (g:=g) (row:=none) (kp_ HK)):w.heap.size≤gb222));have n5_:=Aside0.mk ((Nat.le_trans HW0.out (by rw[hg];exact(keep_size (w:=w) (g:=g) (row:=none) (kp_ HK)):w.heap.size≤gb222):w0.heap.size≤gb222));have n6_:=Aside0.mk ((by rw[hg];exact Nat.ne_of_lt (IsS56.lt (show IsS56 w0 _ g s0_0 s0_1 s0_2 s0_3 s0_4 s0_5 s0_6 s0_7 s0_8 from is56_ HI0)):g≠gb222));have n7_:=Aside0.mk ((by rw[hg];exact Nat.ne_of_gt (IsS56.lt (show IsS56 w0 _ g s0_0 s0_1 s0_2 s0_3 s0_4 s0_5 s0_6 s0_7 s0_8 from is56_ HI0)):gb222≠g));clear HI0;clear HK;clear HB;have HI0:=n0_;have HK:=n1_;have HB:=n2_;have BK222:=n3_;have GW222:=n4_;have GE222:=n5_;have NB0_222:=n6_;have NB222_0:=n7_;clear n0_ n1_ n2_ n3_ n4_ n5_ n6_ n7_;clear hb hbox hg)|((with_reducible refine gate_callee (f:=46) rfl ?_);refine gl_ (some 9) Tryd.func46 #[.pointer (some ⟨g,0,none⟩)] ?_;(with_reducible refine(rule_reader_value.calls _ _ _ _ _ _ _ _ _ _ _ _ _ _ _ _ _ _ _ _ _ _ w0 _ ?side1 ?side2 A2.out).mono ?_);(case side1=>exact is56_ HI0);(case side2=>exact bs56_ HB HI0);rintro e w14 ⟨rfl,hi,hb,hk⟩;refine⟨_,rfl,?_⟩;have n0_:=Aside0.mk (KeepBut.blk hk (bk_ BK222).out NB222_0.out (by simp));have n1_:=Aside0.mk (KeepBut.trans (kp_ HK) hk (.inl rfl));have n2_:=Aside0.mk (hb);have n3_:=Aside0.mk (hi);clear BK222;clear HK;clear HB;clear HI0;have BK222:=n0_;have HK:=n1_;have HB:=n2_;have HI0:=n3_;clear n0_ n1_ n2_ n3_;(try clear hb);(try clear hk);(try clear hi))|((with_reducible refine gate_callee (f:=20) rfl ?_);refine gl_ (some 13) Tryd.func20 #[.pointer (some ⟨g,0,none⟩),.string (⟨#[46,46]⟩:ByteArray)] ?_;(with_reducible refine(rule_reader_take.calls _ _ _ _ _ _ _ _ _ _ _ _ _ _ _ _ _ _ _ _ _ _ w0 _ ?side1 ?side2 A3.out).mono ?_);(case side1=>exact is56_ HI0);(case side2=>exact bs56_ HB HI0);rintro e w15 ⟨rfl,hi,hb,hk⟩;refine⟨_,rfl,?_⟩;have n0_:=Aside0.mk (KeepBut.blk hk (bk_ BK222).out NB222_0.out (by simp));have n1_:=Aside0.mk (KeepBut.trans (kp_ HK) hk (.inl rfl));have n2_:=Aside0.mk (hb);have n3_:=Aside0.mk (hi);clear BK222;clear HK;clear HB;clear HI0;have BK222:=n0_;have HK:=n1_;have HB:=n2_;have HI0:=n3_;clear n0_ n1_ n2_ n3_;(try clear hb);(try clear hk);(try clear hi);have hnb16:=NB222_0.out;have hnc16:=NB0_222.out;obtain⟨hcz17_0,hcz17_1,hfz17_0,hfz17_1⟩:=bo2_ BK222))
  refine bodyPost_ret (results_cell_row rfl _ _ gb222 38 #[.int .i64 t223,.int .i64 t223] (0,0) _ rfl ((bp_ BK222).out) Tryd.underlying38 rfl (by kernel_rfl)) rfl ?_
  exact⟨ew_,is56_ HI0,bs56_ HB HI0,kp_ HK⟩

/-! ### rule_reader_span_g: function 47 -/
def rule_reader_span_g.f (k:Nat) (s0_0:ByteArray) (s0_1:Int) (s0_2:Int) (s0_3:Bool) (s0_4:Bool) (s0_5:Bool) (s0_6:Bool) (s0_7:Bool) (s0_8:Bool):Option (Int × Int):=orf_ ((rule_reader_value_g.f k s0_0 s0_1 s0_2 s0_3 s0_4 s0_5 s0_6 s0_7 s0_8).bind fun bt292=>(some (bt292.1,bt292.2))) ((rule_reader_value.f k s0_0 s0_1 s0_2 s0_3 s0_4 s0_5 s0_6 s0_7 s0_8).bind fun bt256=>((rule_reader_take.f k bt256.2.2.1 bt256.2.2.2.1 bt256.2.2.2.2.1 bt256.2.2.2.2.2.1 bt256.2.2.2.2.2.2.1 bt256.2.2.2.2.2.2.2.1 bt256.2.2.2.2.2.2.2.2.1 bt256.2.2.2.2.2.2.2.2.2.1 bt256.2.2.2.2.2.2.2.2.2.2 (⟨#[46,46]⟩:ByteArray)).bind fun bt267=>(if bt267.1=true then (orf_ ((rule_reader_value_g.f k bt267.2.1 bt267.2.2.1 bt267.2.2.2.1 bt267.2.2.2.2.1 bt267.2.2.2.2.2.1 bt267.2.2.2.2.2.2.1 bt267.2.2.2.2.2.2.2.1 bt267.2.2.2.2.2.2.2.2.1 bt267.2.2.2.2.2.2.2.2.2).bind fun bt290=>(some (bt290.1,bt290.2))) ((rule_reader_value.f k bt267.2.1 bt267.2.2.1 bt267.2.2.2.1 bt267.2.2.2.2.1 bt267.2.2.2.2.2.1 bt267.2.2.2.2.2.2.1 bt267.2.2.2.2.2.2.2.1 bt267.2.2.2.2.2.2.2.2.1 bt267.2.2.2.2.2.2.2.2.2).bind fun bt277=>(if bt277.1<bt256.1 then ((rule_fail_g.f 3 bt277.2.1).bind fun bt288=>(some (bt288.1,bt288.2))) else (none)))) else (none))))
set_option maxHeartbeats 64000000 in
set_option maxRecDepth 100000 in
theorem rule_reader_span_g.calls (k:Nat) (g:Nat) (s0_0:ByteArray) (s0_1:Int) (s0_2:Int) (s0_3:Bool) (s0_4:Bool) (s0_5:Bool) (s0_6:Bool) (s0_7:Bool) (s0_8:Bool) (r1:Int) (r2:Int) (w0 w:World) (hI:IsS56 w0 w g s0_0 s0_1 s0_2 s0_3 s0_4 s0_5 s0_6 s0_7 s0_8) (hB:Below w0.heap.size w0 w) (h:rule_reader_span_g.f k s0_0 s0_1 s0_2 s0_3 s0_4 s0_5 s0_6 s0_7 s0_8=some (r1,r2)) :
  Calls Tryd.prog 47 #[.pointer (some ⟨g,0,none⟩)] w fun e w'=>e= .panicked [{v:= .iface 52 (.agg #[.int .i64 r1,.int .i64 r2]),recovered:=false}]∧Below w0.heap.size w0 w':=by
 have hu38:=Tryd.underlying38
 have HI0:=Aside0.mk hI
 have HK:=Aside0.mk (KeepBut.refl w g none)
 have HL:=Aside0.mk hB.size
 clear hI
 have HW0:=Aside0.mk hB.size
 have HB:=Aside0.mk hB
 clear hB
 have H:(orf_ ((rule_reader_value_g.f k s0_0 s0_1 s0_2 s0_3 s0_4 s0_5 s0_6 s0_7 s0_8).bind fun bt292=>(some (bt292.1,bt292.2))) ((rule_reader_value.f k s0_0 s0_1 s0_2 s0_3 s0_4 s0_5 s0_6 s0_7 s0_8).bind fun bt256=>((rule_reader_take.f k bt256.2.2.1 bt256.2.2.2.1 bt256.2.2.2.2.1 bt256.2.2.2.2.2.1 bt256.2.2.2.2.2.2.1 bt256.2.2.2.2.2.2.2.1 bt256.2.2.2.2.2.2.2.2.1 bt256.2.2.2.2.2.2.2.2.2.1 bt256.2.2.2.2.2.2.2.2.2.2 (⟨#[46,46]⟩:ByteArray)).bind fun bt267=>(if bt267.1=true then (orf_ ((rule_reader_value_g.f k bt267.2.1 bt267.2.2.1 bt267.2.2.2.1 bt267.2.2.2.2.1 bt267.2.2.2.2.2.1 bt267.2.2.2.2.2.2.1 bt267.2.2.2.2.2.2.2.1 bt267.2.2.2.2.2.2.2.2.1 bt267.2.2.2.2.2.2.2.2.2).bind fun bt290=>(some (bt290.1,bt290.2))) ((rule_reader_value.f k bt267.2.1 bt267.2.2.1 bt267.2.2.2.1 bt267.2.2.2.2.1 bt267.2.2.2.2.2.1 bt267.2.2.2.2.2.2.1 bt267.2.2.2.2.2.2.2.1 bt267.2.2.2.2.2.2.2.2.1 bt267.2.2.2.2.2.2.2.2.2).bind fun bt277=>(if bt277.1<bt256.1 then ((rule_fail_g.f 3 bt277.2.1).bind fun bt288=>(some (bt288.1,bt288.2))) else (none)))) else (none)))))=some (r1,r2):=h
 clear h
 rcases orf_or H with H|H
 ·skip
  replace H:=Option.bind_eq_some_iff.mp H
  obtain⟨⟨t292,t293⟩,A20,H⟩:=H
  dsimp only at H
  have A2:=Aside0.mk A20
  clear A20
  simp only[Option.some.injEq,Prod.mk.injEq] at H
  obtain⟨rfl,rfl⟩:=H
  go_enter Tryd.func47,Tryd.ntmps47
  go_wp2_with (first|((with_reducible refine gate_dst (N:=2) rfl ?_);refine be_ 2 #[.int .i64 0,.int .i64 0] 38 ?_;intro gb255 hg w3 hbox hb;have n0_:=Aside0.mk (IsS56.below (is56_ HI0) hb);have n1_:=Aside0.mk (KeepBut.trans (kp_ HK) (KeepBut.of_below hb g none) (.inl rfl));have n2_:=Aside0.mk (below_step (bs56_ HB HI0) hb);have n3_:=Aside0.mk (hbox);have n4_:=Aside0.mk ((by rw[hg];exact(keep_size (w:=w) (g:=g) (row:=none) (kp_ HK)):w.heap.size≤gb255));have n5_:=Aside0.mk ((Nat.le_trans HW0.out (by rw[hg];exact(keep_size (w:=w) (g:=g) (row:=none) (kp_ HK)):w.heap.size≤gb255):w0.heap.size≤gb255));have n6_:=Aside0.mk ((by rw[hg];exact Nat.ne_of_lt (IsS56.lt (show IsS56 w0 _ g s0_0 s0_1 s0_2 s0_3 s0_4 s0_5 s0_6 s0_7 s0_8 from is56_ HI0)):g≠gb255));have n7_:=Aside0.mk ((by rw[hg];exact Nat.ne_of_gt (IsS56.lt (show IsS56 w0 _ g s0_0 s0_1 s0_2 s0_3 s0_4 s0_5 s0_6 s0_7 s0_8 from is56_ HI0)):gb255≠g));clear HI0;clear HK;clear HB;have HI0:=n0_;have HK:=n1_;have HB:=n2_;have BK255:=n3_;have GW255:=n4_;have GE255:=n5_;have NB0_255:=n6_;have NB255_0:=n7_;clear n0_ n1_ n2_ n3_ n4_ n5_ n6_ n7_;clear hb hbox hg)|(go_at_call 46;(with_reducible refine(rule_reader_value_g.calls _ _ _ _ _ _ _ _ _ _ _ _ _ w0 _ ?side1 ?side2 A2.out).mono ?_);(case side1=>exact is56_ HI0);(case side2=>exact bs56_ HB HI0);rintro e w' ⟨rfl,hb⟩;exact And.intro rfl (And.intro rfl hb)))
 ·skip
  replace H:=Option.bind_eq_some_iff.mp H
  obtain⟨⟨t256,t257,t258,t259,t260,t261,t262,t263,t264,t265,t266⟩,A40,H⟩:=H
  dsimp only at H
  have A4:=Aside0.mk A40
  clear A40
  replace H:=Option.bind_eq_some_iff.mp H
  obtain⟨⟨t267,t268,t269,t270,t271,t272,t273,t274,t275,t276⟩,A50,H⟩:=H
  dsimp only at H
  have A5:=Aside0.mk A50
  clear A50
  by_cases c6:t267=true
  ·subst c6
   have H1:(orf_ ((rule_reader_value_g.f k t268 t269 t270 t271 t272 t273 t274 t275 t276).bind fun bt290=>(some (bt290.1,bt290.2))) ((rule_reader_value.f k t268 t269 t270 t271 t272 t273 t274 t275 t276).bind fun bt277=>(if bt277.1<t256 then ((rule_fail_g.f 3 bt277.2.1).bind fun bt288=>(some (bt288.1,bt288.2))) else (none))))=some (r1,r2):=by rw[if_pos rfl] at H;exact H
   clear H
   have H:=H1
   clear H1
   rcases orf_or H with H|H
   ·skip
    replace H:=Option.bind_eq_some_iff.mp H
    obtain⟨⟨t290,t291⟩,A70,H⟩:=H
    dsimp only at H
    have A7:=Aside0.mk A70
    clear A70
    simp only[Option.some.injEq,Prod.mk.injEq] at H
    obtain⟨rfl,rfl⟩:=H
    go_enter Tryd.func47,Tryd.ntmps47
    go_wp2_with (first|((with_reducible refine gate_dst (N:=2) rfl ?_);refine be_ 2 #[.int .i64 0,.int .i64 0] 38 ?_;intro gb255 hg w8 hbox hb;have n0_:=Aside0.mk (IsS56.below (is56_ HI0) hb);have n1_:=Aside0.mk (KeepBut.trans (kp_ HK) (KeepBut.of_below hb g none) (.inl rfl));have n2_:=Aside0.mk (below_step (bs56_ HB HI0) hb);have n3_:=Aside0.mk (hbox);have n4_:=Aside0.mk ((by rw[hg];exact(keep_size (w:=w) (g:=g) (row:=none) (kp_ HK)):w.heap.size≤gb255));have n5_:=Aside0.mk ((Nat.le_trans HW0.out (by rw[hg];exact(keep_size (w:=w) (g:=g) (row:=none) (kp_ HK)):w.heap.size≤gb255):w0.heap.size≤gb255));have n6_:=Aside0.mk ((by rw[hg];exact Nat.ne_of_lt (IsS56.lt (show IsS56 w0 _ g s0_0 s0_1 s0_2 s0_3 s0_4 s0_5 s0_6 s0_7 s0_8 from is56_ HI0)):g≠gb255));have n7_:=Aside0.mk ((by rw[hg];exact Nat.ne_of_gt (IsS56.lt (show IsS56 w0 _ g s0_0 s0_1 s0_2 s0_3 s0_4 s0_5 s0_6 s0_7 s0_8 from is56_ HI0)):gb255≠g));clear HI0;clear HK;clear HB;have HI0:=n0_;have HK:=n1_;have HB:=n2_;have BK255:=n3_;have GW255:=n4_;have GE255:=n5_;have NB0_255:=n6_;have NB255_0:=n7_;clear n0_ n1_ n2_ n3_ n4_ n5_ n6_ n7_;clear hb hbox hg)|((with_reducible refine gate_callee (f:=46) rfl ?_);refine gl_ (some 9) Tryd.func46 #[.pointer (some ⟨g,0,none⟩)] ?_;(with_reducible refine(rule_reader_value.calls _ _ _ _ _ _ _ _ _ _ _ _ _ _ _ _ _ _ _ _ _ _ w0 _ ?side1 ?side2 A4.out).mono ?_);(case side1=>exact is56_ HI0);(case side2=>exact bs56_ HB HI0);rintro e w9 ⟨rfl,hi,hb,hk⟩;refine⟨_,rfl,?_⟩;have n0_:=Aside0.mk (KeepBut.blk hk (bk_ BK255).out NB255_0.out (by simp));have n1_:=Aside0.mk (KeepBut.trans (kp_ HK) hk (.inl rfl));have n2_:=Aside0.mk (hb);have n3_:=Aside0.mk (hi);clear BK255;clear HK;clear HB;clear HI0;have BK255:=n0_;have HK:=n1_;have HB:=n2_;have HI0:=n3_;clear n0_ n1_ n2_ n3_;(try clear hb);(try clear hk);(try clear hi))|((with_reducible refine gate_callee (f:=20) rfl ?_);refine gl_ (some 13) Tryd.func20 #[.pointer (some ⟨g,0,none⟩),.string (⟨#[46,46]⟩:ByteArray)] ?_;(with_reducible refine(rule_reader_take.calls _ _ _ _ _ _ _ _ _ _ _ _ _ _ _ _ _ _ _ _ _ _ w0 _ ?side1 ?side2 A5.out).mono ?_);(case side1=>exact is56_ HI0);(case side2=>exact bs56_ HB HI0);rintro e w10 ⟨rfl,hi,hb,hk⟩;refine⟨_,rfl,?_⟩;have n0_:=Aside0.mk (KeepBut.blk hk (bk_ BK255).out NB255_0.out (by simp));have n1_:=Aside0.mk (KeepBut.trans (kp_ HK) hk (.inl rfl));have n2_:=Aside0.mk (hb);have n3_:=Aside0.mk (hi);clear BK255;clear HK;clear HB;clear HI0;have BK255:=n0_;have HK:=n1_;have HB:=n2_;have HI0:=n3_;clear n0_ n1_ n2_ n3_;(try clear hb);(try clear hk);(try clear hi))|(go_at_call 46;(with_reducible refine(rule_reader_value_g.calls _ _ _ _ _ _ _ _ _ _ _ _ _ w0 _ ?side1 ?side2 A7.out).mono ?_);(case side1=>exact is56_ HI0);(case side2=>exact bs56_ HB HI0);rintro e w' ⟨rfl,hb⟩;exact And.intro rfl (And.intro rfl hb)))
   ·skip
    replace H:=Option.bind_eq_some_iff.mp H
    obtain⟨⟨t277,t278,t279,t280,t281,t282,t283,t284,t285,t286,t287⟩,A110,H⟩:=H
    dsimp only at H
    have A11:=Aside0.mk A110
    clear A110
    replace H:=ifn_ H
    obtain⟨c12,H⟩:=H
    have c12b0:decide (t277<t256)=true:=decide_eq_true c12
    clear c12
    replace H:=Option.bind_eq_some_iff.mp H
    obtain⟨⟨t288,t289⟩,A130,H⟩:=H
    dsimp only at H
    have A13:=Aside0.mk A130
    clear A130
    simp only[Option.some.injEq,Prod.mk.injEq] at H
    obtain⟨rfl,rfl⟩:=H
    go_enter Tryd.func47,Tryd.ntmps47
    go_wp2_with (first|((with_reducible refine gate_dst (N:=2) rfl ?_);refine be_ 2 #[.int .i64 0,.int .i64 0] 38 ?_;intro gb255 hg w14 hbox hb;have n0_:=Aside0.mk (IsS56.below (is56_ HI0) hb);have n1_:=Aside0.mk (KeepBut.trans (kp_ HK) (KeepBut.of_below hb g none) (.inl rfl));have n2_:=Aside0.mk (below_step (bs56_ HB HI0) hb);have n3_:=Aside0.mk (hbox);have n4_:=Aside0.mk ((by rw[hg];exact(keep_size (w:=w) (g:=g) (row:=none) (kp_ HK)):w.heap.size≤gb255));have n5_:=Aside0.mk ((Nat.le_trans HW0.out (by rw[hg];exact(keep_size (w:=w) (g:=g) (row:=none) (kp_ HK)):w.heap.size≤gb255):w0.heap.size≤gb255));have n6_:=Aside0.mk ((by rw[hg];exact Nat.ne_of_lt (IsS56.lt (show IsS56 w0 _ g s0_0 s0_1 s0_2 s0_3 s0_4 s0_5 s0_6 s0_7 s0_8 from is56_ HI0)):g≠gb255));have n7_:=Aside0.mk ((by rw[hg];exact Nat.ne_of_gt (IsS56.lt (show IsS56 w0 _ g s0_0 s0_1 s0_2 s0_3 s0_4 s0_5 s0_6 s0_7 s0_8 from is56_ HI0)):gb255≠g));clear HI0;clear HK;clear HB;have HI0:=n0_;have HK:=n1_;have HB:=n2_;have BK255:=n3_;have GW255:=n4_;have GE255:=n5_;have NB0_255:=n6_;have NB255_0:=n7_;clear n0_ n1_ n2_ n3_ n4_ n5_ n6_ n7_;clear hb hbox hg)|((with_reducible refine gate_callee (f:=46) rfl ?_);refine gl_ (some 9) Tryd.func46 #[.pointer (some ⟨g,0,none⟩)] ?_;(with_reducible refine(rule_reader_value.calls _ _ _ _ _ _ _ _ _ _ _ _ _ _ _ _ _ _ _ _ _ _ w0 _ ?side1 ?side2 A4.out).mono ?_);(case side1=>exact is56_ HI0);(case side2=>exact bs56_ HB HI0);rintro e w15 ⟨rfl,hi,hb,hk⟩;refine⟨_,rfl,?_⟩;have n0_:=Aside0.mk (KeepBut.blk hk (bk_ BK255).out NB255_0.out (by simp));have n1_:=Aside0.mk (KeepBut.trans (kp_ HK) hk (.inl rfl));have n2_:=Aside0.mk (hb);have n3_:=Aside0.mk (hi);clear BK255;clear HK;clear HB;clear HI0;have BK255:=n0_;have HK:=n1_;have HB:=n2_;have HI0:=n3_;clear n0_ n1_ n2_ n3_;(try clear hb);(try clear hk);(try clear hi))|((with_reducible refine gate_callee (f:=20) rfl ?_);refine gl_ (some 13) Tryd.func20 #[.pointer (some ⟨g,0,none⟩),.string (⟨#[46,46]⟩:ByteArray)] ?_;(with_reducible refine(rule_reader_take.calls _ _ _ _ _ _ _ _ _ _ _ _ _ _ _ _ _ _ _ _ _ _ w0 _ ?side1 ?side2 A5.out).mono ?_);(case side1=>exact is56_ HI0);(case side2=>exact bs56_ HB HI0);rintro e w16 ⟨rfl,hi,hb,hk⟩;refine⟨_,rfl,?_⟩;have n0_:=Aside0.mk (KeepBut.blk hk (bk_ BK255).out NB255_0.out (by simp));have n1_:=Aside0.mk (KeepBut.trans (kp_ HK) hk (.inl rfl));have n2_:=Aside0.mk (hb);have n3_:=Aside0.mk (hi);clear BK255;clear HK;clear HB;clear HI0;have BK255:=n0_;have HK:=n1_;have HB:=n2_;have HI0:=n3_;clear n0_ n1_ n2_ n3_;(try clear hb);(try clear hk);(try clear hi))|((with_reducible refine gate_callee (f:=46) rfl ?_);refine gl_ (some 20) Tryd.func46 #[.pointer (some ⟨g,0,none⟩)] ?_;(with_reducible refine(rule_reader_value.calls _ _ _ _ _ _ _ _ _ _ _ _ _ _ _ _ _ _ _ _ _ _ w0 _ ?side1 ?side2 A11.out).mono ?_);(case side1=>exact is56_ HI0);(case side2=>exact bs56_ HB HI0);rintro e w17 ⟨rfl,hi,hb,hk⟩;refine⟨_,rfl,?_⟩;have n0_:=Aside0.mk (KeepBut.blk hk (bk_ BK255).out NB255_0.out (by simp));have n1_:=Aside0.mk (KeepBut.trans (kp_ HK) hk (.inl rfl));have n2_:=Aside0.mk (hb);have n3_:=Aside0.mk (hi);clear BK255;clear HK;clear HB;clear HI0;have BK255:=n0_;have HK:=n1_;have HB:=n2_;have HI0:=n3_;clear n0_ n1_ n2_ n3_;(try clear hb);(try clear hk);(try clear hi))|(go_at_call 21;(with_reducible refine(rule_fail_g.calls _ _ _ _ _ A13.out).mono ?_);rintro e w' ⟨rfl,hb⟩;exact And.intro rfl (And.intro rfl (below_step (bs56_ HB HI0) hb))))
  ·replace c6:=Bool.eq_false_iff.mpr c6
   subst c6
   have H1:(none)=some (r1,r2):=by rw[if_neg (show ¬(false=true) by decide)] at H;exact H
   clear H
   have H:=H1
   clear H1
   exact absurd H (by simp)

end Go.Proofs.YtcokjmnkieakiaaDoor.P
