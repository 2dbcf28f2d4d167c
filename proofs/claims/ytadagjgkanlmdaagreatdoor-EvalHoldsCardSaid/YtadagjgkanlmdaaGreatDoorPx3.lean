import Derived.Test.YtadagjgkanlmdaaGreatDoorPx0
import Derived.Test.YtadagjgkanlmdaaGreatDoorPx2
namespace Go.Proofs.YtadagjgkanlmdaaGreatDoor.P
open Go.RowKit Go.Proofs.YtadagjgkanlmdaaGreatDoorW.PrintWords Go.Proofs.YtadagjgkanlmdaaGreatDoorW.PrintLast Go.Proofs.YtadagjgkanlmdaaGreatDoorW.PrintMore
attribute [local go_sem] max2_int min2_int max_two min_two max_three min_three max_four min_four
set_option maxHeartbeats 64000000
set_option maxRecDepth 100000
set_option linter.unusedVariables false
set_option linter.unusedSimpArgs false

def rule_reader_run.l0:Nat→Int→Int→Int→ByteArray→Int→Int→Bool→Bool→Bool→Bool→Bool→Bool→Option (Int × ByteArray × Int × Int × Bool × Bool × Bool × Bool × Bool × Bool)
 | 0,_,_,_,_,_,_,_,_,_,_,_,_=>none
 | k+1,x1,x2,x7,x1000,x1001,x1002,x1003,x1004,x1005,x1006,x1007,x1008=>if (wrap64 (x1001+x7))<(x1000.size:Int) then (if 0≤(wrap64 (x1001+x7)) then (if (bt x1000 (wrap64 (x1001+x7)))≥x1 then (if (bt x1000 (wrap64 (x1001+x7)))≤x2 then (rule_reader_run.l0 k x1 x2 (wrap64 (x7+1)) x1000 x1001 x1002 x1003 x1004 x1005 x1006 x1007 x1008) else (some (x7,x1000,x1001,x1002,x1003,x1004,x1005,x1006,x1007,x1008))) else (some (x7,x1000,x1001,x1002,x1003,x1004,x1005,x1006,x1007,x1008))) else (none)) else (some (x7,x1000,x1001,x1002,x1003,x1004,x1005,x1006,x1007,x1008))
def rule_reader_run.f (k:Nat) (s0_0:ByteArray) (s0_1:Int) (s0_2:Int) (s0_3:Bool) (s0_4:Bool) (s0_5:Bool) (s0_6:Bool) (s0_7:Bool) (s0_8:Bool) (a1:Int) (a2:Int):Option (Int × ByteArray × Int × Int × Bool × Bool × Bool × Bool × Bool × Bool):=rule_reader_run.l0 k a1 a2 0 s0_0 s0_1 s0_2 s0_3 s0_4 s0_5 s0_6 s0_7 s0_8
theorem rule_reader_run.calls (k:Nat) (g:Nat) (s0_0:ByteArray) (s0_1:Int) (s0_2:Int) (s0_3:Bool) (s0_4:Bool) (s0_5:Bool) (s0_6:Bool) (s0_7:Bool) (s0_8:Bool) (a1:Int) (a2:Int) (r1:Int) (r2:ByteArray) (r3:Int) (r4:Int) (r5:Bool) (r6:Bool) (r7:Bool) (r8:Bool) (r9:Bool) (r10:Bool) (w0 w:World) (hI:IsS91 w0 w g s0_0 s0_1 s0_2 s0_3 s0_4 s0_5 s0_6 s0_7 s0_8) (hB:Below w0.heap.size w0 w) (h:rule_reader_run.f k s0_0 s0_1 s0_2 s0_3 s0_4 s0_5 s0_6 s0_7 s0_8 a1 a2=some (r1,r2,r3,r4,r5,r6,r7,r8,r9,r10)) :
  Calls Tryz.prog 104 #[.pointer (some ⟨g,0,none⟩),.int .u8 a1,.int .u8 a2] w fun e w'=>e= .returned (.int .i64 r1)∧IsS91 w0 w' g r2 r3 r4 r5 r6 r7 r8 r9 r10∧Below w0.heap.size w0 w'∧KeepBut w w' g none:=by
 have HI0:=am_ hI
 have HK:=am_ (KeepBut.refl w g none)
 have HL:=am_ hB.size
 clear hI
 have HW0:=am_ hB.size
 have HB:=am_ hB
 clear hB
 have H:=h
 clear h
 unfold rule_reader_run.f at H
 have H':=am_ H
 clear H
 go_enter Tryz.func104,Tryz.ntmps104
 go_wp2
 repeat(go_quiet (fail);try go_wp2)
 go_loopg [7] k (fun kq v7 w'=>∃(x7_1:Int),v7= .int .i64 x7_1∧Aside0 (rule_reader_run.l0 kq a1 a2 x7_1 s0_0 s0_1 s0_2 s0_3 s0_4 s0_5 s0_6 s0_7 s0_8=some (r1,r2,r3,r4,r5,r6,r7,r8,r9,r10))∧Aside0 (kq≤k)∧Aside0 (IsS91 w0 w' g s0_0 s0_1 s0_2 s0_3 s0_4 s0_5 s0_6 s0_7 s0_8)∧Aside0 (KeepBut w w' g none)∧Aside0 (Below w0.heap.size w0 w'))
 case atStart=>exact⟨(0),eq_,H',⟨Nat.le_refl _⟩,⟨is91_ HI0⟩,⟨kp_ HK⟩,⟨bs91_ HB HI0⟩⟩
 clear H'
 obtain⟨x7_1,rfl,HA,HK1,HI0,HK,HB⟩:=hrel
 cases gk with
 | zero=>exact absurd HA.out (by simp[rule_reader_run.l0])
 | succ k1=>?_
 have H:=HA.out
 clear HA
 simp only[rule_reader_run.l0] at H
 by_cases c4:(wrap64 (s0_1+x7_1))<(s0_0.size:Int)
 ·rw[if_pos c4] at H
  have c4b0:=decide_eq_true c4
  clear c4
  obtain⟨ji5,hji5⟩:∃j_:Int,(wrap64 (s0_1+x7_1))=j_:=⟨_,rfl⟩
  replace H:(if 0≤(ji5) then (if (bt s0_0 (ji5))≥a1 then (if (bt s0_0 (ji5))≤a2 then (rule_reader_run.l0 k1 a1 a2 (wrap64 (x7_1+1)) s0_0 s0_1 s0_2 s0_3 s0_4 s0_5 s0_6 s0_7 s0_8) else (some (x7_1,s0_0,s0_1,s0_2,s0_3,s0_4,s0_5,s0_6,s0_7,s0_8))) else (some (x7_1,s0_0,s0_1,s0_2,s0_3,s0_4,s0_5,s0_6,s0_7,s0_8))) else (none))=some (r1,r2,r3,r4,r5,r6,r7,r8,r9,r10):=by first|(rw[hji5] at H;exact H)|(simp only[hji5] at H ⊢;exact H)
  (try rw[hji5] at c4b0)
  have hji5w:(IntKind.i64.wrap (s0_1+x7_1))=ji5:=(i64_w _).trans hji5
  replace H:=ifn_ H
  obtain⟨c6,H⟩:=H
  have c6b0:decide (0≤(ji5))=true:=decide_eq_true c6
  clear c6
  by_cases c8:(bt s0_0 (ji5))≥a1
  ·rw[if_pos c8] at H
   have c8b0:decide (a1≤(bt s0_0 (ji5)))=true:=decide_eq_true c8
   clear c8
   by_cases c10:(bt s0_0 (ji5))≤a2
   ·rw[if_pos c10] at H
    have c10b0:=decide_eq_true c10
    clear c10
    have H':=am_ H
    clear H
    obtain⟨hcz11_0,hcz11_1,hcz11_2,hcz11_3,hcz11_4,hcz11_5,hcz11_6,hcz11_7,hcz11_8,hfz11_0,hfz11_1,hfz11_2,hfz11_3,hfz11_4,hfz11_5,hfz11_6,hfz11_7,hfz11_8⟩:=cs91_ HI0
    have p7:0≤((ji5):Int):=od_
    have q7:(ji5)<(s0_0.size:Int):=od_
    have hx7:=bt_at s0_0 (ji5)
    replace p7:=eq_true p7
    replace q7:=eq_true q7
    have p9:0≤((ji5):Int):=od_
    have q9:(ji5)<(s0_0.size:Int):=od_
    have hx9:=bt_at s0_0 (ji5)
    replace p9:=eq_true p9
    replace q9:=eq_true q9
    go_wp2
    repeat(go_quiet (fail);try go_wp2)
    go_roundg k1
    case measure=>have:=HK1.out;omega
    case rel=>exact⟨(wrap64 (x7_1+1)),eq_,H',⟨by have:=HK1.out;omega⟩,⟨is91_ HI0⟩,⟨kp_ HK⟩,⟨bs91_ HB HI0⟩⟩
   rw[if_neg c10] at H
   have c10b0:=decide_eq_false c10
   clear c10
   simp only[Option.some.injEq,Prod.mk.injEq] at H
   obtain⟨rfl,rfl,rfl,rfl,rfl,rfl,rfl,rfl,rfl,rfl⟩:=H
   obtain⟨hcz12_0,hcz12_1,hcz12_2,hcz12_3,hcz12_4,hcz12_5,hcz12_6,hcz12_7,hcz12_8,hfz12_0,hfz12_1,hfz12_2,hfz12_3,hfz12_4,hfz12_5,hfz12_6,hfz12_7,hfz12_8⟩:=cs91_ HI0
   have p7:0≤((ji5):Int):=od_
   have q7:(ji5)<(s0_0.size:Int):=od_
   have hx7:=bt_at s0_0 (ji5)
   replace p7:=eq_true p7
   replace q7:=eq_true q7
   have p9:0≤((ji5):Int):=od_
   have q9:(ji5)<(s0_0.size:Int):=od_
   have hx9:=bt_at s0_0 (ji5)
   replace p9:=eq_true p9
   replace q9:=eq_true q9
   go_wp2
   repeat(go_quiet (fail);try go_wp2)
   go_ret
   exact⟨by first|rfl|(simp[errW_none,errW_some] <;> rfl)|(simp only[← hji5];first|rfl|(simp[errW_none,errW_some] <;> rfl))|(simp[*,errW_none,errW_some] <;> first|rfl|exact given_isEmpty _|exact(given_isEmpty _).symm),is91_ HI0,bs91_ HB HI0,kp_ HK⟩
  rw[if_neg c8] at H
  have c8b0:decide (a1≤(bt s0_0 (ji5)))=false:=decide_eq_false c8
  clear c8
  simp only[Option.some.injEq,Prod.mk.injEq] at H
  obtain⟨rfl,rfl,rfl,rfl,rfl,rfl,rfl,rfl,rfl,rfl⟩:=H
  obtain⟨hcz13_0,hcz13_1,hcz13_2,hcz13_3,hcz13_4,hcz13_5,hcz13_6,hcz13_7,hcz13_8,hfz13_0,hfz13_1,hfz13_2,hfz13_3,hfz13_4,hfz13_5,hfz13_6,hfz13_7,hfz13_8⟩:=cs91_ HI0
  have p7:0≤((ji5):Int):=od_
  have q7:(ji5)<(s0_0.size:Int):=od_
  have hx7:=bt_at s0_0 (ji5)
  replace p7:=eq_true p7
  replace q7:=eq_true q7
  go_wp2
  repeat(go_quiet (fail);try go_wp2)
  go_ret
  exact⟨by first|rfl|(simp[errW_none,errW_some] <;> rfl)|(simp only[← hji5];first|rfl|(simp[errW_none,errW_some] <;> rfl))|(simp[*,errW_none,errW_some] <;> first|rfl|exact given_isEmpty _|exact(given_isEmpty _).symm),is91_ HI0,bs91_ HB HI0,kp_ HK⟩
 rw[if_neg c4] at H
 have c4b0:=decide_eq_false c4
 clear c4
 simp only[Option.some.injEq,Prod.mk.injEq] at H
 obtain⟨rfl,rfl,rfl,rfl,rfl,rfl,rfl,rfl,rfl,rfl⟩:=H
 obtain⟨hcz14_0,hcz14_1,hcz14_2,hcz14_3,hcz14_4,hcz14_5,hcz14_6,hcz14_7,hcz14_8,hfz14_0,hfz14_1,hfz14_2,hfz14_3,hfz14_4,hfz14_5,hfz14_6,hfz14_7,hfz14_8⟩:=cs91_ HI0
 go_wp2
 repeat(go_quiet (fail);try go_wp2)
 go_ret
 exact⟨ew_,is91_ HI0,bs91_ HB HI0,kp_ HK⟩
theorem rule_reader_run.same_l:∀(k:Nat) (a b n:Int) (s:ByteArray) (x y:Int) (c1 c2 c3 c4 c5 c6:Bool) (r1:Int) (r2:ByteArray) (r3 r4:Int) (r5 r6 r7 r8 r9 r10:Bool),rule_reader_run.l0 k a b n s x y c1 c2 c3 c4 c5 c6=some (r1,r2,r3,r4,r5,r6,r7,r8,r9,r10)→s=r2∧x=r3∧y=r4∧c1=r5∧c2=r6∧c3=r7∧c4=r8∧c5=r9∧c6=r10
  | 0,_,_,_,_,_,_,_,_,_,_,_,_,_,_,_,_,_,_,_,_,_,_,h=>by simp[rule_reader_run.l0] at h
  | k+1,a,b,n,s,x,y,c1,c2,c3,c4,c5,c6,_,_,_,_,_,_,_,_,_,_,h=>by
    have D:∀ {r1 r1':Int} {s r2:ByteArray} {x y r3 r4:Int} {c1 c2 c3 c4 c5 c6 r5 r6 r7 r8 r9 r10:Bool},some (r1,s,x,y,c1,c2,c3,c4,c5,c6)=some (r1',r2,r3,r4,r5,r6,r7,r8,r9,r10)→s=r2∧x=r3∧y=r4∧c1=r5∧c2=r6∧c3=r7∧c4=r8∧c5=r9∧c6=r10:=by
      intro _ _ _ _ _ _ _ _ _ _ _ _ _ _ _ _ _ _ _ _ h;simpa using (Prod.mk.inj (Option.some.inj h)).2
    simp only[rule_reader_run.l0] at h
    split at h
    · split at h
      · split at h
        · split at h
          · exact rule_reader_run.same_l k _ _ _ _ _ _ _ _ _ _ _ _ _ _ _ _ _ _ _ _ _ _ h
          · exact D h
        · exact D h
      · cases h
    · exact D h
theorem rule_reader_run.same {k:Nat} {s:ByteArray} {x y:Int} {c1 c2 c3 c4 c5 c6:Bool} {a b:Int} {r1:Int} {r2:ByteArray} {r3 r4:Int} {r5 r6 r7 r8 r9 r10:Bool} (h:rule_reader_run.f k s x y c1 c2 c3 c4 c5 c6 a b=some (r1,r2,r3,r4,r5,r6,r7,r8,r9,r10)):s=r2∧x=r3∧y=r4∧c1=r5∧c2=r6∧c3=r7∧c4=r8∧c5=r9∧c6=r10:=rule_reader_run.same_l _ _ _ _ _ _ _ _ _ _ _ _ _ _ _ _ _ _ _ _ _ _ _ h

def rule_reader_word.f (k:Nat) (s0_0:ByteArray) (s0_1:Int) (s0_2:Int) (s0_3:Bool) (s0_4:Bool) (s0_5:Bool) (s0_6:Bool) (s0_7:Bool) (s0_8:Bool):Option (ByteArray × ByteArray × Int × Int × Bool × Bool × Bool × Bool × Bool × Bool):=(rule_reader_blanks.f k s0_0 s0_1 s0_2 s0_3 s0_4 s0_5 s0_6 s0_7 s0_8).bind fun bt171=>((rule_reader_run.f k bt171.1 bt171.2.1 bt171.2.2.1 bt171.2.2.2.1 bt171.2.2.2.2.1 bt171.2.2.2.2.2.1 bt171.2.2.2.2.2.2.1 bt171.2.2.2.2.2.2.2.1 bt171.2.2.2.2.2.2.2.2 97 122).bind fun bt180=>(if 0≤bt171.2.1 then (if bt171.2.1≤(wrap64 (bt171.2.1+bt180.1)) then (if (wrap64 (bt171.2.1+bt180.1))≤(bt171.1.size:Int) then (some (bt171.1.extract (bt171.2.1:Int).toNat ((wrap64 (bt171.2.1+bt180.1)):Int).toNat,bt171.1,bt171.2.1,bt171.2.2.1,bt171.2.2.2.1,bt171.2.2.2.2.1,bt171.2.2.2.2.2.1,bt171.2.2.2.2.2.2.1,bt171.2.2.2.2.2.2.2.1,bt171.2.2.2.2.2.2.2.2)) else (none)) else (none)) else (none)))
def rule_reader_word.T2:Bool × List (List Nat × List Nat):=(true,[([],[]),([0],[0]),([1],[1]),([2],[2]),([],[]),([4],[4]),([5],[5]),([6],[6]),([],[]),([8],[8]),([9],[9]),([10],[10]),([],[]),([12],[12]),([11,13],[11,13]),([3,7,14],[3,7,14]),([15,13,0,1,2,3,4,5,6,7,8,9,10,11,12,13,14,15],[15])])
def rule_reader_word.B2:List Nat:=[0,1,3,7,0,16,48,112,0,256,768,1792,0,4096,16128,32767,65535]
theorem rule_reader_word.tab2:rtab .any (opsOf Tryz.f83 2)=rule_reader_word.T2:=by kernel_rfl
theorem rule_reader_word.bits2:waitsOk rule_reader_word.T2.2 rule_reader_word.B2=true:=by kernel_rfl
theorem rule_reader_word.calls (k:Nat) (g:Nat) (s0_0:ByteArray) (s0_1:Int) (s0_2:Int) (s0_3:Bool) (s0_4:Bool) (s0_5:Bool) (s0_6:Bool) (s0_7:Bool) (s0_8:Bool) (r1:ByteArray) (r2:ByteArray) (r3:Int) (r4:Int) (r5:Bool) (r6:Bool) (r7:Bool) (r8:Bool) (r9:Bool) (r10:Bool) (w0 w:World) (hI:IsS91 w0 w g s0_0 s0_1 s0_2 s0_3 s0_4 s0_5 s0_6 s0_7 s0_8) (hB:Below w0.heap.size w0 w) (h:rule_reader_word.f k s0_0 s0_1 s0_2 s0_3 s0_4 s0_5 s0_6 s0_7 s0_8=some (r1,r2,r3,r4,r5,r6,r7,r8,r9,r10)) :
  Calls Tryz.prog 83 #[.pointer (some ⟨g,0,none⟩)] w fun e w'=>e= .returned (.string r1)∧IsS91 w0 w' g r2 r3 r4 r5 r6 r7 r8 r9 r10∧Below w0.heap.size w0 w'∧KeepBut w w' g none:=by
 have HI0:=am_ hI
 have HK:=am_ (KeepBut.refl w g none)
 have HL:=am_ hB.size
 clear hI
 have HW0:=am_ hB.size
 have HB:=am_ hB
 clear hB
 have H:=h
 clear h
 unfold rule_reader_word.f at H
 replace H:=Option.bind_eq_some_iff.mp H
 obtain⟨⟨t171,t172,t173,t174,t175,t176,t177,t178,t179⟩,A20,H⟩:=H
 dsimp only at H
 have A2:=am_ A20
 clear A20
 replace H:=Option.bind_eq_some_iff.mp H
 obtain⟨⟨t180,t181,t182,t183,t184,t185,t186,t187,t188,t189⟩,A30,H⟩:=H
 dsimp only at H
 have A3:=am_ A30
 clear A30
 obtain⟨rfl,rfl,rfl,rfl,rfl,rfl,rfl,rfl,rfl⟩:=rule_reader_run.same A3.out
 replace H:=ifn_ H
 obtain⟨c4,H⟩:=H
 have c4b0:=eq_true c4
 have c4b1:decide (0≤t172)=true:=decide_eq_true c4
 clear c4
 replace H:=ifn_ H
 obtain⟨c5,H⟩:=H
 have c5b0:=eq_true c5
 have c5b1:decide (t172≤(wrap64 (t172+t180)))=true:=decide_eq_true c5
 replace H:=ifn_ H
 obtain⟨c6,H⟩:=H
 have c6b0:=eq_true c6
 have c6b1:decide ((wrap64 (t172+t180))≤(t171.size:Int))=true:=decide_eq_true c6
 simp only[Option.some.injEq,Prod.mk.injEq] at H
 obtain⟨rfl,rfl,rfl,rfl,rfl,rfl,rfl,rfl,rfl,rfl⟩:=H
 go_enter Tryz.func83,Tryz.ntmps83
 try go_wp2_with (first|((with_reducible refine gate_callee (f:=82) rfl ?_);refine gl_ (some 4) Tryz.func82 #[.pointer (some ⟨g,0,none⟩)] ?_;(with_reducible refine(rule_reader_blanks.calls _ _ _ _ _ _ _ _ _ _ _ _ _ _ _ _ _ _ _ _ w0 _ ?side1 ?side2 A2.out).mono ?_);(case side1=>exact is91_ HI0);(case side2=>exact bs91_ HB HI0);rintro e w7 ⟨rfl,hi,hb,hk⟩;refine⟨_,rfl,?_⟩;replace HK:=am_ (KeepBut.trans (kp_ HK) hk (.inl rfl));replace HB:=am_ (hb);replace HI0:=am_ (hi);(try clear hb);(try clear hk);(try clear hi)))
 replace HI0:=am_ (IsS91.drew HI0.out)
 replace HK:=am_ (keep_drew HK.out)
 replace HB:=am_ (below_drew1 HB.out)
 refine start_ (n:=17) (S:=fun w'=>w'.cell? ⟨g,0,none⟩=some (.string t171)∧w'.cell? ⟨g,1,none⟩=some (.int .i64 t172)∧w'.cell? ⟨g,2,none⟩=some (.int .i64 t173)∧w'.cell? ⟨g,3,none⟩=some (.bool t174)∧w'.cell? ⟨g,4,none⟩=some (.bool t175)∧w'.cell? ⟨g,5,none⟩=some (.bool t176)∧w'.cell? ⟨g,6,none⟩=some (.bool t177)∧w'.cell? ⟨g,7,none⟩=some (.bool t178)∧w'.cell? ⟨g,8,none⟩=some (.bool t179)) (ds:=[]) #[false,false,false,false,false,false,false,false,false,false,false,false,false,false,false,false,false] (by kernel_rfl) rfl rfl ⟨(cellS91_0 HI0.out.1),(cellS91_1 HI0.out.1),(cellS91_2 HI0.out.1),(cellS91_3 HI0.out.1),(cellS91_4 HI0.out.1),(cellS91_5 HI0.out.1),(cellS91_6 HI0.out.1),(cellS91_7 HI0.out.1),(cellS91_8 HI0.out.1)⟩ (fun hHeld=>?_);refine with_tabW rule_reader_word.tab2 rule_reader_word.bits2 (fun HT_ HW_=>?_)
 generalize w7.drew=w8 at HI0 HK HB hHeld ⊢
 refine pu_ 0 5 (bm_ 17 1) HT_ ?_
 refine pu_ 1 6 (bm_ 17 3) HT_ ?_
 refine pu_ 2 7 (bm_ 17 7) HT_ ?_
 refine pu_ 4 9 (bm_ 17 23) HT_ ?_
 refine pu_ 5 10 (bm_ 17 55) HT_ ?_
 refine pu_ 6 11 (bm_ 17 119) HT_ ?_
 refine pu_ 8 13 (bm_ 17 375) HT_ ?_
 refine pu_ 9 14 (bm_ 17 887) HT_ ?_
 refine pu_ 10 15 (bm_ 17 1911) HT_ ?_
 refine pu_ 12 17 (bm_ 17 6007) HT_ ?_
 refine tk_ 3 8 (bm_ 17 6015) HT_ HW_ hHeld rfl (by rintro w' ⟨s0,s1,s2,s3,s4,s5,s6,s7,s8⟩;go_simp;with_reducible rfl) ?_
 refine tk_ 7 12 (bm_ 17 6143) HT_ HW_ hHeld rfl (by rintro w' ⟨s0,s1,s2,s3,s4,s5,s6,s7,s8⟩;go_simp;with_reducible rfl) ?_
 refine tk_ 11 16 (bm_ 17 8191) HT_ HW_ hHeld rfl (by rintro w' ⟨s0,s1,s2,s3,s4,s5,s6,s7,s8⟩;go_simp;with_reducible rfl) ?_
 refine one_ (i:=13) (N:=some 18) (bm_ 17 16383) rfl rfl (one_of HT_.out (by kernel_rfl)) (by decide) (fun K hK=>?_)
 refine gs_ Tryz.func104 #[.pointer (some ⟨g,0,none⟩),.int .u8 97,.int .u8 122] ?_
 with_reducible refine(rule_reader_run.calls _ _ _ _ _ _ _ _ _ _ _ _ _ _ _ _ _ _ _ _ _ _ _ w0 _ ?side1 ?side2 A3.out).mono ?_
 (case side1=>exact is91_ HI0)
 (case side2=>exact bs91_ HB HI0)
 rintro e w9 ⟨rfl,hi,hb,hk⟩
 refine⟨_,rfl,?_⟩
 replace HK:=am_ (KeepBut.trans (kp_ HK) hk (.inl rfl))
 replace HB:=am_ (hb)
 replace HI0:=am_ (hi)
 (try clear hb)
 (try clear hb2)
 (try clear hk)
 (try clear hi)
 refine hK.out _ _ ⟨(cellS91_0 HI0.out.1),(cellS91_1 HI0.out.1),(cellS91_2 HI0.out.1),(cellS91_3 HI0.out.1),(cellS91_4 HI0.out.1),(cellS91_5 HI0.out.1),(cellS91_6 HI0.out.1),(cellS91_7 HI0.out.1),(cellS91_8 HI0.out.1)⟩ (fun hHeld=>?_)
 clear hK K
 refine nm_ 18 ?_
 refine pu_ 14 19 (bm_ 17 32767) HT_ ?_
 refine pu_ 15 20 (bm_ 17 65535) HT_ ?_
 refine pu_ 16 2 (bm_ 17 131071) HT_ ?_
 refine done_ (done_of HT_.out (by kernel_rfl)) ?_
 try go_wp2
 go_ret
 exact⟨ew_,is91_ HI0,bs91_ HB HI0,kp_ HK⟩

def rule_Cat_String.f (a0:Int):Option (ByteArray):=if a0<0 then (some (⟨#[]⟩:ByteArray)) else (if a0>5 then (some (⟨#[]⟩:ByteArray)) else (if 0≤a0 then (if a0<6 then (some (rdOf ByteArray.empty [(⟨#[122,101,114,111]⟩:ByteArray),(⟨#[111,110,101]⟩:ByteArray),(⟨#[116,119,111]⟩:ByteArray),(⟨#[102,101,119]⟩:ByteArray),(⟨#[109,97,110,121]⟩:ByteArray),(⟨#[111,116,104,101,114]⟩:ByteArray)] a0)) else (none)) else (none)))
theorem rule_Cat_String.calls (a0:Int) (r:ByteArray) (w:World) (h:rule_Cat_String.f a0=some r) :
  Calls Tryz.prog 49 #[.int .i64 a0] w fun e w'=>e= .returned (.string r)∧Below w.heap.size w w':=by
 have hu137:=Tryz.underlying137
 have HB:=am_ (Below.refl w.heap.size w)
 have H:=h
 clear h
 unfold rule_Cat_String.f at H
 by_cases c2:a0<0
 ·rw[if_pos c2] at H
  have c2b0:=decide_eq_true c2
  clear c2
  obtain rfl:=Option.some.inj H
  go_enter Tryz.func49,Tryz.ntmps49
  go_wp2_with (first|((with_reducible refine gate_dst (N:=3) rfl ?_);refine be_ 3 #[.string (⟨#[]⟩:ByteArray),.string (⟨#[]⟩:ByteArray),.string (⟨#[]⟩:ByteArray),.string (⟨#[]⟩:ByteArray),.string (⟨#[]⟩:ByteArray),.string (⟨#[]⟩:ByteArray)] 137 ?_;intro gb190 hg w3 hbox hb;have BK190:=am_ (hbox);have GW190:=sz_ HB hg;have GE190:=sz_ HB hg;replace HB:=am_ (below_step (bl_ HB).out hb);clear hb hbox hg;obtain⟨hcz4_0,hcz4_1,hcz4_2,hcz4_3,hcz4_4,hcz4_5,hfz4_0,hfz4_1,hfz4_2,hfz4_3,hfz4_4,hfz4_5⟩:=bo6_ BK190))
  go_ret
  exact⟨ew_,(bl_ HB).out⟩
 rw[if_neg c2] at H
 have c2b0:=decide_eq_false c2
 clear c2
 by_cases c5:a0>5
 ·rw[if_pos c5] at H
  have c5b0:decide (5<a0)=true:=decide_eq_true c5
  clear c5
  obtain rfl:=Option.some.inj H
  go_enter Tryz.func49,Tryz.ntmps49
  go_wp2_with (first|((with_reducible refine gate_dst (N:=3) rfl ?_);refine be_ 3 #[.string (⟨#[]⟩:ByteArray),.string (⟨#[]⟩:ByteArray),.string (⟨#[]⟩:ByteArray),.string (⟨#[]⟩:ByteArray),.string (⟨#[]⟩:ByteArray),.string (⟨#[]⟩:ByteArray)] 137 ?_;intro gb190 hg w6 hbox hb;have BK190:=am_ (hbox);have GW190:=sz_ HB hg;have GE190:=sz_ HB hg;replace HB:=am_ (below_step (bl_ HB).out hb);clear hb hbox hg;obtain⟨hcz7_0,hcz7_1,hcz7_2,hcz7_3,hcz7_4,hcz7_5,hfz7_0,hfz7_1,hfz7_2,hfz7_3,hfz7_4,hfz7_5⟩:=bo6_ BK190))
  go_ret
  exact⟨ew_,(bl_ HB).out⟩
 rw[if_neg c5] at H
 have c5b0:decide (5<a0)=false:=decide_eq_false c5
 clear c5
 replace H:=ifn_ H
 obtain⟨c8,H⟩:=H
 have c8b0:decide (0≤a0)=true:=decide_eq_true c8
 clear c8
 replace H:=ifn_ H
 obtain⟨c9,H⟩:=H
 have c9b0:decide (a0<6)=true:=decide_eq_true c9
 clear c9
 obtain rfl:=Option.some.inj H
 go_enter Tryz.func49,Tryz.ntmps49
 go_wp2_with (first|((with_reducible refine gate_dst (N:=3) rfl ?_);refine be_ 3 #[.string (⟨#[]⟩:ByteArray),.string (⟨#[]⟩:ByteArray),.string (⟨#[]⟩:ByteArray),.string (⟨#[]⟩:ByteArray),.string (⟨#[]⟩:ByteArray),.string (⟨#[]⟩:ByteArray)] 137 ?_;intro gb190 hg w10 hbox hb;have BK190:=am_ (hbox);have GW190:=sz_ HB hg;have GE190:=sz_ HB hg;replace HB:=am_ (below_step (bl_ HB).out hb);clear hb hbox hg;obtain⟨hcz11_0,hcz11_1,hcz11_2,hcz11_3,hcz11_4,hcz11_5,hfz11_0,hfz11_1,hfz11_2,hfz11_3,hfz11_4,hfz11_5⟩:=bo6_ BK190)|((with_reducible refine gate_store (t:=137) (p:=3) rfl ?_);refine store_event (t:=137) (p:=3) (v:=?vo_w12) (w1:=((((((w10.setCell ⟨gb190,0,none⟩ (.string (⟨#[122,101,114,111]⟩:ByteArray))).setCell ⟨gb190,1,none⟩ (.string (⟨#[111,110,101]⟩:ByteArray))).setCell ⟨gb190,2,none⟩ (.string (⟨#[116,119,111]⟩:ByteArray))).setCell ⟨gb190,3,none⟩ (.string (⟨#[102,101,119]⟩:ByteArray))).setCell ⟨gb190,4,none⟩ (.string (⟨#[109,97,110,121]⟩:ByteArray))).setCell ⟨gb190,5,none⟩ (.string (⟨#[111,116,104,101,114]⟩:ByteArray)))) ?hg ?ho ?hn ?hr ?_;(case ho=>rfl);(case hg=>rfl);(case hn=>rfl);(case hr=>first|(go_simp;done)|(go_simp;rfl));intro w12 hw;have n0_:Aside0 (w12.heap[gb190]? = some (.cells #[.string (⟨#[122,101,114,111]⟩:ByteArray),.string (⟨#[111,110,101]⟩:ByteArray),.string (⟨#[116,119,111]⟩:ByteArray),.string (⟨#[102,101,119]⟩:ByteArray),.string (⟨#[109,97,110,121]⟩:ByteArray),.string (⟨#[111,116,104,101,114]⟩:ByteArray)] 137 (0,0))):=⟨(by rw[hw];exact((bp_ BK190).out))⟩;have n1_:Aside0 (Below w.heap.size w w12):=⟨(by rw[hw];exact(bl_ HB).out)⟩;clear hw;clear BK190;clear HB;revert n0_ n1_;intro BK190 HB;obtain⟨hcz13_0,hcz13_1,hcz13_2,hcz13_3,hcz13_4,hcz13_5,hfz13_0,hfz13_1,hfz13_2,hfz13_3,hfz13_4,hfz13_5⟩:=bo6_ BK190;have hpx14:0≤a0:=od_;have hqx14:a0<6:=od_;have hax14:=ax6_ a0 (od_) (od_);have hcx14:w12.cell? ⟨gb190,a0.toNat,none⟩=some (.string (rdOf ByteArray.empty [(⟨#[122,101,114,111]⟩:ByteArray),(⟨#[111,110,101]⟩:ByteArray),(⟨#[116,119,111]⟩:ByteArray),(⟨#[102,101,119]⟩:ByteArray),(⟨#[109,97,110,121]⟩:ByteArray),(⟨#[111,116,104,101,114]⟩:ByteArray)] a0)):=(blk_cell BK190.out (a0.toNat)).trans (by rcases hax14 with h_|h_|h_|h_|h_|h_ <;> (rw[h_];rfl));clear hax14))
 go_ret
 exact⟨ew_,(bl_ HB).out⟩

def rule_CatOf.l0:Nat→ByteArray→Int→Option (Int × Bool)
 | 0,_,_=>none
 | k+1,x0,x4=>if x4≤5 then ((rule_Cat_String.f x4).bind fun t191=>(if t191.toList=x0.toList then (some (x4,true)) else (rule_CatOf.l0 k x0 (wrap64 (x4+1))))) else (some (0,false))
def rule_CatOf.f (k:Nat) (a0:ByteArray):Option (Int × Bool):=rule_CatOf.l0 k a0 0
theorem rule_CatOf.calls (k:Nat) (a0:ByteArray) (r1:Int) (r2:Bool) (w:World) (h:rule_CatOf.f k a0=some (r1,r2)) :
  Calls Tryz.prog 84 #[.string a0] w fun e w'=>e= .returned (.tuple #[.int .i64 r1,.bool r2])∧Below w.heap.size w w':=by
 have HB:=am_ (Below.refl w.heap.size w)
 have H:=h
 clear h
 unfold rule_CatOf.f at H
 have H':=am_ H
 clear H
 go_enter Tryz.func84,Tryz.ntmps84
 go_wp2
 go_loopg [4] k (fun kq v4 w'=>∃(x4_1:Int),v4= .int .i64 x4_1∧Aside0 (rule_CatOf.l0 kq a0 x4_1=some (r1,r2))∧Aside0 (kq≤k)∧Aside0 (Below w.heap.size w w'))
 case atStart=>exact⟨(0),eq_,H',⟨Nat.le_refl _⟩,(bl_ HB)⟩
 clear H'
 obtain⟨x4_1,rfl,HA,HK1,HB⟩:=hrel
 cases gk with
 | zero=>exact absurd HA.out (by simp[rule_CatOf.l0])
 | succ k1=>?_
 have H:=HA.out
 clear HA
 simp only[rule_CatOf.l0] at H
 by_cases c2:x4_1≤5
 ·rw[if_pos c2] at H
  have c2b0:=decide_eq_true c2
  clear c2
  replace H:=Option.bind_eq_some_iff.mp H
  obtain⟨t191,A30,H⟩:=H
  have A3:=am_ A30
  clear A30
  by_cases c4:t191.toList=a0.toList
  ·rw[if_pos c4] at H
   have c4b0:(t191.toList==a0.toList)=true:=beq_iff_eq.mpr c4
   have c4b1:(t191.toList !=a0.toList)=false:=bne_eq_false_iff_eq.mpr c4
   clear c4
   simp only[Option.some.injEq,Prod.mk.injEq] at H
   obtain⟨rfl,rfl⟩:=H
   go_wp2_with (first|((with_reducible refine gate_callee (f:=49) rfl ?_);refine gl_ (some 10) Tryz.func49 #[.int .i64 x4_1] ?_;(with_reducible refine(rule_Cat_String.calls _ _ _ A3.out).mono ?_);rintro e w5 ⟨rfl,hb⟩;refine⟨_,rfl,?_⟩;replace HB:=am_ (below_step (bl_ HB).out hb);(try clear hb);(try clear hi)))
   go_ret2
   exact⟨ew_,(bl_ HB).out⟩
  rw[if_neg c4] at H
  have c4b0:(t191.toList==a0.toList)=false:=beq_eq_false_iff_ne.mpr c4
  have c4b1:(t191.toList !=a0.toList)=true:=bne_iff_ne.mpr c4
  have H':=am_ H
  clear H
  go_wp2_with (first|((with_reducible refine gate_callee (f:=49) rfl ?_);refine gl_ (some 10) Tryz.func49 #[.int .i64 x4_1] ?_;(with_reducible refine(rule_Cat_String.calls _ _ _ A3.out).mono ?_);rintro e w6 ⟨rfl,hb⟩;refine⟨_,rfl,?_⟩;replace HB:=am_ (below_step (bl_ HB).out hb);(try clear hb);(try clear hi)))
  go_roundg k1
  case measure=>have:=HK1.out;omega
  case rel=>exact⟨(wrap64 (x4_1+1)),eq_,H',⟨by have:=HK1.out;omega⟩,(bl_ HB)⟩
 rw[if_neg c2] at H
 have c2b0:=decide_eq_false c2
 clear c2
 simp only[Option.some.injEq,Prod.mk.injEq] at H
 obtain⟨rfl,rfl⟩:=H
 go_wp2
 go_ret2
 exact⟨ew_,(bl_ HB).out⟩

def stringslite_HasPrefix.f (a0:ByteArray) (a1:ByteArray):Option (Bool):=if (a0.size:Int)≥(a1.size:Int) then (if 0≤(a1.size:Int) then (if (a1.size:Int)≤(a0.size:Int) then (some ((a0.extract 0 ((a1.size:Int):Int).toNat).toList==a1.toList)) else (none)) else (none)) else (some false)
theorem stringslite_HasPrefix.calls (a0:ByteArray) (a1:ByteArray) (r:Bool) (w:World) (h:stringslite_HasPrefix.f a0 a1=some r) :
    Calls Tryz.prog 98 #[.string a0,.string a1] w fun e w'=>e= .returned (.bool r)∧Drawn0 w w':=by
  have H:=h
  clear h
  unfold stringslite_HasPrefix.f at H
  by_cases c3:(a0.size:Int)≥(a1.size:Int)
  · rw[if_pos c3] at H
    have c3b0:decide ((a1.size:Int)≤(a0.size:Int))=true:=decide_eq_true c3
    have c3b1:decide (a1.size≤a0.size)=true:=decide_eq_true (Int.ofNat_le.mp c3)
    clear c3
    replace H:=ifn_ H
    obtain⟨c4,H⟩:=H
    have c4b0:=eq_true c4
    have c4b1:decide (0≤(a1.size:Int))=true:=decide_eq_true c4
    clear c4
    replace H:=ifn_ H
    obtain⟨c5,H⟩:=H
    have c5b0:=eq_true c5
    have c5b1:decide ((a1.size:Int)≤(a0.size:Int))=true:=decide_eq_true c5
    clear c5
    obtain rfl:=Option.some.inj H
    go_enter Tryz.func98,Tryz.ntmps98
    go_wp2
    go_ret
    exact⟨by first|rfl|(simp;done)|(simp[*];done)|(simp;first|exact given_isEmpty _|exact(given_isEmpty _).symm)|(unfold wrap64;omega)|(congr 1;unfold wrap64;omega),by repeat(first|exact Drawn0.refl _|apply Drawn0.step)⟩
  rw[if_neg c3] at H
  have c3b0:decide ((a1.size:Int)≤(a0.size:Int))=false:=decide_eq_false c3
  have c3b1:decide (a1.size≤a0.size)=false:=decide_eq_false (fun h=>c3 (Int.ofNat_le.mpr h))
  clear c3
  obtain rfl:=Option.some.inj H
  go_enter Tryz.func98,Tryz.ntmps98
  go_wp2
  go_ret
  exact⟨by first|rfl|(simp;done)|(simp[*];done)|(simp;first|exact given_isEmpty _|exact(given_isEmpty _).symm)|(unfold wrap64;omega)|(congr 1;unfold wrap64;omega),by repeat(first|exact Drawn0.refl _|apply Drawn0.step)⟩

def strings_HasPrefix.f (a0:ByteArray) (a1:ByteArray):Option (Bool):=(stringslite_HasPrefix.f a0 a1).bind fun t192=>(some t192)
theorem strings_HasPrefix.calls (a0:ByteArray) (a1:ByteArray) (r:Bool) (w:World) (h:strings_HasPrefix.f a0 a1=some r) :
    Calls Tryz.prog 71 #[.string a0,.string a1] w fun e w'=>e= .returned (.bool r)∧Drawn0 w w':=by
  have H:=h
  clear h
  unfold strings_HasPrefix.f at H
  replace H:=Option.bind_eq_some_iff.mp H
  obtain⟨t192,A30,H⟩:=H
  have A3:=am_ A30
  clear A30
  obtain rfl:=Option.some.inj H
  go_enter Tryz.func71,Tryz.ntmps71
  go_wp2_with (first|((with_reducible refine gate_callee (f:=98) rfl ?_);refine gl_ (some 7) Tryz.func98 #[.string a0,.string a1] ?_;(with_reducible refine(stringslite_HasPrefix.calls _ _ _ _ A3.out).mono ?_);rintro e w' ⟨rfl,⟨nd,rfl⟩⟩;refine⟨_,rfl,?_⟩))
  go_ret
  exact⟨by first|rfl|(simp;done)|(simp[*];done)|(simp;first|exact given_isEmpty _|exact(given_isEmpty _).symm)|(unfold wrap64;omega)|(congr 1;unfold wrap64;omega),by repeat(first|exact Drawn0.refl _|apply Drawn0.step)⟩

def rule_reader_take.f (k:Nat) (s0_0:ByteArray) (s0_1:Int) (s0_2:Int) (s0_3:Bool) (s0_4:Bool) (s0_5:Bool) (s0_6:Bool) (s0_7:Bool) (s0_8:Bool) (a1:ByteArray):Option (Bool × ByteArray × Int × Int × Bool × Bool × Bool × Bool × Bool × Bool):=(rule_reader_blanks.f k s0_0 s0_1 s0_2 s0_3 s0_4 s0_5 s0_6 s0_7 s0_8).bind fun bt193=>(if 0≤bt193.2.1 then (if bt193.2.1≤(bt193.1.size:Int) then ((strings_HasPrefix.f (bt193.1.extract (bt193.2.1:Int).toNat bt193.1.size) a1).bind fun t202=>(if t202=true then (some (true,bt193.1,wrap64 (bt193.2.1+(a1.size:Int)),bt193.2.2.1,bt193.2.2.2.1,bt193.2.2.2.2.1,bt193.2.2.2.2.2.1,bt193.2.2.2.2.2.2.1,bt193.2.2.2.2.2.2.2.1,bt193.2.2.2.2.2.2.2.2)) else (some (false,bt193.1,bt193.2.1,bt193.2.2.1,bt193.2.2.2.1,bt193.2.2.2.2.1,bt193.2.2.2.2.2.1,bt193.2.2.2.2.2.2.1,bt193.2.2.2.2.2.2.2.1,bt193.2.2.2.2.2.2.2.2)))) else (none)) else (none))
theorem rule_reader_take.calls (k:Nat) (g:Nat) (s0_0:ByteArray) (s0_1:Int) (s0_2:Int) (s0_3:Bool) (s0_4:Bool) (s0_5:Bool) (s0_6:Bool) (s0_7:Bool) (s0_8:Bool) (a1:ByteArray) (r1:Bool) (r2:ByteArray) (r3:Int) (r4:Int) (r5:Bool) (r6:Bool) (r7:Bool) (r8:Bool) (r9:Bool) (r10:Bool) (w0 w:World) (hI:IsS91 w0 w g s0_0 s0_1 s0_2 s0_3 s0_4 s0_5 s0_6 s0_7 s0_8) (hB:Below w0.heap.size w0 w) (h:rule_reader_take.f k s0_0 s0_1 s0_2 s0_3 s0_4 s0_5 s0_6 s0_7 s0_8 a1=some (r1,r2,r3,r4,r5,r6,r7,r8,r9,r10)) :
  Calls Tryz.prog 61 #[.pointer (some ⟨g,0,none⟩),.string a1] w fun e w'=>e= .returned (.bool r1)∧IsS91 w0 w' g r2 r3 r4 r5 r6 r7 r8 r9 r10∧Below w0.heap.size w0 w'∧KeepBut w w' g none:=by
 have HI0:=am_ hI
 have HK:=am_ (KeepBut.refl w g none)
 have HL:=am_ hB.size
 clear hI
 have HW0:=am_ hB.size
 have HB:=am_ hB
 clear hB
 have H:=h
 clear h
 unfold rule_reader_take.f at H
 replace H:=Option.bind_eq_some_iff.mp H
 obtain⟨⟨t193,t194,t195,t196,t197,t198,t199,t200,t201⟩,A30,H⟩:=H
 dsimp only at H
 have A3:=am_ A30
 clear A30
 replace H:=ifn_ H
 obtain⟨c4,H⟩:=H
 have c4b0:=eq_true c4
 have c4b1:decide (0≤t194)=true:=decide_eq_true c4
 clear c4
 replace H:=ifn_ H
 obtain⟨c5,H⟩:=H
 have c5b0:=eq_true c5
 have c5b1:decide (t194≤(t193.size:Int))=true:=decide_eq_true c5
 clear c5
 replace H:=Option.bind_eq_some_iff.mp H
 obtain⟨t202,A60,H⟩:=H
 have A6:=am_ A60
 clear A60
 by_cases c7:t202=true
 ·subst c7
  rw[if_pos rfl] at H
  simp only[Option.some.injEq,Prod.mk.injEq] at H
  obtain⟨rfl,rfl,rfl,rfl,rfl,rfl,rfl,rfl,rfl,rfl⟩:=H
  go_enter Tryz.func61,Tryz.ntmps61
  go_wp2_with (first|(go_at_call 82;(with_reducible refine(rule_reader_blanks.calls _ _ _ _ _ _ _ _ _ _ _ _ _ _ _ _ _ _ _ _ w0 _ ?side1 ?side2 A3.out).mono ?_);(case side1=>exact is91_ HI0);(case side2=>exact bs91_ HB HI0);rintro e w8 ⟨rfl,hi,hb,hk⟩;replace HK:=am_ (KeepBut.trans (kp_ HK) hk (.inl rfl));replace HB:=am_ (hb);replace HI0:=am_ (hi);(try clear hb);(try clear hk);(try clear hi);obtain⟨hcz9_0,hcz9_1,hcz9_2,hcz9_3,hcz9_4,hcz9_5,hcz9_6,hcz9_7,hcz9_8,hfz9_0,hfz9_1,hfz9_2,hfz9_3,hfz9_4,hfz9_5,hfz9_6,hfz9_7,hfz9_8⟩:=cs91_ HI0)|(go_at_call 71;(with_reducible refine(strings_HasPrefix.calls _ _ _ _ A6.out).mono ?_);rintro e w' ⟨rfl,⟨nd,rfl⟩⟩;(try first|exact⟨rfl,_,World.drewN_drewN _ _ _⟩|exact⟨rfl,_,Eq.trans (World.drewN_drewN _ _ _) (congrArg (World.drewN _) (Nat.add_assoc _ _ _))⟩)))
  repeat(go_quiet (first|(go_at_call 82;(with_reducible refine(rule_reader_blanks.calls _ _ _ _ _ _ _ _ _ _ _ _ _ _ _ _ _ _ _ _ w0 _ ?side1 ?side2 A3.out).mono ?_);(case side1=>exact is91_ HI0);(case side2=>exact bs91_ HB HI0);rintro e w8 ⟨rfl,hi,hb,hk⟩;replace HK:=am_ (KeepBut.trans (kp_ HK) hk (.inl rfl));replace HB:=am_ (hb);replace HI0:=am_ (hi);(try clear hb);(try clear hk);(try clear hi);obtain⟨hcz9_0,hcz9_1,hcz9_2,hcz9_3,hcz9_4,hcz9_5,hcz9_6,hcz9_7,hcz9_8,hfz9_0,hfz9_1,hfz9_2,hfz9_3,hfz9_4,hfz9_5,hfz9_6,hfz9_7,hfz9_8⟩:=cs91_ HI0)|(go_at_call 71;(with_reducible refine(strings_HasPrefix.calls _ _ _ _ A6.out).mono ?_);rintro e w' ⟨rfl,⟨nd,rfl⟩⟩;(try first|exact⟨rfl,_,World.drewN_drewN _ _ _⟩|exact⟨rfl,_,Eq.trans (World.drewN_drewN _ _ _) (congrArg (World.drewN _) (Nat.add_assoc _ _ _))⟩)));try go_wp2_with (first|(go_at_call 82;(with_reducible refine(rule_reader_blanks.calls _ _ _ _ _ _ _ _ _ _ _ _ _ _ _ _ _ _ _ _ w0 _ ?side1 ?side2 A3.out).mono ?_);(case side1=>exact is91_ HI0);(case side2=>exact bs91_ HB HI0);rintro e w8 ⟨rfl,hi,hb,hk⟩;replace HK:=am_ (KeepBut.trans (kp_ HK) hk (.inl rfl));replace HB:=am_ (hb);replace HI0:=am_ (hi);(try clear hb);(try clear hk);(try clear hi);obtain⟨hcz9_0,hcz9_1,hcz9_2,hcz9_3,hcz9_4,hcz9_5,hcz9_6,hcz9_7,hcz9_8,hfz9_0,hfz9_1,hfz9_2,hfz9_3,hfz9_4,hfz9_5,hfz9_6,hfz9_7,hfz9_8⟩:=cs91_ HI0)|(go_at_call 71;(with_reducible refine(strings_HasPrefix.calls _ _ _ _ A6.out).mono ?_);rintro e w' ⟨rfl,⟨nd,rfl⟩⟩;(try first|exact⟨rfl,_,World.drewN_drewN _ _ _⟩|exact⟨rfl,_,Eq.trans (World.drewN_drewN _ _ _) (congrArg (World.drewN _) (Nat.add_assoc _ _ _))⟩))))
  go_ret
  exact⟨ew_,is91_ HI0,bs91_ HB HI0,kp_ HK⟩
 replace c7:=Bool.eq_false_iff.mpr c7
 subst c7
 rw[if_neg (show ¬(false=true) by decide)] at H
 simp only[Option.some.injEq,Prod.mk.injEq] at H
 obtain⟨rfl,rfl,rfl,rfl,rfl,rfl,rfl,rfl,rfl,rfl⟩:=H
 go_enter Tryz.func61,Tryz.ntmps61
 go_wp2_with (first|(go_at_call 82;(with_reducible refine(rule_reader_blanks.calls _ _ _ _ _ _ _ _ _ _ _ _ _ _ _ _ _ _ _ _ w0 _ ?side1 ?side2 A3.out).mono ?_);(case side1=>exact is91_ HI0);(case side2=>exact bs91_ HB HI0);rintro e w10 ⟨rfl,hi,hb,hk⟩;replace HK:=am_ (KeepBut.trans (kp_ HK) hk (.inl rfl));replace HB:=am_ (hb);replace HI0:=am_ (hi);(try clear hb);(try clear hk);(try clear hi);obtain⟨hcz11_0,hcz11_1,hcz11_2,hcz11_3,hcz11_4,hcz11_5,hcz11_6,hcz11_7,hcz11_8,hfz11_0,hfz11_1,hfz11_2,hfz11_3,hfz11_4,hfz11_5,hfz11_6,hfz11_7,hfz11_8⟩:=cs91_ HI0)|(go_at_call 71;(with_reducible refine(strings_HasPrefix.calls _ _ _ _ A6.out).mono ?_);rintro e w' ⟨rfl,⟨nd,rfl⟩⟩;(try first|exact⟨rfl,_,World.drewN_drewN _ _ _⟩|exact⟨rfl,_,Eq.trans (World.drewN_drewN _ _ _) (congrArg (World.drewN _) (Nat.add_assoc _ _ _))⟩)))
 repeat(go_quiet (first|(go_at_call 82;(with_reducible refine(rule_reader_blanks.calls _ _ _ _ _ _ _ _ _ _ _ _ _ _ _ _ _ _ _ _ w0 _ ?side1 ?side2 A3.out).mono ?_);(case side1=>exact is91_ HI0);(case side2=>exact bs91_ HB HI0);rintro e w10 ⟨rfl,hi,hb,hk⟩;replace HK:=am_ (KeepBut.trans (kp_ HK) hk (.inl rfl));replace HB:=am_ (hb);replace HI0:=am_ (hi);(try clear hb);(try clear hk);(try clear hi);obtain⟨hcz11_0,hcz11_1,hcz11_2,hcz11_3,hcz11_4,hcz11_5,hcz11_6,hcz11_7,hcz11_8,hfz11_0,hfz11_1,hfz11_2,hfz11_3,hfz11_4,hfz11_5,hfz11_6,hfz11_7,hfz11_8⟩:=cs91_ HI0)|(go_at_call 71;(with_reducible refine(strings_HasPrefix.calls _ _ _ _ A6.out).mono ?_);rintro e w' ⟨rfl,⟨nd,rfl⟩⟩;(try first|exact⟨rfl,_,World.drewN_drewN _ _ _⟩|exact⟨rfl,_,Eq.trans (World.drewN_drewN _ _ _) (congrArg (World.drewN _) (Nat.add_assoc _ _ _))⟩)));try go_wp2_with (first|(go_at_call 82;(with_reducible refine(rule_reader_blanks.calls _ _ _ _ _ _ _ _ _ _ _ _ _ _ _ _ _ _ _ _ w0 _ ?side1 ?side2 A3.out).mono ?_);(case side1=>exact is91_ HI0);(case side2=>exact bs91_ HB HI0);rintro e w10 ⟨rfl,hi,hb,hk⟩;replace HK:=am_ (KeepBut.trans (kp_ HK) hk (.inl rfl));replace HB:=am_ (hb);replace HI0:=am_ (hi);(try clear hb);(try clear hk);(try clear hi);obtain⟨hcz11_0,hcz11_1,hcz11_2,hcz11_3,hcz11_4,hcz11_5,hcz11_6,hcz11_7,hcz11_8,hfz11_0,hfz11_1,hfz11_2,hfz11_3,hfz11_4,hfz11_5,hfz11_6,hfz11_7,hfz11_8⟩:=cs91_ HI0)|(go_at_call 71;(with_reducible refine(strings_HasPrefix.calls _ _ _ _ A6.out).mono ?_);rintro e w' ⟨rfl,⟨nd,rfl⟩⟩;(try first|exact⟨rfl,_,World.drewN_drewN _ _ _⟩|exact⟨rfl,_,Eq.trans (World.drewN_drewN _ _ _) (congrArg (World.drewN _) (Nat.add_assoc _ _ _))⟩))))
 go_ret
 exact⟨ew_,is91_ HI0,bs91_ HB HI0,kp_ HK⟩

def rule_reader_want.f (k:Nat) (s0_0:ByteArray) (s0_1:Int) (s0_2:Int) (s0_3:Bool) (s0_4:Bool) (s0_5:Bool) (s0_6:Bool) (s0_7:Bool) (s0_8:Bool) (a1:ByteArray):Option (ByteArray × Int × Int × Bool × Bool × Bool × Bool × Bool × Bool):=(rule_reader_take.f k s0_0 s0_1 s0_2 s0_3 s0_4 s0_5 s0_6 s0_7 s0_8 a1).bind fun bt203=>(if bt203.1=true then (some (bt203.2.1,bt203.2.2.1,bt203.2.2.2.1,bt203.2.2.2.2.1,bt203.2.2.2.2.2.1,bt203.2.2.2.2.2.2.1,bt203.2.2.2.2.2.2.2.1,bt203.2.2.2.2.2.2.2.2.1,bt203.2.2.2.2.2.2.2.2.2)) else (none))
theorem rule_reader_want.calls (k:Nat) (g:Nat) (s0_0:ByteArray) (s0_1:Int) (s0_2:Int) (s0_3:Bool) (s0_4:Bool) (s0_5:Bool) (s0_6:Bool) (s0_7:Bool) (s0_8:Bool) (a1:ByteArray) (r1:ByteArray) (r2:Int) (r3:Int) (r4:Bool) (r5:Bool) (r6:Bool) (r7:Bool) (r8:Bool) (r9:Bool) (w0 w:World) (hI:IsS91 w0 w g s0_0 s0_1 s0_2 s0_3 s0_4 s0_5 s0_6 s0_7 s0_8) (hB:Below w0.heap.size w0 w) (h:rule_reader_want.f k s0_0 s0_1 s0_2 s0_3 s0_4 s0_5 s0_6 s0_7 s0_8 a1=some (r1,r2,r3,r4,r5,r6,r7,r8,r9)) :
    Calls Tryz.prog 85 #[.pointer (some ⟨g,0,none⟩),.string a1] w fun e w'=>e= .returned (.tuple #[])∧IsS91 w0 w' g r1 r2 r3 r4 r5 r6 r7 r8 r9∧Below w0.heap.size w0 w'∧KeepBut w w' g none:=by
  have HI0:=am_ hI
  have HK:=am_ (KeepBut.refl w g none)
  have HL:=am_ hB.size
  clear hI
  have HW0:=am_ hB.size
  have HB:=am_ hB
  clear hB
  have H:=h
  clear h
  unfold rule_reader_want.f at H
  replace H:=Option.bind_eq_some_iff.mp H
  obtain⟨⟨t203,t204,t205,t206,t207,t208,t209,t210,t211,t212⟩,A30,H⟩:=H
  dsimp only at H
  have A3:=am_ A30
  clear A30
  by_cases c4:t203=true
  · subst c4
    rw[if_pos rfl] at H
    simp only[Option.some.injEq,Prod.mk.injEq] at H
    obtain⟨rfl,rfl,rfl,rfl,rfl,rfl,rfl,rfl,rfl⟩:=H
    go_enter Tryz.func85,Tryz.ntmps85
    go_wp2_with (first|((with_reducible refine gate_callee (f:=61) rfl ?_);refine gl_ (some 6) Tryz.func61 #[.pointer (some ⟨g,0,none⟩),.string a1] ?_;(with_reducible refine(rule_reader_take.calls _ _ _ _ _ _ _ _ _ _ _ _ _ _ _ _ _ _ _ _ _ _ w0 _ ?side1 ?side2 A3.out).mono ?_);(case side1=>exact is91_ HI0);(case side2=>exact bs91_ HB HI0);rintro e w5 ⟨rfl,hi,hb,hk⟩;refine⟨_,rfl,?_⟩;replace HK:=am_ (KeepBut.trans (kp_ HK) hk (.inl rfl));replace HB:=am_ (hb);replace HI0:=am_ (hi);(try clear hb);(try clear hk);(try clear hi)))
    first|go_end0|((try simp only[Exit.inBlock,Exit.then]);refine bodyPost_ret (results_none rfl _ _ _) rfl ?_)
    exact⟨ew_,is91_ HI0,bs91_ HB HI0,kp_ HK⟩
  replace c4:=Bool.eq_false_iff.mpr c4
  subst c4
  rw[if_neg (show ¬(false=true) by decide)] at H
  exact absurd H (by simp)

def rule_reader_next.f (k:Nat) (s0_0:ByteArray) (s0_1:Int) (s0_2:Int) (s0_3:Bool) (s0_4:Bool) (s0_5:Bool) (s0_6:Bool) (s0_7:Bool) (s0_8:Bool) (a1:ByteArray):Option (Bool × ByteArray × Int × Int × Bool × Bool × Bool × Bool × Bool × Bool):=(rule_reader_word.f k s0_0 s0_1 s0_2 s0_3 s0_4 s0_5 s0_6 s0_7 s0_8).bind fun bt213=>(if bt213.1.toList=a1.toList then (some (true,bt213.2.1,wrap64 (bt213.2.2.1+(a1.size:Int)),bt213.2.2.2.1,bt213.2.2.2.2.1,bt213.2.2.2.2.2.1,bt213.2.2.2.2.2.2.1,bt213.2.2.2.2.2.2.2.1,bt213.2.2.2.2.2.2.2.2.1,bt213.2.2.2.2.2.2.2.2.2)) else (some (false,bt213.2.1,bt213.2.2.1,bt213.2.2.2.1,bt213.2.2.2.2.1,bt213.2.2.2.2.2.1,bt213.2.2.2.2.2.2.1,bt213.2.2.2.2.2.2.2.1,bt213.2.2.2.2.2.2.2.2.1,bt213.2.2.2.2.2.2.2.2.2)))
theorem rule_reader_next.calls (k:Nat) (g:Nat) (s0_0:ByteArray) (s0_1:Int) (s0_2:Int) (s0_3:Bool) (s0_4:Bool) (s0_5:Bool) (s0_6:Bool) (s0_7:Bool) (s0_8:Bool) (a1:ByteArray) (r1:Bool) (r2:ByteArray) (r3:Int) (r4:Int) (r5:Bool) (r6:Bool) (r7:Bool) (r8:Bool) (r9:Bool) (r10:Bool) (w0 w:World) (hI:IsS91 w0 w g s0_0 s0_1 s0_2 s0_3 s0_4 s0_5 s0_6 s0_7 s0_8) (hB:Below w0.heap.size w0 w) (h:rule_reader_next.f k s0_0 s0_1 s0_2 s0_3 s0_4 s0_5 s0_6 s0_7 s0_8 a1=some (r1,r2,r3,r4,r5,r6,r7,r8,r9,r10)) :
  Calls Tryz.prog 87 #[.pointer (some ⟨g,0,none⟩),.string a1] w fun e w'=>e= .returned (.bool r1)∧IsS91 w0 w' g r2 r3 r4 r5 r6 r7 r8 r9 r10∧Below w0.heap.size w0 w'∧KeepBut w w' g none:=by
 have HI0:=am_ hI
 have HK:=am_ (KeepBut.refl w g none)
 have HL:=am_ hB.size
 clear hI
 have HW0:=am_ hB.size
 have HB:=am_ hB
 clear hB
 have H:=h
 clear h
 unfold rule_reader_next.f at H
 replace H:=Option.bind_eq_some_iff.mp H
 obtain⟨⟨t213,t214,t215,t216,t217,t218,t219,t220,t221,t222⟩,A30,H⟩:=H
 dsimp only at H
 have A3:=am_ A30
 clear A30
 by_cases c4:t213.toList=a1.toList
 ·rw[if_pos c4] at H
  have c4b0:(t213.toList==a1.toList)=true:=beq_iff_eq.mpr c4
  have c4b1:(t213.toList !=a1.toList)=false:=bne_eq_false_iff_eq.mpr c4
  clear c4
  simp only[Option.some.injEq,Prod.mk.injEq] at H
  obtain⟨rfl,rfl,rfl,rfl,rfl,rfl,rfl,rfl,rfl,rfl⟩:=H
  go_enter Tryz.func87,Tryz.ntmps87
  go_wp2_with (first|((with_reducible refine gate_callee (f:=83) rfl ?_);refine gl_ (some 6) Tryz.func83 #[.pointer (some ⟨g,0,none⟩)] ?_;(with_reducible refine(rule_reader_word.calls _ _ _ _ _ _ _ _ _ _ _ _ _ _ _ _ _ _ _ _ _ w0 _ ?side1 ?side2 A3.out).mono ?_);(case side1=>exact is91_ HI0);(case side2=>exact bs91_ HB HI0);rintro e w5 ⟨rfl,hi,hb,hk⟩;refine⟨_,rfl,?_⟩;replace HK:=am_ (KeepBut.trans (kp_ HK) hk (.inl rfl));replace HB:=am_ (hb);replace HI0:=am_ (hi);(try clear hb);(try clear hk);(try clear hi);obtain⟨hcz6_0,hcz6_1,hcz6_2,hcz6_3,hcz6_4,hcz6_5,hcz6_6,hcz6_7,hcz6_8,hfz6_0,hfz6_1,hfz6_2,hfz6_3,hfz6_4,hfz6_5,hfz6_6,hfz6_7,hfz6_8⟩:=cs91_ HI0))
  go_ret
  exact⟨ew_,is91_ HI0,bs91_ HB HI0,kp_ HK⟩
 rw[if_neg c4] at H
 have c4b0:(t213.toList==a1.toList)=false:=beq_eq_false_iff_ne.mpr c4
 have c4b1:(t213.toList !=a1.toList)=true:=bne_iff_ne.mpr c4
 simp only[Option.some.injEq,Prod.mk.injEq] at H
 obtain⟨rfl,rfl,rfl,rfl,rfl,rfl,rfl,rfl,rfl,rfl⟩:=H
 go_enter Tryz.func87,Tryz.ntmps87
 go_wp2_with (first|((with_reducible refine gate_callee (f:=83) rfl ?_);refine gl_ (some 6) Tryz.func83 #[.pointer (some ⟨g,0,none⟩)] ?_;(with_reducible refine(rule_reader_word.calls _ _ _ _ _ _ _ _ _ _ _ _ _ _ _ _ _ _ _ _ _ w0 _ ?side1 ?side2 A3.out).mono ?_);(case side1=>exact is91_ HI0);(case side2=>exact bs91_ HB HI0);rintro e w7 ⟨rfl,hi,hb,hk⟩;refine⟨_,rfl,?_⟩;replace HK:=am_ (KeepBut.trans (kp_ HK) hk (.inl rfl));replace HB:=am_ (hb);replace HI0:=am_ (hi);(try clear hb);(try clear hk);(try clear hi)))
 go_ret
 exact⟨ew_,is91_ HI0,bs91_ HB HI0,kp_ HK⟩

def stringslite_Index.f (a b:ByteArray):Option Int:=if h:b.size=1 then some (Lib.indexByte a.data.toList (b[0]'(by omega))) else none
theorem stringslite_Index.one (b:ByteArray) (h:b.size=1):b=⟨#[b[0]'(by omega)]⟩:=by
  obtain⟨d⟩:=b
  have hd:d.size=1:=h
  congr 1
  apply Array.ext
  · exact hd
  · intro i h1 h2
    have:i=0:=by omega
    subst this
    rfl
theorem stringslite_Index.calls (a0 a1:ByteArray) (r:Int) (w:World) (h:stringslite_Index.f a0 a1=some r) :
    Calls Tryz.prog 125 #[.string a0,.string a1] w fun e w'=>e= .returned (.int .i64 r)∧Drawn0 w w':=by
  unfold stringslite_Index.f at h
  split at h
  · rename_i h1
    obtain rfl:=Option.some.inj h
    have c:=Tryz.stringslite_Index_one a0 (a1[0]'(by omega)) w
    rw[← stringslite_Index.one a1 h1] at c
    refine c.mono ?_
    rintro e w' ⟨rfl,rfl⟩
    exact⟨rfl,Drawn0.refl _⟩
  · cases h

def strings_Index.f (a0:ByteArray) (a1:ByteArray):Option (Int):=(stringslite_Index.f a0 a1).bind fun t223=>(some t223)
theorem strings_Index.calls (a0:ByteArray) (a1:ByteArray) (r:Int) (w:World) (h:strings_Index.f a0 a1=some r) :
    Calls Tryz.prog 123 #[.string a0,.string a1] w fun e w'=>e= .returned (.int .i64 r)∧Drawn0 w w':=by
  have H:=h
  clear h
  unfold strings_Index.f at H
  replace H:=Option.bind_eq_some_iff.mp H
  obtain⟨t223,A30,H⟩:=H
  have A3:=am_ A30
  clear A30
  obtain rfl:=Option.some.inj H
  go_enter Tryz.func123,Tryz.ntmps123
  go_wp2_with (first|((with_reducible refine gate_callee (f:=125) rfl ?_);refine gl_ (some 7) Tryz.func125 #[.string a0,.string a1] ?_;(with_reducible refine(stringslite_Index.calls _ _ _ _ A3.out).mono ?_);rintro e w' ⟨rfl,⟨nd,rfl⟩⟩;refine⟨_,rfl,?_⟩))
  go_ret
  exact⟨by first|rfl|(simp;done)|(simp[*];done)|(simp;first|exact given_isEmpty _|exact(given_isEmpty _).symm)|(unfold wrap64;omega)|(congr 1;unfold wrap64;omega),by repeat(first|exact Drawn0.refl _|apply Drawn0.step)⟩

def strings_Contains.f (a0:ByteArray) (a1:ByteArray):Option (Bool):=(strings_Index.f a0 a1).bind fun t224=>(some (decide (t224≥0)))
theorem strings_Contains.calls (a0:ByteArray) (a1:ByteArray) (r:Bool) (w:World) (h:strings_Contains.f a0 a1=some r) :
    Calls Tryz.prog 113 #[.string a0,.string a1] w fun e w'=>e= .returned (.bool r)∧Drawn0 w w':=by
  have H:=h
  clear h
  unfold strings_Contains.f at H
  replace H:=Option.bind_eq_some_iff.mp H
  obtain⟨t224,A30,H⟩:=H
  have A3:=am_ A30
  clear A30
  obtain rfl:=Option.some.inj H
  go_enter Tryz.func113,Tryz.ntmps113
  go_wp2_with (first|((with_reducible refine gate_callee (f:=123) rfl ?_);refine gl_ (some 7) Tryz.func123 #[.string a0,.string a1] ?_;(with_reducible refine(strings_Index.calls _ _ _ _ A3.out).mono ?_);rintro e w' ⟨rfl,⟨nd,rfl⟩⟩;refine⟨_,rfl,?_⟩))
  go_ret
  exact⟨by first|rfl|(simp;done)|(simp[*];done)|(simp;first|exact given_isEmpty _|exact(given_isEmpty _).symm)|(unfold wrap64;omega)|(congr 1;unfold wrap64;omega),by repeat(first|exact Drawn0.refl _|apply Drawn0.step)⟩

def strconv_Atoi.f (s:ByteArray):Option (Int × Option Int):=if s.size≤18 then (Lib.atoi s.data.toList).map (fun n:Int=>(n,(none:Option Int))) else none
theorem strconv_Atoi.calls (a0:ByteArray) (r1:Int) (r2:Option Int) (w:World) (h:strconv_Atoi.f a0=some (r1,r2)) :
    Calls Tryz.prog 124 #[.string a0] w fun e w'=>e= .returned (.tuple #[.int .i64 r1,errW r2])∧Below w.heap.size w w':=by
  unfold strconv_Atoi.f at h
  split at h
  · rename_i hc
    obtain⟨n,hn,he⟩:=Option.map_eq_some_iff.1 h
    have e1:=congrArg Prod.fst he
    have e2:=congrArg Prod.snd he
    dsimp only at e1 e2
    subst e1 e2
    refine(Tryz.strconv_Atoi a0 n hc hn w).mono ?_
    rintro e w' ⟨rfl,t,rfl⟩
    exact⟨rfl,Lib.bytesWorld_below _ _ _⟩
  · cases h

def rule_reader_value.j0:Nat→Int→Int→ByteArray→Bool→ByteArray→Int→Int→Bool→Bool→Bool→Bool→Bool→Bool→Option (Int × Int × ByteArray × Int × Int × Bool × Bool × Bool × Bool × Bool × Bool)
 | 0,_,_,_,_,_,_,_,_,_,_,_,_,_=>none
 | k+1,x4,x5,x6,x26,x1000,x1001,x1002,x1003,x1004,x1005,x1006,x1007,x1008=>if x26=true then (none) else (if x5>9 then (none) else ((strconv_Atoi.f x6).bind fun bt244=>(some (bt244.1,x4,x1000,wrap64 (x1001+x5),x1002,x1003,x1004,x1005,x1006,x1007,x1008))))
def rule_reader_value.f (k:Nat) (s0_0:ByteArray) (s0_1:Int) (s0_2:Int) (s0_3:Bool) (s0_4:Bool) (s0_5:Bool) (s0_6:Bool) (s0_7:Bool) (s0_8:Bool):Option (Int × Int × ByteArray × Int × Int × Bool × Bool × Bool × Bool × Bool × Bool):=(rule_reader_blanks.f k s0_0 s0_1 s0_2 s0_3 s0_4 s0_5 s0_6 s0_7 s0_8).bind fun bt225=>((rule_reader_run.f k bt225.1 bt225.2.1 bt225.2.2.1 bt225.2.2.2.1 bt225.2.2.2.2.1 bt225.2.2.2.2.2.1 bt225.2.2.2.2.2.2.1 bt225.2.2.2.2.2.2.2.1 bt225.2.2.2.2.2.2.2.2 48 57).bind fun bt234=>(if 0≤bt225.2.1 then (if bt225.2.1≤(wrap64 (bt225.2.1+bt234.1)) then (if (wrap64 (bt225.2.1+bt234.1))≤(bt225.1.size:Int) then (if bt234.1=0 then (rule_reader_value.j0 k bt225.2.1 bt234.1 (bt225.1.extract (bt225.2.1:Int).toNat ((wrap64 (bt225.2.1+bt234.1)):Int).toNat) (bt234.1==0) bt225.1 bt225.2.1 bt225.2.2.1 bt225.2.2.2.1 bt225.2.2.2.2.1 bt225.2.2.2.2.2.1 bt225.2.2.2.2.2.2.1 bt225.2.2.2.2.2.2.2.1 bt225.2.2.2.2.2.2.2.2) else (if bt234.1>1 then (if 0<((bt225.1.extract (bt225.2.1:Int).toNat ((wrap64 (bt225.2.1+bt234.1)):Int).toNat).size:Int) then (rule_reader_value.j0 k bt225.2.1 bt234.1 (bt225.1.extract (bt225.2.1:Int).toNat ((wrap64 (bt225.2.1+bt234.1)):Int).toNat) ((bt (bt225.1.extract (bt225.2.1:Int).toNat ((wrap64 (bt225.2.1+bt234.1)):Int).toNat) 0)==48) bt225.1 bt225.2.1 bt225.2.2.1 bt225.2.2.2.1 bt225.2.2.2.2.1 bt225.2.2.2.2.2.1 bt225.2.2.2.2.2.2.1 bt225.2.2.2.2.2.2.2.1 bt225.2.2.2.2.2.2.2.2) else (none)) else (rule_reader_value.j0 k bt225.2.1 bt234.1 (bt225.1.extract (bt225.2.1:Int).toNat ((wrap64 (bt225.2.1+bt234.1)):Int).toNat) false bt225.1 bt225.2.1 bt225.2.2.1 bt225.2.2.2.1 bt225.2.2.2.2.1 bt225.2.2.2.2.2.1 bt225.2.2.2.2.2.2.1 bt225.2.2.2.2.2.2.2.1 bt225.2.2.2.2.2.2.2.2))) else (none)) else (none)) else (none)))
def rule_reader_value.T2:Bool × List (List Nat × List Nat):=(true,[([],[]),([0],[0]),([1],[1]),([2],[2]),([],[]),([4],[4]),([3,5,0,1,2,3],[3]),([5,6,0,1,2,3,4,5,6],[5])])
def rule_reader_value.B2:List Nat:=[0,1,3,7,0,16,63,127]
theorem rule_reader_value.tab2:rtab .any (opsOf Tryz.f114 2)=rule_reader_value.T2:=by kernel_rfl
theorem rule_reader_value.bits2:waitsOk rule_reader_value.T2.2 rule_reader_value.B2=true:=by kernel_rfl
theorem rule_reader_value.calls (k:Nat) (g:Nat) (s0_0:ByteArray) (s0_1:Int) (s0_2:Int) (s0_3:Bool) (s0_4:Bool) (s0_5:Bool) (s0_6:Bool) (s0_7:Bool) (s0_8:Bool) (r1:Int) (r2:Int) (r3:ByteArray) (r4:Int) (r5:Int) (r6:Bool) (r7:Bool) (r8:Bool) (r9:Bool) (r10:Bool) (r11:Bool) (w0 w:World) (hI:IsS91 w0 w g s0_0 s0_1 s0_2 s0_3 s0_4 s0_5 s0_6 s0_7 s0_8) (hB:Below w0.heap.size w0 w) (h:rule_reader_value.f k s0_0 s0_1 s0_2 s0_3 s0_4 s0_5 s0_6 s0_7 s0_8=some (r1,r2,r3,r4,r5,r6,r7,r8,r9,r10,r11)) :
  Calls Tryz.prog 114 #[.pointer (some ⟨g,0,none⟩)] w fun e w'=>e= .returned (.tuple #[.int .i64 r1,.int .i64 r2])∧IsS91 w0 w' g r3 r4 r5 r6 r7 r8 r9 r10 r11∧Below w0.heap.size w0 w'∧KeepBut w w' g none:=by
 have HI0:=am_ hI
 have HK:=am_ (KeepBut.refl w g none)
 have HL:=am_ hB.size
 clear hI
 have HW0:=am_ hB.size
 have HB:=am_ hB
 clear hB
 have H:=h
 clear h
 unfold rule_reader_value.f at H
 replace H:=Option.bind_eq_some_iff.mp H
 obtain⟨⟨t225,t226,t227,t228,t229,t230,t231,t232,t233⟩,A20,H⟩:=H
 dsimp only at H
 have A2:=am_ A20
 clear A20
 replace H:=Option.bind_eq_some_iff.mp H
 obtain⟨⟨t234,t235,t236,t237,t238,t239,t240,t241,t242,t243⟩,A30,H⟩:=H
 dsimp only at H
 have A3:=am_ A30
 clear A30
 obtain⟨rfl,rfl,rfl,rfl,rfl,rfl,rfl,rfl,rfl⟩:=rule_reader_run.same A3.out
 replace H:=ifn_ H
 obtain⟨c4,H⟩:=H
 have c4b0:=eq_true c4
 have c4b1:decide (0≤t226)=true:=decide_eq_true c4
 clear c4
 replace H:=ifn_ H
 obtain⟨c5,H⟩:=H
 have c5b0:=eq_true c5
 have c5b1:decide (t226≤(wrap64 (t226+t234)))=true:=decide_eq_true c5
 replace H:=ifn_ H
 obtain⟨c6,H⟩:=H
 have c6b0:=eq_true c6
 have c6b1:decide ((wrap64 (t226+t234))≤(t225.size:Int))=true:=decide_eq_true c6
 have HC7:=am_ H
 clear H
 go_enter Tryz.func114,Tryz.ntmps114
 try go_wp2_with (first|((with_reducible refine gate_callee (f:=82) rfl ?_);refine gl_ (some 10) Tryz.func82 #[.pointer (some ⟨g,0,none⟩)] ?_;(with_reducible refine(rule_reader_blanks.calls _ _ _ _ _ _ _ _ _ _ _ _ _ _ _ _ _ _ _ _ w0 _ ?side1 ?side2 A2.out).mono ?_);(case side1=>exact is91_ HI0);(case side2=>exact bs91_ HB HI0);rintro e w8 ⟨rfl,hi,hb,hk⟩;refine⟨_,rfl,?_⟩;replace HK:=am_ (KeepBut.trans (kp_ HK) hk (.inl rfl));replace HB:=am_ (hb);replace HI0:=am_ (hi);(try clear hb);(try clear hk);(try clear hi)))
 replace HI0:=am_ (IsS91.drew HI0.out)
 replace HK:=am_ (keep_drew HK.out)
 replace HB:=am_ (below_drew1 HB.out)
 refine start_ (n:=8) (S:=fun w'=>w'.cell? ⟨g,0,none⟩=some (.string t225)∧w'.cell? ⟨g,1,none⟩=some (.int .i64 t226)∧w'.cell? ⟨g,2,none⟩=some (.int .i64 t227)∧w'.cell? ⟨g,3,none⟩=some (.bool t228)∧w'.cell? ⟨g,4,none⟩=some (.bool t229)∧w'.cell? ⟨g,5,none⟩=some (.bool t230)∧w'.cell? ⟨g,6,none⟩=some (.bool t231)∧w'.cell? ⟨g,7,none⟩=some (.bool t232)∧w'.cell? ⟨g,8,none⟩=some (.bool t233)) (ds:=[]) #[false,false,false,false,false,false,false,false] (by kernel_rfl) rfl rfl ⟨(cellS91_0 HI0.out.1),(cellS91_1 HI0.out.1),(cellS91_2 HI0.out.1),(cellS91_3 HI0.out.1),(cellS91_4 HI0.out.1),(cellS91_5 HI0.out.1),(cellS91_6 HI0.out.1),(cellS91_7 HI0.out.1),(cellS91_8 HI0.out.1)⟩ (fun hHeld=>?_);refine with_tabW rule_reader_value.tab2 rule_reader_value.bits2 (fun HT_ HW_=>?_)
 generalize w8.drew=w9 at HI0 HK HB hHeld ⊢
 refine pu_ 0 11 #[true,false,false,false,false,false,false,false] HT_ ?_
 refine pu_ 1 12 #[true,true,false,false,false,false,false,false] HT_ ?_
 refine pu_ 2 13 #[true,true,true,false,false,false,false,false] HT_ ?_
 refine pu_ 4 15 #[true,true,true,false,true,false,false,false] HT_ ?_
 refine tk_ 3 14 #[true,true,true,true,true,false,false,false] HT_ HW_ hHeld rfl (by rintro w' ⟨s0,s1,s2,s3,s4,s5,s6,s7,s8⟩;go_simp;with_reducible rfl) ?_
 refine one_ (i:=5) (N:=some 16) #[true,true,true,true,true,true,false,false] rfl rfl (one_of HT_.out (by kernel_rfl)) (by decide) (fun K hK=>?_)
 refine gs_ Tryz.func104 #[.pointer (some ⟨g,0,none⟩),.int .u8 48,.int .u8 57] ?_
 with_reducible refine(rule_reader_run.calls _ _ _ _ _ _ _ _ _ _ _ _ _ _ _ _ _ _ _ _ _ _ _ w0 _ ?side1 ?side2 A3.out).mono ?_
 (case side1=>exact is91_ HI0)
 (case side2=>exact bs91_ HB HI0)
 rintro e w10 ⟨rfl,hi,hb,hk⟩
 refine⟨_,rfl,?_⟩
 replace HK:=am_ (KeepBut.trans (kp_ HK) hk (.inl rfl))
 replace HB:=am_ (hb)
 replace HI0:=am_ (hi)
 (try clear hb)
 (try clear hb2)
 (try clear hk)
 (try clear hi)
 refine hK.out _ _ ⟨(cellS91_0 HI0.out.1),(cellS91_1 HI0.out.1),(cellS91_2 HI0.out.1),(cellS91_3 HI0.out.1),(cellS91_4 HI0.out.1),(cellS91_5 HI0.out.1),(cellS91_6 HI0.out.1),(cellS91_7 HI0.out.1),(cellS91_8 HI0.out.1)⟩ (fun hHeld=>?_)
 clear hK K
 refine nm_ 16 ?_
 refine pu_ 6 4 #[true,true,true,true,true,true,true,false] HT_ ?_
 refine pu_ 7 5 #[true,true,true,true,true,true,true,true] HT_ ?_
 refine done_ (done_of HT_.out (by kernel_rfl)) ?_
 obtain⟨hcz11_0,hcz11_1,hcz11_2,hcz11_3,hcz11_4,hcz11_5,hcz11_6,hcz11_7,hcz11_8,hfz11_0,hfz11_1,hfz11_2,hfz11_3,hfz11_4,hfz11_5,hfz11_6,hfz11_7,hfz11_8⟩:=cs91_ HI0
 go_upto_if 26 with (fail)
 go_cut [26] (fun v26 wc=>∃(kq:Nat) (x26_6:Bool),v26= .bool x26_6∧Aside0 (rule_reader_value.j0 kq t226 t234 (t225.extract (t226:Int).toNat ((wrap64 (t226+t234)):Int).toNat) x26_6 t225 t226 t227 t228 t229 t230 t231 t232 t233=some (r1,r2,r3,r4,r5,r6,r7,r8,r9,r10,r11))∧Aside0 (kq≤k)∧Aside0 (IsS91 w0 wc g t225 t226 t227 t228 t229 t230 t231 t232 t233)∧Aside0 (KeepBut w wc g none)∧Aside0 (Below w0.heap.size w0 wc))
 case first =>
  have H:=HC7.out
  clear HC7
  by_cases c12:t234=0
  ·rw[if_pos c12] at H
   have c12b0:(t234==0)=true:=beq_iff_eq.mpr c12
   have c12b1:(t234 !=0)=false:=bne_eq_false_iff_eq.mpr c12
   clear c12
   (first|rw[c12b0]|(simp only[i64_w,i32_w];rw[c12b0])|skip)
   have H':=am_ H
   clear H
   go_wp2
   go_meet
   case rel=>exact⟨_,((t234==0)),eq_,H',⟨by first|omega|exact Nat.le_refl _⟩,⟨is91_ HI0⟩,⟨kp_ HK⟩,⟨bs91_ HB HI0⟩⟩
  rw[if_neg c12] at H
  have c12b0:(t234==0)=false:=beq_eq_false_iff_ne.mpr c12
  have c12b1:(t234 !=0)=true:=bne_iff_ne.mpr c12
  (first|rw[c12b0]|(simp only[i64_w,i32_w];rw[c12b0])|skip)
  by_cases c13:t234>1
  ·rw[if_pos c13] at H
   have c13b0:decide (1<t234)=true:=decide_eq_true c13
   clear c13
   replace H:=ifn_ H
   obtain⟨c14,H⟩:=H
   have c14b0:decide (0<((t225.extract (t226:Int).toNat ((wrap64 (t226+t234)):Int).toNat).size:Int))=true:=decide_eq_true c14
   have c14b1:decide (0<(t225.extract (t226:Int).toNat ((wrap64 (t226+t234)):Int).toNat).size)=true:=decide_eq_true (by omega)
   clear c14
   (try (have c14x0:=c14b0;simp only[ByteArray.size_extract,Nat.min_self,Nat.sub_zero] at c14x0))
   (try (have c14x1:=c14b1;simp only[ByteArray.size_extract,Nat.min_self,Nat.sub_zero] at c14x1))
   have H':=am_ H
   clear H
   have p15:0≤(0:Int):=(by omega)
   have q15:0<(t225.extract (t226:Int).toNat ((wrap64 (t226+t234)):Int).toNat).size:=(by have:(0:Int)<((t225.extract (t226:Int).toNat ((wrap64 (t226+t234)):Int).toNat).size:Int):=od_;omega)
   have hx15:∀h:0<(t225.extract (t226:Int).toNat ((wrap64 (t226+t234)):Int).toNat).size,(((t225.extract (t226:Int).toNat ((wrap64 (t226+t234)):Int).toNat)[0]'h).toNat:Int)=bt (t225.extract (t226:Int).toNat ((wrap64 (t226+t234)):Int).toNat) 0:=bt_at (t225.extract (t226:Int).toNat ((wrap64 (t226+t234)):Int).toNat) 0
   clear p15
   have qi15:(0<((t225.extract (t226:Int).toNat ((wrap64 (t226+t234)):Int).toNat).size:Int))=True:=eq_true (od_)
   replace q15:=eq_true q15
   (try (have qv15:=q15;simp only[ByteArray.size_extract,Nat.min_self,Nat.sub_zero] at qv15))
   (try (have qw15:=qi15;simp only[ByteArray.size_extract,Nat.min_self,Nat.sub_zero] at qw15))
   (try (have hy15:=hx15 (of_eq_true q15)))
   (try (have qm15:(wrap64 (t226+t234))≤(t225.size:Int):=od_;have qz15:=qv15;rw[Nat.min_eq_left (by omega)] at qz15;clear qm15))
   go_wp2
   go_meet
   case rel=>exact⟨_,(((bt (t225.extract (t226:Int).toNat ((wrap64 (t226+t234)):Int).toNat) 0)==48)),eq_,H',⟨by first|omega|exact Nat.le_refl _⟩,⟨is91_ HI0⟩,⟨kp_ HK⟩,⟨bs91_ HB HI0⟩⟩
  rw[if_neg c13] at H
  have c13b0:decide (1<t234)=false:=decide_eq_false c13
  clear c13
  have H':=am_ H
  clear H
  go_wp2
  go_meet
  case rel=>exact⟨_,(false),eq_,H',⟨by first|omega|exact Nat.le_refl _⟩,⟨is91_ HI0⟩,⟨kp_ HK⟩,⟨bs91_ HB HI0⟩⟩
 clear HC7
 obtain⟨kq,x26_6,rfl,HA,HJ6,HI0,HK,HB⟩:=hcut
 cases kq with
 | zero=>exact absurd HA.out (by simp[rule_reader_value.j0])
 | succ kj6=>?_
 have H:=HA.out
 clear HA
 simp only[rule_reader_value.j0] at H
 by_cases c16:x26_6=true
 ·subst c16
  rw[if_pos rfl] at H
  exact absurd H (by simp)
 replace c16:=Bool.eq_false_iff.mpr c16
 subst c16
 rw[if_neg (show ¬(false=true) by decide)] at H
 replace H:=ifp_ H
 obtain⟨c17,H⟩:=H
 have c17b0:decide (9<t234)=false:=decide_eq_false c17
 clear c17
 replace H:=Option.bind_eq_some_iff.mp H
 obtain⟨⟨t244,t245⟩,A180,H⟩:=H
 dsimp only at H
 have A18:=am_ A180
 clear A180
 simp only[Option.some.injEq,Prod.mk.injEq] at H
 obtain⟨rfl,rfl,rfl,rfl,rfl,rfl,rfl,rfl,rfl,rfl,rfl⟩:=H
 obtain⟨hcz19_0,hcz19_1,hcz19_2,hcz19_3,hcz19_4,hcz19_5,hcz19_6,hcz19_7,hcz19_8,hfz19_0,hfz19_1,hfz19_2,hfz19_3,hfz19_4,hfz19_5,hfz19_6,hfz19_7,hfz19_8⟩:=cs91_ HI0
 go_wp2_with (first|((with_reducible refine gate_callee (f:=124) rfl ?_);refine gl_ (some 53) Tryz.func124 #[.string (t225.extract (t226:Int).toNat ((wrap64 (t226+t234)):Int).toNat)] ?_;(with_reducible refine(strconv_Atoi.calls (t225.extract (t226:Int).toNat ((wrap64 (t226+t234)):Int).toNat) t244 t245 _ A18.out).mono ?_);rintro e w20 ⟨rfl,hb⟩;refine⟨_,rfl,?_⟩;have n0_:=am_ (IsS91.below (show IsS91 w0 (wc.setCell ⟨g,1,none⟩ (.int .i64 (wrap64 (t226+t234)))) g t225 (wrap64 (t226+t234)) t227 t228 t229 t230 t231 t232 t233 from is91_ HI0) hb);have n1_:=am_ (KeepBut.trans (kp_ HK) (KeepBut.of_below hb g none) (.inl rfl));have n2_:=am_ (below_step (bs91_ HB HI0) hb);clear HI0;clear HK;clear HB;revert n0_ n1_ n2_;intro HI0 HK HB;(try clear hb);(try simp only[errW_none,errW_some])))
 go_ret2
 exact⟨ew_,is91_ HI0,bs91_ HB HI0,kp_ HK⟩

def rule_reader_span.f (k:Nat) (s0_0:ByteArray) (s0_1:Int) (s0_2:Int) (s0_3:Bool) (s0_4:Bool) (s0_5:Bool) (s0_6:Bool) (s0_7:Bool) (s0_8:Bool):Option (Int × Int × ByteArray × Int × Int × Bool × Bool × Bool × Bool × Bool × Bool):=(rule_reader_value.f k s0_0 s0_1 s0_2 s0_3 s0_4 s0_5 s0_6 s0_7 s0_8).bind fun bt247=>((rule_reader_take.f k bt247.2.2.1 bt247.2.2.2.1 bt247.2.2.2.2.1 bt247.2.2.2.2.2.1 bt247.2.2.2.2.2.2.1 bt247.2.2.2.2.2.2.2.1 bt247.2.2.2.2.2.2.2.2.1 bt247.2.2.2.2.2.2.2.2.2.1 bt247.2.2.2.2.2.2.2.2.2.2 (⟨#[46,46]⟩:ByteArray)).bind fun bt258=>(if bt258.1=true then ((rule_reader_value.f k bt258.2.1 bt258.2.2.1 bt258.2.2.2.1 bt258.2.2.2.2.1 bt258.2.2.2.2.2.1 bt258.2.2.2.2.2.2.1 bt258.2.2.2.2.2.2.2.1 bt258.2.2.2.2.2.2.2.2.1 bt258.2.2.2.2.2.2.2.2.2).bind fun bt268=>(if bt268.1<bt247.1 then (none) else (some (bt247.1,bt268.1,bt268.2.2.1,bt268.2.2.2.1,bt268.2.2.2.2.1,bt268.2.2.2.2.2.1,bt268.2.2.2.2.2.2.1,bt268.2.2.2.2.2.2.2.1,bt268.2.2.2.2.2.2.2.2.1,bt268.2.2.2.2.2.2.2.2.2.1,bt268.2.2.2.2.2.2.2.2.2.2)))) else (some (bt247.1,bt247.1,bt258.2.1,bt258.2.2.1,bt258.2.2.2.1,bt258.2.2.2.2.1,bt258.2.2.2.2.2.1,bt258.2.2.2.2.2.2.1,bt258.2.2.2.2.2.2.2.1,bt258.2.2.2.2.2.2.2.2.1,bt258.2.2.2.2.2.2.2.2.2))))
theorem rule_reader_span.calls (k:Nat) (g:Nat) (s0_0:ByteArray) (s0_1:Int) (s0_2:Int) (s0_3:Bool) (s0_4:Bool) (s0_5:Bool) (s0_6:Bool) (s0_7:Bool) (s0_8:Bool) (r1:Int) (r2:Int) (r3:ByteArray) (r4:Int) (r5:Int) (r6:Bool) (r7:Bool) (r8:Bool) (r9:Bool) (r10:Bool) (r11:Bool) (w0 w:World) (hI:IsS91 w0 w g s0_0 s0_1 s0_2 s0_3 s0_4 s0_5 s0_6 s0_7 s0_8) (hB:Below w0.heap.size w0 w) (h:rule_reader_span.f k s0_0 s0_1 s0_2 s0_3 s0_4 s0_5 s0_6 s0_7 s0_8=some (r1,r2,r3,r4,r5,r6,r7,r8,r9,r10,r11)) :
  Calls Tryz.prog 115 #[.pointer (some ⟨g,0,none⟩)] w fun e w'=>e= .returned (.agg #[.int .i64 r1,.int .i64 r2])∧IsS91 w0 w' g r3 r4 r5 r6 r7 r8 r9 r10 r11∧Below w0.heap.size w0 w'∧KeepBut w w' g none:=by
 have hu57:=Tryz.underlying57
 have HI0:=am_ hI
 have HK:=am_ (KeepBut.refl w g none)
 have HL:=am_ hB.size
 clear hI
 have HW0:=am_ hB.size
 have HB:=am_ hB
 clear hB
 have H:=h
 clear h
 unfold rule_reader_span.f at H
 replace H:=Option.bind_eq_some_iff.mp H
 obtain⟨⟨t247,t248,t249,t250,t251,t252,t253,t254,t255,t256,t257⟩,A20,H⟩:=H
 dsimp only at H
 have A2:=am_ A20
 clear A20
 replace H:=Option.bind_eq_some_iff.mp H
 obtain⟨⟨t258,t259,t260,t261,t262,t263,t264,t265,t266,t267⟩,A30,H⟩:=H
 dsimp only at H
 have A3:=am_ A30
 clear A30
 by_cases c4:t258=true
 ·subst c4
  rw[if_pos rfl] at H
  replace H:=Option.bind_eq_some_iff.mp H
  obtain⟨⟨t268,t269,t270,t271,t272,t273,t274,t275,t276,t277,t278⟩,A50,H⟩:=H
  dsimp only at H
  have A5:=am_ A50
  clear A50
  replace H:=ifp_ H
  obtain⟨c6,H⟩:=H
  have c6b0:decide (t268<t247)=false:=decide_eq_false c6
  clear c6
  simp only[Option.some.injEq,Prod.mk.injEq] at H
  obtain⟨rfl,rfl,rfl,rfl,rfl,rfl,rfl,rfl,rfl,rfl,rfl⟩:=H
  go_enter Tryz.func115,Tryz.ntmps115
  go_wp2_with (first|((with_reducible refine gate_dst (N:=2) rfl ?_);refine be_ 2 #[.int .i64 0,.int .i64 0] 57 ?_;intro gb246 hg w7 hbox hb;have n0_:=am_ (IsS91.below (is91_ HI0) hb);have n1_:=am_ (KeepBut.trans (kp_ HK) (KeepBut.of_below hb g none) (.inl rfl));have n2_:=am_ (below_step (bs91_ HB HI0) hb);have n3_:=am_ (hbox);have n4_:=am_ ((by rw[hg];exact(keep_size (w:=w) (g:=g) (row:=none) (kp_ HK)):w.heap.size≤gb246));have n5_:=am_ ((Nat.le_trans HW0.out (by rw[hg];exact(keep_size (w:=w) (g:=g) (row:=none) (kp_ HK)):w.heap.size≤gb246):w0.heap.size≤gb246));have n6_:=am_ ((by rw[hg];exact Nat.ne_of_lt (IsS91.lt (show IsS91 w0 _ g s0_0 s0_1 s0_2 s0_3 s0_4 s0_5 s0_6 s0_7 s0_8 from is91_ HI0)):g≠gb246));have n7_:=am_ ((by rw[hg];exact Nat.ne_of_gt (IsS91.lt (show IsS91 w0 _ g s0_0 s0_1 s0_2 s0_3 s0_4 s0_5 s0_6 s0_7 s0_8 from is91_ HI0)):gb246≠g));clear HI0;clear HK;clear HB;revert n0_ n1_ n2_ n3_ n4_ n5_ n6_ n7_;intro HI0 HK HB BK246 GW246 GE246 NB0_246 NB246_0;clear hb hbox hg)|((with_reducible refine gate_callee (f:=114) rfl ?_);refine gl_ (some 9) Tryz.func114 #[.pointer (some ⟨g,0,none⟩)] ?_;(with_reducible refine(rule_reader_value.calls _ _ _ _ _ _ _ _ _ _ _ _ _ _ _ _ _ _ _ _ _ _ w0 _ ?side1 ?side2 A2.out).mono ?_);(case side1=>exact is91_ HI0);(case side2=>exact bs91_ HB HI0);rintro e w8 ⟨rfl,hi,hb,hk⟩;refine⟨_,rfl,?_⟩;have n0_:=am_ (KeepBut.blk hk (bk_ BK246).out NB246_0.out (by simp));have n1_:=am_ (KeepBut.trans (kp_ HK) hk (.inl rfl));have n2_:=am_ (hb);have n3_:=am_ (hi);clear BK246;clear HK;clear HB;clear HI0;revert n0_ n1_ n2_ n3_;intro BK246 HK HB HI0;(try clear hb);(try clear hk);(try clear hi))|((with_reducible refine gate_callee (f:=61) rfl ?_);refine gl_ (some 13) Tryz.func61 #[.pointer (some ⟨g,0,none⟩),.string (⟨#[46,46]⟩:ByteArray)] ?_;(with_reducible refine(rule_reader_take.calls _ _ _ _ _ _ _ _ _ _ _ _ _ _ _ _ _ _ _ _ _ _ w0 _ ?side1 ?side2 A3.out).mono ?_);(case side1=>exact is91_ HI0);(case side2=>exact bs91_ HB HI0);rintro e w9 ⟨rfl,hi,hb,hk⟩;refine⟨_,rfl,?_⟩;have n0_:=am_ (KeepBut.blk hk (bk_ BK246).out NB246_0.out (by simp));have n1_:=am_ (KeepBut.trans (kp_ HK) hk (.inl rfl));have n2_:=am_ (hb);have n3_:=am_ (hi);clear BK246;clear HK;clear HB;clear HI0;revert n0_ n1_ n2_ n3_;intro BK246 HK HB HI0;(try clear hb);(try clear hk);(try clear hi))|((with_reducible refine gate_callee (f:=114) rfl ?_);refine gl_ (some 20) Tryz.func114 #[.pointer (some ⟨g,0,none⟩)] ?_;(with_reducible refine(rule_reader_value.calls _ _ _ _ _ _ _ _ _ _ _ _ _ _ _ _ _ _ _ _ _ _ w0 _ ?side1 ?side2 A5.out).mono ?_);(case side1=>exact is91_ HI0);(case side2=>exact bs91_ HB HI0);rintro e w10 ⟨rfl,hi,hb,hk⟩;refine⟨_,rfl,?_⟩;have n0_:=am_ (KeepBut.blk hk (bk_ BK246).out NB246_0.out (by simp));have n1_:=am_ (KeepBut.trans (kp_ HK) hk (.inl rfl));have n2_:=am_ (hb);have n3_:=am_ (hi);clear BK246;clear HK;clear HB;clear HI0;revert n0_ n1_ n2_ n3_;intro BK246 HK HB HI0;(try clear hb);(try clear hk);(try clear hi);have hnb11:=NB246_0.out;have hnc11:=NB0_246.out;obtain⟨hcz12_0,hcz12_1,hfz12_0,hfz12_1⟩:=bo2_ BK246))
  refine bodyPost_ret (results_cell_row rfl _ _ gb246 57 #[.int .i64 t247,.int .i64 t268] (0,0) _ rfl ((bp_ BK246).out) Tryz.underlying57 rfl (by kernel_rfl)) rfl ?_
  exact⟨ew_,is91_ HI0,bs91_ HB HI0,kp_ HK⟩
 replace c4:=Bool.eq_false_iff.mpr c4
 subst c4
 rw[if_neg (show ¬(false=true) by decide)] at H
 simp only[Option.some.injEq,Prod.mk.injEq] at H
 obtain⟨rfl,rfl,rfl,rfl,rfl,rfl,rfl,rfl,rfl,rfl,rfl⟩:=H
 go_enter Tryz.func115,Tryz.ntmps115
 go_wp2_with (first|((with_reducible refine gate_dst (N:=2) rfl ?_);refine be_ 2 #[.int .i64 0,.int .i64 0] 57 ?_;intro gb246 hg w13 hbox hb;have n0_:=am_ (IsS91.below (is91_ HI0) hb);have n1_:=am_ (KeepBut.trans (kp_ HK) (KeepBut.of_below hb g none) (.inl rfl));have n2_:=am_ (below_step (bs91_ HB HI0) hb);have n3_:=am_ (hbox);have n4_:=am_ ((by rw[hg];exact(keep_size (w:=w) (g:=g) (row:=none) (kp_ HK)):w.heap.size≤gb246));have n5_:=am_ ((Nat.le_trans HW0.out (by rw[hg];exact(keep_size (w:=w) (g:=g) (row:=none) (kp_ HK)):w.heap.size≤gb246):w0.heap.size≤gb246));have n6_:=am_ ((by rw[hg];exact Nat.ne_of_lt (IsS91.lt (show IsS91 w0 _ g s0_0 s0_1 s0_2 s0_3 s0_4 s0_5 s0_6 s0_7 s0_8 from is91_ HI0)):g≠gb246));have n7_:=am_ ((by rw[hg];exact Nat.ne_of_gt (IsS91.lt (show IsS91 w0 _ g s0_0 s0_1 s0_2 s0_3 s0_4 s0_5 s0_6 s0_7 s0_8 from is91_ HI0)):gb246≠g));clear HI0;clear HK;clear HB;revert n0_ n1_ n2_ n3_ n4_ n5_ n6_ n7_;intro HI0 HK HB BK246 GW246 GE246 NB0_246 NB246_0;clear hb hbox hg)|((with_reducible refine gate_callee (f:=114) rfl ?_);refine gl_ (some 9) Tryz.func114 #[.pointer (some ⟨g,0,none⟩)] ?_;(with_reducible refine(rule_reader_value.calls _ _ _ _ _ _ _ _ _ _ _ _ _ _ _ _ _ _ _ _ _ _ w0 _ ?side1 ?side2 A2.out).mono ?_);(case side1=>exact is91_ HI0);(case side2=>exact bs91_ HB HI0);rintro e w14 ⟨rfl,hi,hb,hk⟩;refine⟨_,rfl,?_⟩;have n0_:=am_ (KeepBut.blk hk (bk_ BK246).out NB246_0.out (by simp));have n1_:=am_ (KeepBut.trans (kp_ HK) hk (.inl rfl));have n2_:=am_ (hb);have n3_:=am_ (hi);clear BK246;clear HK;clear HB;clear HI0;revert n0_ n1_ n2_ n3_;intro BK246 HK HB HI0;(try clear hb);(try clear hk);(try clear hi))|((with_reducible refine gate_callee (f:=61) rfl ?_);refine gl_ (some 13) Tryz.func61 #[.pointer (some ⟨g,0,none⟩),.string (⟨#[46,46]⟩:ByteArray)] ?_;(with_reducible refine(rule_reader_take.calls _ _ _ _ _ _ _ _ _ _ _ _ _ _ _ _ _ _ _ _ _ _ w0 _ ?side1 ?side2 A3.out).mono ?_);(case side1=>exact is91_ HI0);(case side2=>exact bs91_ HB HI0);rintro e w15 ⟨rfl,hi,hb,hk⟩;refine⟨_,rfl,?_⟩;have n0_:=am_ (KeepBut.blk hk (bk_ BK246).out NB246_0.out (by simp));have n1_:=am_ (KeepBut.trans (kp_ HK) hk (.inl rfl));have n2_:=am_ (hb);have n3_:=am_ (hi);clear BK246;clear HK;clear HB;clear HI0;revert n0_ n1_ n2_ n3_;intro BK246 HK HB HI0;(try clear hb);(try clear hk);(try clear hi);have hnb16:=NB246_0.out;have hnc16:=NB0_246.out;obtain⟨hcz17_0,hcz17_1,hfz17_0,hfz17_1⟩:=bo2_ BK246))
 refine bodyPost_ret (results_cell_row rfl _ _ gb246 57 #[.int .i64 t247,.int .i64 t247] (0,0) _ rfl ((bp_ BK246).out) Tryz.underlying57 rfl (by kernel_rfl)) rfl ?_
 exact⟨ew_,is91_ HI0,bs91_ HB HI0,kp_ HK⟩

end Go.Proofs.YtadagjgkanlmdaaGreatDoor.P
