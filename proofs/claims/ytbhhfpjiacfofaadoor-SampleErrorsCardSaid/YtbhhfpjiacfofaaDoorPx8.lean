-- written by a program of this session (wip/p2)
import Derived.Test.YtbhhfpjiacfofaaDoorPx0
import Derived.Test.YtbhhfpjiacfofaaDoorPx5
import Derived.Test.YtbhhfpjiacfofaaDoorPx7
namespace Go.Proofs.YtbhhfpjiacfofaaDoor.P
open Go.RowKit Go.Proofs.YtbhhfpjiacfofaaDoorW.PrintWords Go.Proofs.YtbhhfpjiacfofaaDoorW.PrintLast Go.Proofs.YtbhhfpjiacfofaaDoorW.PrintMore
attribute [local go_sem] max2_int min2_int max_two min_two max_three min_three max_four min_four   -- for this text's walks alone
set_option linter.unusedVariables false
set_option linter.unusedSimpArgs false

/-! ### florinlaw08_SampleErrors: function 5 -/
def florinlaw08_SampleErrors.l0:Nat→Int→Int→ByteArray→Int→Option (Bool)
 | 0,_,_,_,_=>none
 | k+1,x0,x1,x5,x6=>if x6<(Go.bits .and .i64 x1 7) then (if x5.size+1≤9223372036854775807 then (florinlaw08_SampleErrors.l0 k x0 x1 (x5++(⟨#[32]⟩:ByteArray)) (wrap64 (x6+1))) else (none)) else ((some (([(⟨(⟨#[49]⟩:ByteArray),1,0⟩:S47),(⟨(⟨#[64,105,110,116,101,103,101,114]⟩:ByteArray),1,8⟩:S47),(⟨(⟨#[64,105,110,116,101,103,101,114,32,49,46,53]⟩:ByteArray),1,9⟩:S47),(⟨(⟨#[64,105,110,116,101,103,101,114,32,49,44]⟩:ByteArray),1,11⟩:S47),(⟨(⟨#[64,105,110,116,101,103,101,114,32,49,44,32,226,128,166,44,32,50]⟩:ByteArray),1,15⟩:S47),(⟨(⟨#[64,105,110,116,101,103,101,114,32,50,126,49]⟩:ByteArray),3,11⟩:S47),(⟨(⟨#[64,100,101,99,105,109,97,108,32,49,46,48,126,50,46,48,48]⟩:ByteArray),3,13⟩:S47),(⟨(⟨#[64,105,110,116,101,103,101,114,32,49,99,51,126,50,99,51]⟩:ByteArray),3,13⟩:S47),(⟨(⟨#[64,105,110,116,101,103,101,114,32,48,126,49,48,48,48]⟩:ByteArray),4,11⟩:S47),(⟨(⟨#[64,105,110,116,101,103,101,114,32,48,126,57,57,57,57,57,57,57,57,57,57,57,57,57,57,57,57,57,57,57,57]⟩:ByteArray),4,11⟩:S47),(⟨(⟨#[64,100,101,99,105,109,97,108,32,48,46,48,48,126,49,48,46,48,48]⟩:ByteArray),4,14⟩:S47),(⟨(⟨#[64,100,101,99,105,109,97,108,115,32,49]⟩:ByteArray),1,8⟩:S47),(⟨(⟨#[64,105,110,116,101,103,101,114,32,49,32,50]⟩:ByteArray),1,11⟩:S47),(⟨(⟨#[64,105,110,116,101,103,101,114,32,49,99,50,48,48,48,48]⟩:ByteArray),2,9⟩:S47),(⟨(⟨#[64,105,110,116,101,103,101,114,32,49,126]⟩:ByteArray),1,11⟩:S47),(⟨(⟨#[64,105,110,116,101,103,101,114,32,126,49]⟩:ByteArray),1,9⟩:S47),(⟨(⟨#[64,105,110,116,101,103,101,114,32,49,64,100,101,99,105,109,97,108]⟩:ByteArray),1,18⟩:S47),(⟨(⟨#[64,105,110,116,101,103,101,114,32,49,46,50,99,48]⟩:ByteArray),1,9⟩:S47)]:List (S47)):List (S47))).bind fun y346=>(if (IntKind.u64.wrap ((y346.length:Int)))=0 then (none) else (if 0≤(wrap64 (Int.tmod (IntKind.u64.wrap (x0)) (IntKind.u64.wrap ((y346.length:Int))))) then (if (wrap64 (Int.tmod (IntKind.u64.wrap (x0)) (IntKind.u64.wrap ((y346.length:Int)))))<(y346.length:Int) then (if x5.size+((rd_T47 y346 (wrap64 (Int.tmod (IntKind.u64.wrap (x0)) (IntKind.u64.wrap ((y346.length:Int)))))).f0).size≤9223372036854775807 then ((sample_Parse.f k (x5++((rd_T47 y346 (wrap64 (Int.tmod (IntKind.u64.wrap (x0)) (IntKind.u64.wrap ((y346.length:Int)))))).f0))).bind fun bt351=>(if (bt351.1.length:Int)=0 then (if bt351.2.1=((rd_T47 y346 (wrap64 (Int.tmod (IntKind.u64.wrap (x0)) (IntKind.u64.wrap ((y346.length:Int)))))).f1) then (some (bt351.2.2==(wrap64 ((x5.size:Int)+((rd_T47 y346 (wrap64 (Int.tmod (IntKind.u64.wrap (x0)) (IntKind.u64.wrap ((y346.length:Int)))))).f2))))) else (none)) else (none))) else (none)) else (none)) else (none))))
def florinlaw08_SampleErrors.f (k:Nat) (a0:Int) (a1:Int):Option (Bool):=(florinlaw08_head.f k).bind fun t345=>(if t345=true then (florinlaw08_SampleErrors.l0 k a0 a1 (⟨#[]⟩:ByteArray) 0) else (none))
set_option maxHeartbeats 64000000 in
set_option maxRecDepth 100000 in
theorem florinlaw08_SampleErrors.calls (k:Nat) (a0:Int) (a1:Int) (r:Bool) (w:World) (h:florinlaw08_SampleErrors.f k a0 a1=some r) :
  Calls Tryd.prog 5 #[.int .i64 a0,.int .i64 a1] w fun e w'=>e= .returned (.bool r)∧Below w.heap.size w w':=by
 have hu47:=Tryd.underlying47
 have HB:=Aside0.mk (Below.refl w.heap.size w)
 have H:=h
 clear h
 unfold florinlaw08_SampleErrors.f at H
 replace H:=Option.bind_eq_some_iff.mp H
 obtain⟨t345,A30,H⟩:=H
 have A3:=Aside0.mk A30
 clear A30
 by_cases c4:t345=true
 ·subst c4
  rw[if_pos rfl] at H
  have H':=Aside0.mk H
  clear H
  go_enter Tryd.func5,Tryd.ntmps5
  go_wp2_with (first|((with_reducible refine gate_callee (f:=6) rfl ?_);refine gl_ (some 12) Tryd.func6 #[] ?_;(with_reducible refine(florinlaw08_head.calls _ _ _ A3.out).mono ?_);rintro e w5 ⟨rfl,hb⟩;refine⟨_,rfl,?_⟩;replace HB:=Aside0.mk (below_step (bl_ HB).out hb);(try clear hb);(try clear hi)))
  go_loopg [5,6] k (fun kq v5 v6 w'=>∃(x5_1:ByteArray) (x6_1:Int),v5= .string x5_1∧v6= .int .i64 x6_1∧Aside0 (florinlaw08_SampleErrors.l0 kq a0 a1 x5_1 x6_1=some r)∧Aside0 (kq≤k)∧Aside0 (Below w.heap.size w w'))
  case atStart=>exact⟨((⟨#[]⟩:ByteArray)),(0),eq_,eq_,H',⟨Nat.le_refl _⟩,(bl_ HB)⟩
  clear H'
  obtain⟨x5_1,x6_1,rfl,rfl,HA,HK1,HB⟩:=hrel
  cases gk with
  | zero=>exact absurd HA.out (by simp[florinlaw08_SampleErrors.l0])
  | succ k1=>?_
  have H:=HA.out
  clear HA
  simp only[florinlaw08_SampleErrors.l0] at H
  by_cases c6:x6_1<(Go.bits .and .i64 a1 7)
  ·rw[if_pos c6] at H
   have c6b0:=decide_eq_true c6
   clear c6
   replace H:=ifn_ H
   obtain⟨c7,H⟩:=H
   have c7b0:=eq_true c7
   have c7b1:decide (x5_1.size+1≤9223372036854775807)=true:=decide_eq_true c7
   try have c7b2:=eq_false (Nat.not_lt.2 c7)
   have H':=Aside0.mk H
   clear H
   go_wp2
   go_roundg k1
   case measure=>have:=HK1.out;omega
   case rel=>exact⟨(x5_1++(⟨#[32]⟩:ByteArray)),(wrap64 (x6_1+1)),eq_,eq_,H',⟨by have:=HK1.out;omega⟩,(bl_ HB)⟩
  rw[if_neg c6] at H
  have c6b0:=decide_eq_false c6
  clear c6
  obtain⟨y346,hy346⟩:∃y_:List (S47),y_=(([(⟨(⟨#[49]⟩:ByteArray),1,0⟩:S47),(⟨(⟨#[64,105,110,116,101,103,101,114]⟩:ByteArray),1,8⟩:S47),(⟨(⟨#[64,105,110,116,101,103,101,114,32,49,46,53]⟩:ByteArray),1,9⟩:S47),(⟨(⟨#[64,105,110,116,101,103,101,114,32,49,44]⟩:ByteArray),1,11⟩:S47),(⟨(⟨#[64,105,110,116,101,103,101,114,32,49,44,32,226,128,166,44,32,50]⟩:ByteArray),1,15⟩:S47),(⟨(⟨#[64,105,110,116,101,103,101,114,32,50,126,49]⟩:ByteArray),3,11⟩:S47),(⟨(⟨#[64,100,101,99,105,109,97,108,32,49,46,48,126,50,46,48,48]⟩:ByteArray),3,13⟩:S47),(⟨(⟨#[64,105,110,116,101,103,101,114,32,49,99,51,126,50,99,51]⟩:ByteArray),3,13⟩:S47),(⟨(⟨#[64,105,110,116,101,103,101,114,32,48,126,49,48,48,48]⟩:ByteArray),4,11⟩:S47),(⟨(⟨#[64,105,110,116,101,103,101,114,32,48,126,57,57,57,57,57,57,57,57,57,57,57,57,57,57,57,57,57,57,57,57]⟩:ByteArray),4,11⟩:S47),(⟨(⟨#[64,100,101,99,105,109,97,108,32,48,46,48,48,126,49,48,46,48,48]⟩:ByteArray),4,14⟩:S47),(⟨(⟨#[64,100,101,99,105,109,97,108,115,32,49]⟩:ByteArray),1,8⟩:S47),(⟨(⟨#[64,105,110,116,101,103,101,114,32,49,32,50]⟩:ByteArray),1,11⟩:S47),(⟨(⟨#[64,105,110,116,101,103,101,114,32,49,99,50,48,48,48,48]⟩:ByteArray),2,9⟩:S47),(⟨(⟨#[64,105,110,116,101,103,101,114,32,49,126]⟩:ByteArray),1,11⟩:S47),(⟨(⟨#[64,105,110,116,101,103,101,114,32,126,49]⟩:ByteArray),1,9⟩:S47),(⟨(⟨#[64,105,110,116,101,103,101,114,32,49,64,100,101,99,105,109,97,108]⟩:ByteArray),1,18⟩:S47),(⟨(⟨#[64,105,110,116,101,103,101,114,32,49,46,50,99,48]⟩:ByteArray),1,9⟩:S47)]:List (S47))):=⟨_,rfl⟩
  replace H:(if (IntKind.u64.wrap ((y346.length:Int)))=0 then (none) else (if 0≤(wrap64 (Int.tmod (IntKind.u64.wrap (a0)) (IntKind.u64.wrap ((y346.length:Int))))) then (if (wrap64 (Int.tmod (IntKind.u64.wrap (a0)) (IntKind.u64.wrap ((y346.length:Int)))))<(y346.length:Int) then (if x5_1.size+((rd_T47 y346 (wrap64 (Int.tmod (IntKind.u64.wrap (a0)) (IntKind.u64.wrap ((y346.length:Int)))))).f0).size≤9223372036854775807 then ((sample_Parse.f k1 (x5_1++((rd_T47 y346 (wrap64 (Int.tmod (IntKind.u64.wrap (a0)) (IntKind.u64.wrap ((y346.length:Int)))))).f0))).bind fun bt351=>(if (bt351.1.length:Int)=0 then (if bt351.2.1=((rd_T47 y346 (wrap64 (Int.tmod (IntKind.u64.wrap (a0)) (IntKind.u64.wrap ((y346.length:Int)))))).f1) then (some (bt351.2.2==(wrap64 ((x5_1.size:Int)+((rd_T47 y346 (wrap64 (Int.tmod (IntKind.u64.wrap (a0)) (IntKind.u64.wrap ((y346.length:Int)))))).f2))))) else (none)) else (none))) else (none)) else (none)) else (none)))=some r:=by first|(rw[hy346];with_reducible exact H)|(have H2_:=(Option.bind_some _ _).symm.trans H;rw[hy346];with_reducible exact H2_)|(have H2_:=(Option.bind_some _ _).symm.trans H;with_reducible exact H2_)|with_reducible exact H|(rw[hy346];exact H)|exact H
  have Ny346:=Aside0.mk hy346
  clear hy346
  replace H:=ifp_ H
  obtain⟨c8,H⟩:=H
  have c8b0:((IntKind.u64.wrap ((y346.length:Int)))==0)=false:=beq_eq_false_iff_ne.mpr c8
  have c8b1:((IntKind.u64.wrap ((y346.length:Int))) !=0)=true:=bne_iff_ne.mpr c8
  obtain⟨ji9,hji9⟩:∃j_:Int,(wrap64 (Int.tmod (IntKind.u64.wrap (a0)) (IntKind.u64.wrap ((y346.length:Int)))))=j_:=⟨_,rfl⟩
  replace H:(if 0≤(ji9) then (if (ji9)<(y346.length:Int) then (if x5_1.size+((rd_T47 y346 (ji9)).f0).size≤9223372036854775807 then ((sample_Parse.f k1 (x5_1++((rd_T47 y346 (ji9)).f0))).bind fun bt351=>(if (bt351.1.length:Int)=0 then (if bt351.2.1=((rd_T47 y346 (ji9)).f1) then (some (bt351.2.2==(wrap64 ((x5_1.size:Int)+((rd_T47 y346 (ji9)).f2))))) else (none)) else (none))) else (none)) else (none)) else (none))=some r:=by first|(rw[hji9] at H;exact H)|(simp only[hji9] at H ⊢;exact H)
  have hji9w:(IntKind.i64.wrap (Int.tmod (IntKind.u64.wrap (a0)) (IntKind.u64.wrap ((y346.length:Int)))))=ji9:=(i64_w _).trans hji9
  replace H:=ifn_ H
  obtain⟨c10,H⟩:=H
  have c10b0:decide (0≤(ji9))=true:=decide_eq_true c10
  clear c10
  replace H:=ifn_ H
  obtain⟨c11,H⟩:=H
  have c11b0:decide ((ji9)<(y346.length:Int))=true:=decide_eq_true c11
  clear c11
  replace H:=ifn_ H
  obtain⟨c12,H⟩:=H
  have c12b0:=eq_true c12
  have c12b1:decide (x5_1.size+((rd_T47 y346 (ji9)).f0).size≤9223372036854775807)=true:=decide_eq_true c12
  try have c12b2:=eq_false (Nat.not_lt.2 c12)
  replace H:=Option.bind_eq_some_iff.mp H
  obtain⟨⟨t351,t354,t355⟩,A130,H⟩:=H
  dsimp only at H
  have A13:=Aside0.mk A130
  clear A130
  replace H:=ifn_ H
  obtain⟨c14,H⟩:=H
  have c14b0:((t351.length:Int)==0)=true:=beq_iff_eq.mpr c14
  have c14b1:((t351.length:Int) !=0)=false:=bne_eq_false_iff_eq.mpr c14
  clear c14
  replace H:=ifn_ H
  obtain⟨c15,H⟩:=H
  have c15b0:(t354==((rd_T47 y346 (ji9)).f1))=true:=beq_iff_eq.mpr c15
  have c15b1:(t354 !=((rd_T47 y346 (ji9)).f1))=false:=bne_eq_false_iff_eq.mpr c15
  clear c15
  obtain rfl:=Option.some.inj H
  go_wp2_with (first|((with_reducible refine gate_dst (N:=40) rfl ?_);(try (refine gate_guard (by rfl) ?_;dsimp only));refine Kd.R_lit k47 _ 47 ?hg (N:=40) ?hd (xs:=([(⟨(⟨#[49]⟩:ByteArray),1,0⟩:S47),(⟨(⟨#[64,105,110,116,101,103,101,114]⟩:ByteArray),1,8⟩:S47),(⟨(⟨#[64,105,110,116,101,103,101,114,32,49,46,53]⟩:ByteArray),1,9⟩:S47),(⟨(⟨#[64,105,110,116,101,103,101,114,32,49,44]⟩:ByteArray),1,11⟩:S47),(⟨(⟨#[64,105,110,116,101,103,101,114,32,49,44,32,226,128,166,44,32,50]⟩:ByteArray),1,15⟩:S47),(⟨(⟨#[64,105,110,116,101,103,101,114,32,50,126,49]⟩:ByteArray),3,11⟩:S47),(⟨(⟨#[64,100,101,99,105,109,97,108,32,49,46,48,126,50,46,48,48]⟩:ByteArray),3,13⟩:S47),(⟨(⟨#[64,105,110,116,101,103,101,114,32,49,99,51,126,50,99,51]⟩:ByteArray),3,13⟩:S47),(⟨(⟨#[64,105,110,116,101,103,101,114,32,48,126,49,48,48,48]⟩:ByteArray),4,11⟩:S47),(⟨(⟨#[64,105,110,116,101,103,101,114,32,48,126,57,57,57,57,57,57,57,57,57,57,57,57,57,57,57,57,57,57,57,57]⟩:ByteArray),4,11⟩:S47),(⟨(⟨#[64,100,101,99,105,109,97,108,32,48,46,48,48,126,49,48,46,48,48]⟩:ByteArray),4,14⟩:S47),(⟨(⟨#[64,100,101,99,105,109,97,108,115,32,49]⟩:ByteArray),1,8⟩:S47),(⟨(⟨#[64,105,110,116,101,103,101,114,32,49,32,50]⟩:ByteArray),1,11⟩:S47),(⟨(⟨#[64,105,110,116,101,103,101,114,32,49,99,50,48,48,48,48]⟩:ByteArray),2,9⟩:S47),(⟨(⟨#[64,105,110,116,101,103,101,114,32,49,126]⟩:ByteArray),1,11⟩:S47),(⟨(⟨#[64,105,110,116,101,103,101,114,32,126,49]⟩:ByteArray),1,9⟩:S47),(⟨(⟨#[64,105,110,116,101,103,101,114,32,49,64,100,101,99,105,109,97,108]⟩:ByteArray),1,18⟩:S47),(⟨(⟨#[64,105,110,116,101,103,101,114,32,49,46,50,99,48]⟩:ByteArray),1,9⟩:S47)]:List (S47))) (inner:=[.string (⟨#[49]⟩:ByteArray),.int .i64 1,.int .i64 0,.string (⟨#[64,105,110,116,101,103,101,114]⟩:ByteArray),.int .i64 1,.int .i64 8,.string (⟨#[64,105,110,116,101,103,101,114,32,49,46,53]⟩:ByteArray),.int .i64 1,.int .i64 9,.string (⟨#[64,105,110,116,101,103,101,114,32,49,44]⟩:ByteArray),.int .i64 1,.int .i64 11,.string (⟨#[64,105,110,116,101,103,101,114,32,49,44,32,226,128,166,44,32,50]⟩:ByteArray),.int .i64 1,.int .i64 15,.string (⟨#[64,105,110,116,101,103,101,114,32,50,126,49]⟩:ByteArray),.int .i64 3,.int .i64 11,.string (⟨#[64,100,101,99,105,109,97,108,32,49,46,48,126,50,46,48,48]⟩:ByteArray),.int .i64 3,.int .i64 13,.string (⟨#[64,105,110,116,101,103,101,114,32,49,99,51,126,50,99,51]⟩:ByteArray),.int .i64 3,.int .i64 13,.string (⟨#[64,105,110,116,101,103,101,114,32,48,126,49,48,48,48]⟩:ByteArray),.int .i64 4,.int .i64 11,.string (⟨#[64,105,110,116,101,103,101,114,32,48,126,57,57,57,57,57,57,57,57,57,57,57,57,57,57,57,57,57,57,57,57]⟩:ByteArray),.int .i64 4,.int .i64 11,.string (⟨#[64,100,101,99,105,109,97,108,32,48,46,48,48,126,49,48,46,48,48]⟩:ByteArray),.int .i64 4,.int .i64 14,.string (⟨#[64,100,101,99,105,109,97,108,115,32,49]⟩:ByteArray),.int .i64 1,.int .i64 8,.string (⟨#[64,105,110,116,101,103,101,114,32,49,32,50]⟩:ByteArray),.int .i64 1,.int .i64 11,.string (⟨#[64,105,110,116,101,103,101,114,32,49,99,50,48,48,48,48]⟩:ByteArray),.int .i64 2,.int .i64 9,.string (⟨#[64,105,110,116,101,103,101,114,32,49,126]⟩:ByteArray),.int .i64 1,.int .i64 11,.string (⟨#[64,105,110,116,101,103,101,114,32,126,49]⟩:ByteArray),.int .i64 1,.int .i64 9,.string (⟨#[64,105,110,116,101,103,101,114,32,49,64,100,101,99,105,109,97,108]⟩:ByteArray),.int .i64 1,.int .i64 18,.string (⟨#[64,105,110,116,101,103,101,114,32,49,46,50,99,48]⟩:ByteArray),.int .i64 1,.int .i64 9]) (ok:=fun _=>True) (okp:=fun _=>True) ?hr ?hp (fun _ hk=>hk) trivial (Below.refl _ _) (Nat.le_refl _) (by simp) ?_;(case hd=>rfl);(case hg=>rfl);(case hr=>first|(go_simp;done)|(go_simp;rfl));(case hp=>exact(Reps.c3 (show Kd.M k47 _ _ _ (⟨(⟨#[49]⟩:ByteArray),1,0⟩:S47) [.string (⟨#[49]⟩:ByteArray),.int .i64 1,.int .i64 0] from(k47_mkM _ _ _ (⟨(⟨#[49]⟩:ByteArray),1,0⟩:S47) )) (Reps.c3 (show Kd.M k47 _ _ _ (⟨(⟨#[64,105,110,116,101,103,101,114]⟩:ByteArray),1,8⟩:S47) [.string (⟨#[64,105,110,116,101,103,101,114]⟩:ByteArray),.int .i64 1,.int .i64 8] from(k47_mkM _ _ _ (⟨(⟨#[64,105,110,116,101,103,101,114]⟩:ByteArray),1,8⟩:S47) )) (Reps.c3 (show Kd.M k47 _ _ _ (⟨(⟨#[64,105,110,116,101,103,101,114,32,49,46,53]⟩:ByteArray),1,9⟩:S47) [.string (⟨#[64,105,110,116,101,103,101,114,32,49,46,53]⟩:ByteArray),.int .i64 1,.int .i64 9] from(k47_mkM _ _ _ (⟨(⟨#[64,105,110,116,101,103,101,114,32,49,46,53]⟩:ByteArray),1,9⟩:S47) )) (Reps.c3 (show Kd.M k47 _ _ _ (⟨(⟨#[64,105,110,116,101,103,101,114,32,49,44]⟩:ByteArray),1,11⟩:S47) [.string (⟨#[64,105,110,116,101,103,101,114,32,49,44]⟩:ByteArray),.int .i64 1,.int .i64 11] from(k47_mkM _ _ _ (⟨(⟨#[64,105,110,116,101,103,101,114,32,49,44]⟩:ByteArray),1,11⟩:S47) )) (Reps.c3 (show Kd.M k47 _ _ _ (⟨(⟨#[64,105,110,116,101,103,101,114,32,49,44,32,226,128,166,44,32,50]⟩:ByteArray),1,15⟩:S47) [.string (⟨#[64,105,110,116,101,103,101,114,32,49,44,32,226,128,166,44,32,50]⟩:ByteArray),.int .i64 1,.int .i64 15] from(k47_mkM _ _ _ (⟨(⟨#[64,105,110,116,101,103,101,114,32,49,44,32,226,128,166,44,32,50]⟩:ByteArray),1,15⟩:S47) )) (Reps.c3 (show Kd.M k47 _ _ _ (⟨(⟨#[64,105,110,116,101,103,101,114,32,50,126,49]⟩:ByteArray),3,11⟩:S47) [.string (⟨#[64,105,110,116,101,103,101,114,32,50,126,49]⟩:ByteArray),.int .i64 3,.int .i64 11] from(k47_mkM _ _ _ (⟨(⟨#[64,105,110,116,101,103,101,114,32,50,126,49]⟩:ByteArray),3,11⟩:S47) )) (Reps.c3 (show Kd.M k47 _ _ _ (⟨(⟨#[64,100,101,99,105,109,97,108,32,49,46,48,126,50,46,48,48]⟩:ByteArray),3,13⟩:S47) [.string (⟨#[64,100,101,99,105,109,97,108,32,49,46,48,126,50,46,48,48]⟩:ByteArray),.int .i64 3,.int .i64 13] from(k47_mkM _ _ _ (⟨(⟨#[64,100,101,99,105,109,97,108,32,49,46,48,126,50,46,48,48]⟩:ByteArray),3,13⟩:S47) )) (Reps.c3 (show Kd.M k47 _ _ _ (⟨(⟨#[64,105,110,116,101,103,101,114,32,49,99,51,126,50,99,51]⟩:ByteArray),3,13⟩:S47) [.string (⟨#[64,105,110,116,101,103,101,114,32,49,99,51,126,50,99,51]⟩:ByteArray),.int .i64 3,.int .i64 13] from(k47_mkM _ _ _ (⟨(⟨#[64,105,110,116,101,103,101,114,32,49,99,51,126,50,99,51]⟩:ByteArray),3,13⟩:S47) )) (Reps.c3 (show Kd.M k47 _ _ _ (⟨(⟨#[64,105,110,116,101,103,101,114,32,48,126,49,48,48,48]⟩:ByteArray),4,11⟩:S47) [.string (⟨#[64,105,110,116,101,103,101,114,32,48,126,49,48,48,48]⟩:ByteArray),.int .i64 4,.int .i64 11] from(k47_mkM _ _ _ (⟨(⟨#[64,105,110,116,101,103,101,114,32,48,126,49,48,48,48]⟩:ByteArray),4,11⟩:S47) )) (Reps.c3 (show Kd.M k47 _ _ _ (⟨(⟨#[64,105,110,116,101,103,101,114,32,48,126,57,57,57,57,57,57,57,57,57,57,57,57,57,57,57,57,57,57,57,57]⟩:ByteArray),4,11⟩:S47) [.string (⟨#[64,105,110,116,101,103,101,114,32,48,126,57,57,57,57,57,57,57,57,57,57,57,57,57,57,57,57,57,57,57,57]⟩:ByteArray),.int .i64 4,.int .i64 11] from(k47_mkM _ _ _ (⟨(⟨#[64,105,110,116,101,103,101,114,32,48,126,57,57,57,57,57,57,57,57,57,57,57,57,57,57,57,57,57,57,57,57]⟩:ByteArray),4,11⟩:S47) )) (Reps.c3 (show Kd.M k47 _ _ _ (⟨(⟨#[64,100,101,99,105,109,97,108,32,48,46,48,48,126,49,48,46,48,48]⟩:ByteArray),4,14⟩:S47) [.string (⟨#[64,100,101,99,105,109,97,108,32,48,46,48,48,126,49,48,46,48,48]⟩:ByteArray),.int .i64 4,.int .i64 14] from(k47_mkM _ _ _ (⟨(⟨#[64,100,101,99,105,109,97,108,32,48,46,48,48,126,49,48,46,48,48]⟩:ByteArray),4,14⟩:S47) )) (Reps.c3 (show Kd.M k47 _ _ _ (⟨(⟨#[64,100,101,99,105,109,97,108,115,32,49]⟩:ByteArray),1,8⟩:S47) [.string (⟨#[64,100,101,99,105,109,97,108,115,32,49]⟩:ByteArray),.int .i64 1,.int .i64 8] from(k47_mkM _ _ _ (⟨(⟨#[64,100,101,99,105,109,97,108,115,32,49]⟩:ByteArray),1,8⟩:S47) )) (Reps.c3 (show Kd.M k47 _ _ _ (⟨(⟨#[64,105,110,116,101,103,101,114,32,49,32,50]⟩:ByteArray),1,11⟩:S47) [.string (⟨#[64,105,110,116,101,103,101,114,32,49,32,50]⟩:ByteArray),.int .i64 1,.int .i64 11] from(k47_mkM _ _ _ (⟨(⟨#[64,105,110,116,101,103,101,114,32,49,32,50]⟩:ByteArray),1,11⟩:S47) )) (Reps.c3 (show Kd.M k47 _ _ _ (⟨(⟨#[64,105,110,116,101,103,101,114,32,49,99,50,48,48,48,48]⟩:ByteArray),2,9⟩:S47) [.string (⟨#[64,105,110,116,101,103,101,114,32,49,99,50,48,48,48,48]⟩:ByteArray),.int .i64 2,.int .i64 9] from(k47_mkM _ _ _ (⟨(⟨#[64,105,110,116,101,103,101,114,32,49,99,50,48,48,48,48]⟩:ByteArray),2,9⟩:S47) )) (Reps.c3 (show Kd.M k47 _ _ _ (⟨(⟨#[64,105,110,116,101,103,101,114,32,49,126]⟩:ByteArray),1,11⟩:S47) [.string (⟨#[64,105,110,116,101,103,101,114,32,49,126]⟩:ByteArray),.int .i64 1,.int .i64 11] from(k47_mkM _ _ _ (⟨(⟨#[64,105,110,116,101,103,101,114,32,49,126]⟩:ByteArray),1,11⟩:S47) )) (Reps.c3 (show Kd.M k47 _ _ _ (⟨(⟨#[64,105,110,116,101,103,101,114,32,126,49]⟩:ByteArray),1,9⟩:S47) [.string (⟨#[64,105,110,116,101,103,101,114,32,126,49]⟩:ByteArray),.int .i64 1,.int .i64 9] from(k47_mkM _ _ _ (⟨(⟨#[64,105,110,116,101,103,101,114,32,126,49]⟩:ByteArray),1,9⟩:S47) )) (Reps.c3 (show Kd.M k47 _ _ _ (⟨(⟨#[64,105,110,116,101,103,101,114,32,49,64,100,101,99,105,109,97,108]⟩:ByteArray),1,18⟩:S47) [.string (⟨#[64,105,110,116,101,103,101,114,32,49,64,100,101,99,105,109,97,108]⟩:ByteArray),.int .i64 1,.int .i64 18] from(k47_mkM _ _ _ (⟨(⟨#[64,105,110,116,101,103,101,114,32,49,64,100,101,99,105,109,97,108]⟩:ByteArray),1,18⟩:S47) )) (Reps.c3 (show Kd.M k47 _ _ _ (⟨(⟨#[64,105,110,116,101,103,101,114,32,49,46,50,99,48]⟩:ByteArray),1,9⟩:S47) [.string (⟨#[64,105,110,116,101,103,101,114,32,49,46,50,99,48]⟩:ByteArray),.int .i64 1,.int .i64 9] from(k47_mkM _ _ _ (⟨(⟨#[64,105,110,116,101,103,101,114,32,49,46,50,99,48]⟩:ByteArray),1,9⟩:S47) )) (Reps.none _ _))))))))))))))))))));intro v347 w16 ho17 hb hg_ hnew_;clear hg_ hnew_;(first|rw[← Ny346.out] at ho17|(simp only[Int.reduceToNat] at ho17;rw[← Ny346.out] at ho17));have HO348:=Aside0.mk (Kd.R_lower ho17 (below_size (bl_ HB).out));replace HB:=Aside0.mk (below_step (bl_ HB).out hb);clear hb ho17;obtain⟨Ao18,co18,eo18⟩:=Kd.R_slice HO348.out;subst eo18;have p349:0≤((ji9):Int):=od_;have q349:(ji9)<(y346.length:Int):=od_;obtain⟨ad349,e349,hx349_0,hx349_1,hx349_2⟩:=at_T47 (Kd.R_reads' HO348.out).2.2 (ji9) p349 q349;cases e349;replace p349:=eq_true p349;replace q349:=eq_true q349)|((with_reducible refine gate_dst (N:=8) rfl ?_);(try (refine gate_guard (by rfl) ?_;dsimp only));refine be_ 8 #[.string (⟨#[]⟩:ByteArray),.int .i64 0,.int .i64 0] 47 ?_;intro gb350 hg w19 hbox hb;have BK350:=Aside0.mk (hbox);have GW350:=sz_ HB hg;have GE350:=sz_ HB hg;replace HO348:=Aside0.mk (Kd.R_below (Kd.R_elderB (kr_ HO348) gb350 (Nat.le_of_eq hg.symm)) hb);replace HB:=Aside0.mk (below_step (bl_ HB).out hb);clear hb hbox hg;obtain⟨hcz20_0,hcz20_1,hcz20_2,hfz20_0,hfz20_1,hfz20_2⟩:=bo3_ BK350)|((with_reducible refine gate_callee (f:=9) rfl ?_);refine goesL_ (some 56) rfl rfl Tryd.func9 (by kernel_rfl) rfl #[.string (x5_1++((rd_T47 y346 (ji9)).f0))] rfl (by (try simp only[List.map_toArray,List.map_cons,List.map_nil]);first|done|(simp only[hji9];rfl)|rfl|(simp only[List.length_drop,List.length_take];rfl)|(have z_:∀s_:ByteArray,s_.size≤9223372036854775807→ -(s_.size:Int)=wrap64 (-(s_.size:Int)):=(fun s_ h_=>by unfold wrap64;omega);rw[← z_ _ (by omega)];rfl)|(simp only[ByteArray.size_append];rfl)) ?_;(with_reducible refine(sample_Parse.calls k1 (x5_1++((rd_T47 y346 (ji9)).f0)) t351 t354 t355 _ A13.out).mono ?_);rintro e w21 ⟨v352,rfl,ho0,hb⟩;refine⟨_,rfl,?_⟩;have n0_:=Aside0.mk (Kd.R_below (kfR_ gb350 HO348) hb);have n1_:=Aside0.mk (Kd.N_lower (Kd.N_mono (ok':=fun k_=>some k_≠(.slice (some ad349) y346.length co18:Value).ownBlock∧k_≠gb350) ho0 (fun k_ hk_=>⟨(Kd.fresh' (Kd.R_lt (kfR_ gb350 HO348)) k_ hk_),(Kd.freshB (g:=gb350) (o:= .cells #[.string ((rd_T47 y346 (ji9)).f0),.int .i64 ((rd_T47 y346 (ji9)).f1),.int .i64 ((rd_T47 y346 (ji9)).f2)] 47 (0,0)) ((bp_ BK350).out) k_ hk_)⟩)) (below_size (bl_ HB).out));have n2_:=Aside0.mk (blk_below (g:=gb350) (o:= .cells #[.string ((rd_T47 y346 (ji9)).f0),.int .i64 ((rd_T47 y346 (ji9)).f1),.int .i64 ((rd_T47 y346 (ji9)).f2)] 47 (0,0)) ((bp_ BK350).out) hb);have n3_:=Aside0.mk (below_step (bl_ HB).out hb);clear HO348;clear BK350;clear HB;revert n0_ n1_ n2_ n3_;intro HO348 HO353 BK350 HB;(try clear hb);(try clear ho0);obtain⟨Ao22,co22,eo22⟩:=Kd.N_slice HO353.out;subst eo22;obtain⟨hcz23_0,hcz23_1,hcz23_2,hfz23_0,hfz23_1,hfz23_2⟩:=bo3_ BK350))
  go_ret
  exact⟨by first|rfl|(simp[errW_none,errW_some] <;> rfl)|(simp only[← hji9];first|rfl|(simp[errW_none,errW_some] <;> rfl))|(simp[*,errW_none,errW_some] <;> first|rfl|exact given_isEmpty _|exact(given_isEmpty _).symm),by repeat(first|(with_reducible first|exact HB.out|apply below_alloc|apply pw_below_drewN|apply below_drew1|refine below_set ?_ GE350.out)|exact HB.out)⟩
 replace c4:=Bool.eq_false_iff.mpr c4
 subst c4
 rw[if_neg (show ¬(false=true) by decide)] at H
 exact absurd H (by simp)

/-- THE ONE PURE STATEMENT of florinlaw08_SampleErrors: yours. -/
def florinlaw08_SampleErrors.Pure:Prop:=∀(a0:Int) (a1:Int),(Lit.int .i64 a0).wf=true→(Lit.int .i64 a1).wf=true→∃k,florinlaw08_SampleErrors.f k a0 a1=some true
theorem florinlaw08_SampleErrors.walk (P:florinlaw08_SampleErrors.Pure) (a0:Int) (a1:Int) (w:World) (w0:(Lit.int .i64 a0).wf=true) (w1:(Lit.int .i64 a1).wf=true) :
  Calls Tryd.prog 5 #[.int .i64 a0,.int .i64 a1] w fun e w'=>e= .returned (.bool true)∧Below w.heap.size w w':=by
 obtain⟨k,h⟩:=P a0 a1 w0 w1
 refine(florinlaw08_SampleErrors.calls _ _ _ _ _ h).mono ?_
 rintro e w' ⟨rfl,hd⟩
 exact⟨rfl,hd⟩

end Go.Proofs.YtbhhfpjiacfofaaDoor.P
