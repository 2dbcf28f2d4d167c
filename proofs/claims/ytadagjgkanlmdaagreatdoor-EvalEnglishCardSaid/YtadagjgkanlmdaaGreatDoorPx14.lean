-- written by a program of this session (wip/p2)
import Derived.Test.YtadagjgkanlmdaaGreatDoorPx0
import Derived.Test.YtadagjgkanlmdaaGreatDoorPx2
import Derived.Test.YtadagjgkanlmdaaGreatDoorPx5
import Derived.Test.YtadagjgkanlmdaaGreatDoorPx6
import Derived.Test.YtadagjgkanlmdaaGreatDoorPx9
namespace Go.Proofs.YtadagjgkanlmdaaGreatDoor.P
open Go.RowKit Go.Proofs.YtadagjgkanlmdaaGreatDoorW.PrintWords Go.Proofs.YtadagjgkanlmdaaGreatDoorW.PrintLast Go.Proofs.YtadagjgkanlmdaaGreatDoorW.PrintMore
attribute [local go_sem] max2_int min2_int max_two min_two max_three min_three max_four min_four   -- for this text's walks alone
set_option linter.unusedVariables false
set_option linter.unusedSimpArgs false

/-! ### florinlaw07_EvalEnglish: function 5 -/
mutual
def florinlaw07_EvalEnglish.j0:Nat→Int→Int→Int→List Int→Option (Bool)
 | 0,_,_,_,_=>none
 | k+1,x0,x1,x2,x7=>if x2=2 then ((some (([(wrap64 (Int.tdiv x1 10))%256,(Int.tmod x1 10)%256]:List Int):List Int)).bind fun y780=>(if x7.length+y780.length<140737488355328 then (florinlaw07_EvalEnglish.j1 k x0 x1 x2 (x7++y780)) else (none))) else (florinlaw07_EvalEnglish.j1 k x0 x1 x2 x7)
def florinlaw07_EvalEnglish.j1:Nat→Int→Int→Int→List Int→Option (Bool)
 | 0,_,_,_,_=>none
 | k+1,x0,x1,x2,x7=>(florinlaw05_Shown.f k (([(wrap64 (Int.tdiv x0 1000))%256,(Int.tmod (wrap64 (Int.tdiv x0 100)) 10)%256,(Int.tmod (wrap64 (Int.tdiv x0 10)) 10)%256,(Int.tmod x0 10)%256]:List Int)) x7).bind fun bt789=>((operand_Of.f k bt789.1 bt789.2.1 bt789.2.2 0).bind fun bt792=>((rule_Parse.f k (⟨#[111,110,101,58,32,105,32,61,32,49,32,97,110,100,32,118,32,61,32,48]⟩:ByteArray)).bind fun bt796=>((rule_Parse.f k (⟨#[111,110,101,58,32,105,32,61,32,49,32,97,110,100,32,118,32,61,32,48,59,32,102,101,119,58,32,118,32,61,32,48,32,97,110,100,32,105,32,37,32,49,48,32,61,32,50,46,46,52,32,97,110,100,32,105,32,37,32,49,48,48,32,33,61,32,49,50,46,46,49,52,59,32,109,97,110,121,58,32,118,32,61,32,48,32,97,110,100,32,105,32,33,61,32,49,32,97,110,100,32,105,32,37,32,49,48,32,61,32,48,46,46,49,32,111,114,32,118,32,61,32,48,32,97,110,100,32,105,32,37,32,49,48,32,61,32,53,46,46,57,32,111,114,32,118,32,61,32,48,32,97,110,100,32,105,32,37,32,49,48,48,32,61,32,49,50,46,46,49,52]⟩:ByteArray)).bind fun bt801=>((rule_Parse.f k (⟨#[122,101,114,111,58,32,110,32,61,32,48,59,32,111,110,101,58,32,110,32,61,32,49,59,32,116,119,111,58,32,110,32,61,32,50,59,32,102,101,119,58,32,110,32,37,32,49,48,48,32,61,32,51,46,46,49,48,59,32,109,97,110,121,58,32,110,32,37,32,49,48,48,32,61,32,49,49,46,46,57,57]⟩:ByteArray)).bind fun bt806=>(if bt796.2.1=0 then (if bt801.2.1=0 then (florinlaw07_EvalEnglish.j2 k x0 x1 x2 bt796.1 bt801.1 bt806.1 (bt806.2.1 !=0) bt792.1 bt792.2.1 bt792.2.2) else (none)) else (none))))))
def florinlaw07_EvalEnglish.j2:Nat→Int→Int→Int→List (S41)→List (S41)→List (S41)→Bool→ByteArray→ByteArray→Int→Option (Bool)
 | 0,_,_,_,_,_,_,_,_,_,_=>none
 | k+1,x0,x1,x2,x9,x12,x15,x94,x796000,x796001,x796002=>if x94=true then (none) else (if x0=1 then (florinlaw07_EvalEnglish.j3 k x0 x1 x2 x9 x12 x15 5 (x2==0) x796000 x796001 x796002) else (florinlaw07_EvalEnglish.j3 k x0 x1 x2 x9 x12 x15 5 false x796000 x796001 x796002))
def florinlaw07_EvalEnglish.j3:Nat→Int→Int→Int→List (S41)→List (S41)→List (S41)→Int→Bool→ByteArray→ByteArray→Int→Option (Bool)
 | 0,_,_,_,_,_,_,_,_,_,_,_=>none
 | k+1,x0,x1,x2,x9,x12,x15,x18,x100,x796000,x796001,x796002=>if x100=true then (florinlaw07_EvalEnglish.j4 k x0 x1 x2 x9 x12 x15 1 x796000 x796001 x796002) else (florinlaw07_EvalEnglish.j4 k x0 x1 x2 x9 x12 x15 x18 x796000 x796001 x796002)
def florinlaw07_EvalEnglish.j4:Nat→Int→Int→Int→List (S41)→List (S41)→List (S41)→Int→ByteArray→ByteArray→Int→Option (Bool)
 | 0,_,_,_,_,_,_,_,_,_,_=>none
 | k+1,x0,x1,x2,x9,x12,x15,x18,x796000,x796001,x796002=>(eval_Pick.f k x9 x796000 x796001 x796002).bind fun t811=>(if t811=x18 then (if x2=0 then (if x0=1 then (florinlaw07_EvalEnglish.j5 k x0 x1 x12 x15 1 x796000 x796001 x796002) else (if (Int.tmod x0 10)≥2 then (if (Int.tmod x0 10)≤4 then (if (Int.tmod x0 100)<12 then (florinlaw07_EvalEnglish.j5 k x0 x1 x12 x15 3 x796000 x796001 x796002) else (if (Int.tmod x0 100)>14 then (florinlaw07_EvalEnglish.j5 k x0 x1 x12 x15 3 x796000 x796001 x796002) else (florinlaw07_EvalEnglish.j5 k x0 x1 x12 x15 4 x796000 x796001 x796002))) else (florinlaw07_EvalEnglish.j5 k x0 x1 x12 x15 4 x796000 x796001 x796002)) else (florinlaw07_EvalEnglish.j5 k x0 x1 x12 x15 4 x796000 x796001 x796002))) else (florinlaw07_EvalEnglish.j5 k x0 x1 x12 x15 5 x796000 x796001 x796002)) else (none))
def florinlaw07_EvalEnglish.j5:Nat→Int→Int→List (S41)→List (S41)→Int→ByteArray→ByteArray→Int→Option (Bool)
 | 0,_,_,_,_,_,_,_,_=>none
 | k+1,x0,x1,x12,x15,x18,x796000,x796001,x796002=>(eval_Pick.f k x12 x796000 x796001 x796002).bind fun t812=>(if t812=x18 then (if x1=0 then (if x0<3 then ((some (([0,1,2]:List Int):List Int)).bind fun y813=>(if 0≤x0 then (if x0<(y813.length:Int) then ((eval_Pick.f k x15 x796000 x796001 x796002).bind fun t817=>(some (t817==(rd y813 x0)))) else (none)) else (none))) else (if (Int.tmod x0 100)≥3 then (florinlaw07_EvalEnglish.j6 k x0 x15 5 (decide ((Int.tmod x0 100)≤10)) x796000 x796001 x796002) else (florinlaw07_EvalEnglish.j6 k x0 x15 5 false x796000 x796001 x796002))) else ((eval_Pick.f k x15 x796000 x796001 x796002).bind fun t821=>(some (t821==5)))) else (none))
def florinlaw07_EvalEnglish.j6:Nat→Int→List (S41)→Int→Bool→ByteArray→ByteArray→Int→Option (Bool)
 | 0,_,_,_,_,_,_,_=>none
 | k+1,x0,x15,x18,x144,x796000,x796001,x796002=>if x144=true then ((eval_Pick.f k x15 x796000 x796001 x796002).bind fun t818=>(some (t818==3))) else (if (Int.tmod x0 100)≥11 then ((eval_Pick.f k x15 x796000 x796001 x796002).bind fun t819=>(some (t819==4))) else ((eval_Pick.f k x15 x796000 x796001 x796002).bind fun t820=>(some (t820==x18))))
end
def florinlaw07_EvalEnglish.f (k:Nat) (a0:Int) (a1:Int) (a2:Int):Option (Bool):=(florinlaw07_head.f k).bind fun t769=>(if t769=true then ((some (([1,10,100]:List Int):List Int)).bind fun y770=>(if 0≤(Int.tmod (Go.bits .and .i64 a2 3) 3) then (if (Int.tmod (Go.bits .and .i64 a2 3) 3)<(y770.length:Int) then (if (rd y770 (Int.tmod (Go.bits .and .i64 a2 3) 3))=0 then (none) else ((some (([]:List Int):List Int)).bind fun y774=>(if (Int.tmod (Go.bits .and .i64 a2 3) 3)=1 then (if y774.length<140737488355328 then (florinlaw07_EvalEnglish.j0 k (Go.bits .and .i64 a0 1023) (Int.tmod (Go.bits .and .i64 a1 1023) (rd y770 (Int.tmod (Go.bits .and .i64 a2 3) 3))) (Int.tmod (Go.bits .and .i64 a2 3) 3) (y774++[(Int.tmod (Go.bits .and .i64 a1 1023) (rd y770 (Int.tmod (Go.bits .and .i64 a2 3) 3)))%256])) else (none)) else (florinlaw07_EvalEnglish.j0 k (Go.bits .and .i64 a0 1023) (Int.tmod (Go.bits .and .i64 a1 1023) (rd y770 (Int.tmod (Go.bits .and .i64 a2 3) 3))) (Int.tmod (Go.bits .and .i64 a2 3) 3) y774)))) else (none)) else (none))) else (none))
set_option maxHeartbeats 64000000 in
set_option maxRecDepth 100000 in
theorem florinlaw07_EvalEnglish.calls (k:Nat) (a0:Int) (a1:Int) (a2:Int) (r:Bool) (w:World) (h:florinlaw07_EvalEnglish.f k a0 a1 a2=some r) :
  Calls Tryz.prog 5 #[.int .i64 a0,.int .i64 a1,.int .i64 a2] w fun e w'=>e= .returned (.bool r)∧Below w.heap.size w w':=by
 have hu27:=Tryz.underlying27
 have HB:=Aside0.mk (Below.refl w.heap.size w)
 have H:((florinlaw07_head.f k).bind fun t769=>(if t769=true then ((some (([1,10,100]:List Int):List Int)).bind fun y770=>(if 0≤(Int.tmod (Go.bits .and .i64 a2 3) 3) then (if (Int.tmod (Go.bits .and .i64 a2 3) 3)<(y770.length:Int) then (if (rd y770 (Int.tmod (Go.bits .and .i64 a2 3) 3))=0 then (none) else ((some (([]:List Int):List Int)).bind fun y774=>(if (Int.tmod (Go.bits .and .i64 a2 3) 3)=1 then (if y774.length<140737488355328 then (florinlaw07_EvalEnglish.j0 k (Go.bits .and .i64 a0 1023) (Int.tmod (Go.bits .and .i64 a1 1023) (rd y770 (Int.tmod (Go.bits .and .i64 a2 3) 3))) (Int.tmod (Go.bits .and .i64 a2 3) 3) (y774++[(Int.tmod (Go.bits .and .i64 a1 1023) (rd y770 (Int.tmod (Go.bits .and .i64 a2 3) 3)))%256])) else (none)) else (florinlaw07_EvalEnglish.j0 k (Go.bits .and .i64 a0 1023) (Int.tmod (Go.bits .and .i64 a1 1023) (rd y770 (Int.tmod (Go.bits .and .i64 a2 3) 3))) (Int.tmod (Go.bits .and .i64 a2 3) 3) y774)))) else (none)) else (none))) else (none)))=some r:=h
 clear h
 replace H:=Option.bind_eq_some_iff.mp H
 obtain⟨t769,A40,H⟩:=H
 have A4:=Aside0.mk A40
 clear A40
 by_cases c5:t769=true
 ·subst c5
  have H1:((some (([1,10,100]:List Int):List Int)).bind fun y770=>(if 0≤(Int.tmod (Go.bits .and .i64 a2 3) 3) then (if (Int.tmod (Go.bits .and .i64 a2 3) 3)<(y770.length:Int) then (if (rd y770 (Int.tmod (Go.bits .and .i64 a2 3) 3))=0 then (none) else ((some (([]:List Int):List Int)).bind fun y774=>(if (Int.tmod (Go.bits .and .i64 a2 3) 3)=1 then (if y774.length<140737488355328 then (florinlaw07_EvalEnglish.j0 k (Go.bits .and .i64 a0 1023) (Int.tmod (Go.bits .and .i64 a1 1023) (rd y770 (Int.tmod (Go.bits .and .i64 a2 3) 3))) (Int.tmod (Go.bits .and .i64 a2 3) 3) (y774++[(Int.tmod (Go.bits .and .i64 a1 1023) (rd y770 (Int.tmod (Go.bits .and .i64 a2 3) 3)))%256])) else (none)) else (florinlaw07_EvalEnglish.j0 k (Go.bits .and .i64 a0 1023) (Int.tmod (Go.bits .and .i64 a1 1023) (rd y770 (Int.tmod (Go.bits .and .i64 a2 3) 3))) (Int.tmod (Go.bits .and .i64 a2 3) 3) y774)))) else (none)) else (none)))=some r:=by rw[if_pos rfl] at H;exact H
  clear H
  have H:=H1
  clear H1
  obtain⟨y770,hy770⟩:∃y_:List Int,y_=(([1,10,100]:List Int)):=⟨_,rfl⟩
  replace H:(if 0≤(Int.tmod (Go.bits .and .i64 a2 3) 3) then (if (Int.tmod (Go.bits .and .i64 a2 3) 3)<(y770.length:Int) then (if (rd y770 (Int.tmod (Go.bits .and .i64 a2 3) 3))=0 then (none) else ((some (([]:List Int):List Int)).bind fun y774=>(if (Int.tmod (Go.bits .and .i64 a2 3) 3)=1 then (if y774.length<140737488355328 then (florinlaw07_EvalEnglish.j0 k (Go.bits .and .i64 a0 1023) (Int.tmod (Go.bits .and .i64 a1 1023) (rd y770 (Int.tmod (Go.bits .and .i64 a2 3) 3))) (Int.tmod (Go.bits .and .i64 a2 3) 3) (y774++[(Int.tmod (Go.bits .and .i64 a1 1023) (rd y770 (Int.tmod (Go.bits .and .i64 a2 3) 3)))%256])) else (none)) else (florinlaw07_EvalEnglish.j0 k (Go.bits .and .i64 a0 1023) (Int.tmod (Go.bits .and .i64 a1 1023) (rd y770 (Int.tmod (Go.bits .and .i64 a2 3) 3))) (Int.tmod (Go.bits .and .i64 a2 3) 3) y774)))) else (none)) else (none))=some r:=by first|(rw[hy770];with_reducible exact H)|(have H2_:=(Option.bind_some _ _).symm.trans H;rw[hy770];with_reducible exact H2_)|(have H2_:=(Option.bind_some _ _).symm.trans H;with_reducible exact H2_)|with_reducible exact H|(rw[hy770];exact H)|exact H
  have Ny770:=Aside0.mk hy770
  clear hy770
  obtain⟨ji6,hji6⟩:∃j_:Int,(Int.tmod (Go.bits .and .i64 a2 3) 3)=j_:=⟨_,rfl⟩
  replace H:(if 0≤(ji6) then (if (ji6)<(y770.length:Int) then (if (rd y770 (ji6))=0 then (none) else ((some (([]:List Int):List Int)).bind fun y774=>(if (ji6)=1 then (if y774.length<140737488355328 then (florinlaw07_EvalEnglish.j0 k (Go.bits .and .i64 a0 1023) (Int.tmod (Go.bits .and .i64 a1 1023) (rd y770 (ji6))) ji6 (y774++[(Int.tmod (Go.bits .and .i64 a1 1023) (rd y770 (ji6)))%256])) else (none)) else (florinlaw07_EvalEnglish.j0 k (Go.bits .and .i64 a0 1023) (Int.tmod (Go.bits .and .i64 a1 1023) (rd y770 (ji6))) ji6 y774)))) else (none)) else (none))=some r:=by first|(rw[hji6] at H;exact H)|(simp only[hji6] at H ⊢;exact H)
  (try rw[hji6] at A4)
  replace H:=ifn_ H
  obtain⟨c7,H⟩:=H
  have c7b0:decide (0≤(ji6))=true:=decide_eq_true c7
  clear c7
  replace H:=ifn_ H
  obtain⟨c8,H⟩:=H
  have c8b0:decide ((ji6)<(y770.length:Int))=true:=decide_eq_true c8
  clear c8
  replace H:=ifp_ H
  obtain⟨c9,H⟩:=H
  have c9b0:((rd y770 (ji6))==0)=false:=beq_eq_false_iff_ne.mpr c9
  have c9b1:((rd y770 (ji6)) !=0)=true:=bne_iff_ne.mpr c9
  obtain⟨y774,hy774⟩:∃y_:List Int,y_=(([]:List Int)):=⟨_,rfl⟩
  replace H:(if (ji6)=1 then (if y774.length<140737488355328 then (florinlaw07_EvalEnglish.j0 k (Go.bits .and .i64 a0 1023) (Int.tmod (Go.bits .and .i64 a1 1023) (rd y770 (ji6))) ji6 (y774++[(Int.tmod (Go.bits .and .i64 a1 1023) (rd y770 (ji6)))%256])) else (none)) else (florinlaw07_EvalEnglish.j0 k (Go.bits .and .i64 a0 1023) (Int.tmod (Go.bits .and .i64 a1 1023) (rd y770 (ji6))) ji6 y774))=some r:=by first|(rw[hy774];with_reducible exact H)|(have H2_:=(Option.bind_some _ _).symm.trans H;rw[hy774];with_reducible exact H2_)|(have H2_:=(Option.bind_some _ _).symm.trans H;with_reducible exact H2_)|with_reducible exact H|(rw[hy774];exact H)|exact H
  have Ny774:=Aside0.mk hy774
  clear hy774
  have HC10:=Aside0.mk H
  clear H
  go_enter Tryz.func5,Tryz.ntmps5
  go_upto_if 35 with (first|((with_reducible refine gate_callee (f:=8) rfl ?_);refine gl_ (some 19) Tryz.func8 #[] ?_;(with_reducible refine(florinlaw07_head.calls _ _ _ A4.out).mono ?_);rintro e w11 ⟨rfl,hb⟩;refine⟨_,rfl,?_⟩;replace HB:=Aside0.mk (below_step (bl_ HB).out hb);(try clear hb);(try clear hi))|((with_reducible refine gate_dst (N:=28) rfl ?_);refine Kd.R_lit (Kd.int .i64) _ 3 ?hg (N:=28) ?hd (xs:=([1,10,100]:List Int)) (inner:=[.int .i64 1,.int .i64 10,.int .i64 100]) (ok:=fun _=>True) (okp:=fun _=>True) ?hr ?hp (fun _ hk=>hk) trivial (Below.refl _ _) (Nat.le_refl _) (by simp) ?_;(case hd=>rfl);(case hg=>rfl);(case hr=>first|(go_simp;done)|(go_simp;rfl));(case hp=>exact(Reps.one (show Kd.M (Kd.int .i64) _ _ _ 1 [.int .i64 1] from rfl) (Reps.one (show Kd.M (Kd.int .i64) _ _ _ 10 [.int .i64 10] from rfl) (Reps.one (show Kd.M (Kd.int .i64) _ _ _ 100 [.int .i64 100] from rfl) (Reps.none _ _)))));intro v771 w12 ho13 hb hg_ hnew_;clear hg_ hnew_;(first|rw[← Ny770.out] at ho13|(simp only[Int.reduceToNat] at ho13;rw[← Ny770.out] at ho13));have HO772:=Aside0.mk (Kd.R_lower ho13 (below_size (bl_ HB).out));replace HB:=Aside0.mk (below_step (bl_ HB).out hb);clear hb ho13;obtain⟨Ao14,co14,eo14⟩:=Kd.R_slice HO772.out;subst eo14;have p773:0≤((ji6):Int):=od_;have q773:(ji6)<(y770.length:Int):=od_;obtain⟨ad773,e773,hx773_0⟩:=Kd.at_int (Kd.R_reads' HO772.out).2.2 (ji6) p773 q773;cases e773;replace p773:=eq_true p773;replace q773:=eq_true q773)|((with_reducible refine gate_dst (N:=33) rfl ?_);refine Kd.R_lit (Kd.int .u8) _ 5 ?hg (N:=33) ?hd (xs:=([]:List Int)) (inner:=[]) (ok:=fun _=>True) (okp:=fun _=>True) ?hr ?hp (fun _ hk=>hk) trivial (Below.refl _ _) (Nat.le_refl _) (by simp) ?_;(case hd=>rfl);(case hg=>rfl);(case hr=>first|(go_simp;done)|(go_simp;rfl));(case hp=>exact(Reps.none _ _));intro v775 w15 ho16 hb hg_ hnew_;clear hg_ hnew_;(first|rw[← Ny774.out] at ho16|(simp only[Int.reduceToNat] at ho16;rw[← Ny774.out] at ho16));have HO776:=Aside0.mk (Kd.R_lower ho16 (below_size (bl_ HB).out));replace HO772:=kb_ HO772 hb;replace HB:=Aside0.mk (below_step (bl_ HB).out hb);clear hb ho16))
  (try simp only[Act.put,List.setIfInBounds_toArray,List.set_cons_zero,List.set_cons_succ])
  go_cut [7] (fun v7 wc=>∃(kq:Nat) (x7_9:List Int),Aside0 (florinlaw07_EvalEnglish.j0 kq (Go.bits .and .i64 a0 1023) (Int.tmod (Go.bits .and .i64 a1 1023) (rd y770 (ji6))) ji6 x7_9=some r)∧Aside0 (kq≤k)∧Aside0 (Kd.R (Kd.int .u8) 5 wc w.heap.size (fun _=>True) v7 x7_9)∧Aside0 (Below w.heap.size w wc))
  case first =>
   have H:=HC10.out
   clear HC10
   by_cases c17:(ji6)=1
   ·rw[if_pos c17] at H
    have c17b0:((ji6)==1)=true:=beq_iff_eq.mpr c17
    have c17b1:((ji6) !=1)=false:=bne_eq_false_iff_eq.mpr c17
    clear c17
    (first|rw[c17b0]|(simp only[i64_w,i32_w];rw[c17b0])|skip)
    replace H:=ifn_ H
    obtain⟨c18,H⟩:=H
    have LMc18:=Aside0.mk c18
    clear c18
    obtain⟨y777,hy777⟩:∃y_:List Int,y_=(y774++[(Int.tmod (Go.bits .and .i64 a1 1023) (rd y770 (ji6)))%256]):=⟨_,rfl⟩
    replace H:(florinlaw07_EvalEnglish.j0 k (Go.bits .and .i64 a0 1023) (Int.tmod (Go.bits .and .i64 a1 1023) (rd y770 (ji6))) ji6 y777)=some r:=by first|(rw[hy777];with_reducible exact H)|(have H2_:=(Option.bind_some _ _).symm.trans H;rw[hy777];with_reducible exact H2_)|(have H2_:=(Option.bind_some _ _).symm.trans H;with_reducible exact H2_)|with_reducible exact H|(rw[hy777];exact H)|exact H
    have Ny777:=Aside0.mk hy777
    clear hy777
    have H':=Aside0.mk H
    clear H
    go_wp2_with (first|((with_reducible refine gate_builtin (b:= .append) (xs:= #[.tmp 36,.tmp 39]) rfl ?_);at_builtin;refine Kd.R_append (Kd.int .u8) (w0:=w) w.heap.size rfl (.tmp 36) (.tmp 39) 23 5 (.int .u8 0) 1 rfl Tryz.underlying23 info5 rfl (by decide) (by omega) v775 y774 ((Int.tmod (Go.bits .and .i64 a1 1023) (rd y770 (ji6)))%256) [.int .u8 ((Int.tmod (Go.bits .and .i64 a1 1023) (rd y770 (ji6)))%256)] (fun _=>True) (fun _=>False) rfl rfl ?aP (fun _ hk=>hk.elim) ?aF ?aO ?aB ?aS ?aL ?_;(case aP=>exact rfl);(case aB=>exact(bl_ HB).out);(case aF=>exact(fun _ _=>trivial));(case aO=>exact(kr_ HO776));(case aS=>exact(below_size (bl_ HB).out));(case aL=>have:=LMc18.out;omega);intro v778 w19 ho hb hg hat;rw[← Ny777.out] at ho;have n0_:=Aside0.mk (Kd.R_over' (kr_ HO772) (Kd.R_typed (kr_ HO776)) (by decide) hg);have n1_:=Aside0.mk (hb);have n2_:=Aside0.mk (ho);clear HO772;clear HB;clear HO776;have HO772:=n0_;have HB:=n1_;have HO779:=n2_;clear n0_ n1_ n2_;clear ho hb hg hat))
    go_meet
    case rel=>first|(exact⟨_,(y777),H',⟨by first|omega|exact Nat.le_refl _⟩,⟨by (with_reducible repeat(first|apply Kd.R_alloc|apply Kd.R_drewN|apply Kd.R_drew));exact HO779.out⟩,(bl_ HB)⟩)|(rw[← hji6] at H';exact⟨_,(y777),H',⟨by first|omega|exact Nat.le_refl _⟩,⟨by (with_reducible repeat(first|apply Kd.R_alloc|apply Kd.R_drewN|apply Kd.R_drew));exact HO779.out⟩,(bl_ HB)⟩)
   ·rw[if_neg c17] at H
    have c17b0:((ji6)==1)=false:=beq_eq_false_iff_ne.mpr c17
    have c17b1:((ji6) !=1)=true:=bne_iff_ne.mpr c17
    (first|rw[c17b0]|(simp only[i64_w,i32_w];rw[c17b0])|skip)
    have H':=Aside0.mk H
    clear H
    go_wp2
    go_meet
    case rel=>first|(exact⟨_,(y774),H',⟨by first|omega|exact Nat.le_refl _⟩,⟨by (with_reducible repeat(first|apply Kd.R_alloc|apply Kd.R_drewN|apply Kd.R_drew));exact HO776.out⟩,(bl_ HB)⟩)|(rw[← hji6] at H';exact⟨_,(y774),H',⟨by first|omega|exact Nat.le_refl _⟩,⟨by (with_reducible repeat(first|apply Kd.R_alloc|apply Kd.R_drewN|apply Kd.R_drew));exact HO776.out⟩,(bl_ HB)⟩)
  case rest =>
   clear HC10
   obtain⟨kq,x7_9,HA,HJ9,HO_7,HB⟩:=hcut
   cases kq with
   | zero=>exact absurd HA.out (by simp[florinlaw07_EvalEnglish.j0])
   | succ kj9 =>
    have H:=HA.out
    clear HA
    simp only[florinlaw07_EvalEnglish.j0] at H
    have HC20:=Aside0.mk H
    clear H
    go_upto_if 42 with (fail)
    go_cut [7] (fun v7 wc=>∃(kq:Nat) (x7_19:List Int),Aside0 (florinlaw07_EvalEnglish.j1 kq (Go.bits .and .i64 a0 1023) (Int.tmod (Go.bits .and .i64 a1 1023) (rd y770 (ji6))) ji6 x7_19=some r)∧Aside0 (kq≤kj9)∧Aside0 (Kd.R (Kd.int .u8) 5 wc w.heap.size (fun _=>True) v7 x7_19)∧Aside0 (Below w.heap.size w wc))
    case first =>
     have H:=HC20.out
     clear HC20
     by_cases c21:ji6=2
     ·rw[if_pos c21] at H
      have c21b0:(ji6==2)=true:=beq_iff_eq.mpr c21
      have c21b1:(ji6 !=2)=false:=bne_eq_false_iff_eq.mpr c21
      clear c21
      (first|rw[c21b0]|(simp only[i64_w,i32_w];rw[c21b0])|skip)
      obtain⟨y780,hy780⟩:∃y_:List Int,y_=(([(wrap64 (Int.tdiv (Int.tmod (Go.bits .and .i64 a1 1023) (rd y770 (ji6))) 10))%256,(Int.tmod (Int.tmod (Go.bits .and .i64 a1 1023) (rd y770 (ji6))) 10)%256]:List Int)):=⟨_,rfl⟩
      replace H:(if x7_9.length+y780.length<140737488355328 then (florinlaw07_EvalEnglish.j1 kj9 (Go.bits .and .i64 a0 1023) (Int.tmod (Go.bits .and .i64 a1 1023) (rd y770 (ji6))) ji6 (x7_9++y780)) else (none))=some r:=by first|(rw[hy780];with_reducible exact H)|(have H2_:=(Option.bind_some _ _).symm.trans H;rw[hy780];with_reducible exact H2_)|(have H2_:=(Option.bind_some _ _).symm.trans H;with_reducible exact H2_)|with_reducible exact H|(rw[hy780];exact H)|exact H
      have Ny780:=Aside0.mk hy780
      clear hy780
      replace H:=ifn_ H
      obtain⟨c22,H⟩:=H
      have LMc22:=Aside0.mk c22
      clear c22
      obtain⟨y783,hy783⟩:∃y_:List Int,y_=(x7_9++y780):=⟨_,rfl⟩
      replace H:(florinlaw07_EvalEnglish.j1 kj9 (Go.bits .and .i64 a0 1023) (Int.tmod (Go.bits .and .i64 a1 1023) (rd y770 (ji6))) ji6 y783)=some r:=by first|(rw[hy783];with_reducible exact H)|(have H2_:=(Option.bind_some _ _).symm.trans H;rw[hy783];with_reducible exact H2_)|(have H2_:=(Option.bind_some _ _).symm.trans H;with_reducible exact H2_)|with_reducible exact H|(rw[hy783];exact H)|exact H
      have Ny783:=Aside0.mk hy783
      clear hy783
      have H':=Aside0.mk H
      clear H
      go_wp2_with (first|((with_reducible refine gate_dst (N:=50) rfl ?_);refine Kd.R_lit (Kd.int .u8) _ 5 ?hg (N:=50) ?hd (xs:=([(wrap64 (Int.tdiv (Int.tmod (Go.bits .and .i64 a1 1023) (rd y770 (ji6))) 10))%256,(Int.tmod (Int.tmod (Go.bits .and .i64 a1 1023) (rd y770 (ji6))) 10)%256]:List Int)) (inner:=[.int .u8 ((wrap64 (Int.tdiv (Int.tmod (Go.bits .and .i64 a1 1023) (rd y770 (ji6))) 10))%256),.int .u8 ((Int.tmod (Int.tmod (Go.bits .and .i64 a1 1023) (rd y770 (ji6))) 10)%256)]) (ok:=fun _=>True) (okp:=fun _=>True) ?hr ?hp (fun _ hk=>hk) trivial (Below.refl _ _) (Nat.le_refl _) (by simp) ?_;(case hd=>rfl);(case hg=>rfl);(case hr=>first|(go_simp;done)|(go_simp;rfl));(case hp=>exact(Reps.one (show Kd.M (Kd.int .u8) _ _ _ ((wrap64 (Int.tdiv (Int.tmod (Go.bits .and .i64 a1 1023) (rd y770 (ji6))) 10))%256) [.int .u8 ((wrap64 (Int.tdiv (Int.tmod (Go.bits .and .i64 a1 1023) (rd y770 (ji6))) 10))%256)] from rfl) (Reps.one (show Kd.M (Kd.int .u8) _ _ _ ((Int.tmod (Int.tmod (Go.bits .and .i64 a1 1023) (rd y770 (ji6))) 10)%256) [.int .u8 ((Int.tmod (Int.tmod (Go.bits .and .i64 a1 1023) (rd y770 (ji6))) 10)%256)] from rfl) (Reps.none _ _))));intro v781 w23 ho24 hb hg_ hnew_;clear hg_ hnew_;(first|rw[← Ny780.out] at ho24|(simp only[Int.reduceToNat] at ho24;rw[← Ny780.out] at ho24));have HO782:=Aside0.mk (Kd.R_lower (Kd.R_new' ho24 (kx_ HO_7)) (below_size (bl_ HB).out));replace HO_7:=ke_ HO_7 ho24 hb;replace HB:=Aside0.mk (below_step (bl_ HB).out hb);clear hb ho24;obtain⟨Ao26,co26,eo26⟩:=Kd.R_slice HO782.out;subst eo26)|((with_reducible refine gate_builtin (b:= .append) (xs:= #[.tmp 43,.tmp 50]) rfl ?_);at_builtin;refine Kd.R_append_rows (Kd.int .u8) (w0:=w) w.heap.size rfl (.tmp 43) (.tmp 50) 23 5 (.int .u8 0) 1 rfl Tryz.underlying23 info5 rfl (by decide) (by omega) u7 x7_9 y780 _ _ _ (fun k_=>some k_≠(.slice Ao26 y780.length co26:Value).ownBlock) (fun _=>False) rfl rfl ?aO ?aR (fun _ _ h=>h) (fun _ h=>h.elim) ?aF ?aB ?aS ?aL ?_;(case aR=>repeat(first|exact(Kd.R_reads' HO782.out).2.2|(with_reducible refine Kd.C_alloc ?_ _)|(with_reducible refine Kd.C_drewN ?_ _)|(with_reducible refine Kd.C_drew ?_)));(case aB=>exact(bl_ HB).out);(case aF=>exact(fun k_ hk=>Kd.fresh' (kx_ HO782) k_ hk));(case aO=>exact(by (with_reducible repeat(first|apply Kd.R_alloc|apply Kd.R_drewN|apply Kd.R_drew));exact Kd.R_mono HO_7.out (fun _ hk=>hk.2)));(case aS=>exact(below_size (bl_ HB).out));(case aL=>have:=LMc22.out;omega);intro v784 w25 ho hb hg hat;rw[← Ny783.out] at ho;have n0_:=Aside0.mk (Kd.R_after (ok:=(fun _=>True)) (kr_ HO782) hg hat);have n1_:=Aside0.mk (hb);have n2_:=Aside0.mk (ho);clear HO782;clear HB;clear HO_7;have HO782:=n0_;have HB:=n1_;have HO785:=n2_;clear n0_ n1_ n2_;clear ho hb hg hat))
      go_meet
      case rel=>first|(exact⟨_,(y783),(by first|exact H'|(rw[hji6];exact H')|(simp only[hji6];exact H')),⟨by have:=HJ9.out;first|omega|exact Nat.le_refl _⟩,⟨by (with_reducible repeat(first|apply Kd.R_alloc|apply Kd.R_drewN|apply Kd.R_drew));exact Kd.R_mono HO785.out (fun _ hk=>trivial)⟩,(bl_ HB)⟩)|(rw[← hji6] at H';exact⟨_,(y783),(by first|exact H'|(rw[hji6];exact H')|(simp only[hji6];exact H')),⟨by have:=HJ9.out;first|omega|exact Nat.le_refl _⟩,⟨by (with_reducible repeat(first|apply Kd.R_alloc|apply Kd.R_drewN|apply Kd.R_drew));exact Kd.R_mono HO785.out (fun _ hk=>trivial)⟩,(bl_ HB)⟩)
     ·rw[if_neg c21] at H
      have c21b0:(ji6==2)=false:=beq_eq_false_iff_ne.mpr c21
      have c21b1:(ji6 !=2)=true:=bne_iff_ne.mpr c21
      (first|rw[c21b0]|(simp only[i64_w,i32_w];rw[c21b0])|skip)
      have H':=Aside0.mk H
      clear H
      go_wp2
      go_meet
      case rel=>first|(exact⟨_,(x7_9),(by first|exact H'|(rw[hji6];exact H')|(simp only[hji6];exact H')),⟨by have:=HJ9.out;first|omega|exact Nat.le_refl _⟩,⟨by (with_reducible repeat(first|apply Kd.R_alloc|apply Kd.R_drewN|apply Kd.R_drew));exact HO_7.out⟩,(bl_ HB)⟩)|(rw[← hji6] at H';exact⟨_,(x7_9),(by first|exact H'|(rw[hji6];exact H')|(simp only[hji6];exact H')),⟨by have:=HJ9.out;first|omega|exact Nat.le_refl _⟩,⟨by (with_reducible repeat(first|apply Kd.R_alloc|apply Kd.R_drewN|apply Kd.R_drew));exact HO_7.out⟩,(bl_ HB)⟩)
    case rest =>
     clear HC20
     obtain⟨kq,x7_19,HA,HJ19,HO_7,HB⟩:=hcut
     cases kq with
     | zero=>exact absurd HA.out (by simp[florinlaw07_EvalEnglish.j1])
     | succ kj19 =>
      have H:=HA.out
      clear HA
      simp only[florinlaw07_EvalEnglish.j1] at H
      obtain⟨y786,hy786⟩:∃y_:List Int,y_=(([(wrap64 (Int.tdiv (Go.bits .and .i64 a0 1023) 1000))%256,(Int.tmod (wrap64 (Int.tdiv (Go.bits .and .i64 a0 1023) 100)) 10)%256,(Int.tmod (wrap64 (Int.tdiv (Go.bits .and .i64 a0 1023) 10)) 10)%256,(Int.tmod (Go.bits .and .i64 a0 1023) 10)%256]:List Int)):=⟨_,rfl⟩
      replace H:((florinlaw05_Shown.f kj19 y786 x7_19).bind fun bt789=>((operand_Of.f kj19 bt789.1 bt789.2.1 bt789.2.2 0).bind fun bt792=>((rule_Parse.f kj19 (⟨#[111,110,101,58,32,105,32,61,32,49,32,97,110,100,32,118,32,61,32,48]⟩:ByteArray)).bind fun bt796=>((rule_Parse.f kj19 (⟨#[111,110,101,58,32,105,32,61,32,49,32,97,110,100,32,118,32,61,32,48,59,32,102,101,119,58,32,118,32,61,32,48,32,97,110,100,32,105,32,37,32,49,48,32,61,32,50,46,46,52,32,97,110,100,32,105,32,37,32,49,48,48,32,33,61,32,49,50,46,46,49,52,59,32,109,97,110,121,58,32,118,32,61,32,48,32,97,110,100,32,105,32,33,61,32,49,32,97,110,100,32,105,32,37,32,49,48,32,61,32,48,46,46,49,32,111,114,32,118,32,61,32,48,32,97,110,100,32,105,32,37,32,49,48,32,61,32,53,46,46,57,32,111,114,32,118,32,61,32,48,32,97,110,100,32,105,32,37,32,49,48,48,32,61,32,49,50,46,46,49,52]⟩:ByteArray)).bind fun bt801=>((rule_Parse.f kj19 (⟨#[122,101,114,111,58,32,110,32,61,32,48,59,32,111,110,101,58,32,110,32,61,32,49,59,32,116,119,111,58,32,110,32,61,32,50,59,32,102,101,119,58,32,110,32,37,32,49,48,48,32,61,32,51,46,46,49,48,59,32,109,97,110,121,58,32,110,32,37,32,49,48,48,32,61,32,49,49,46,46,57,57]⟩:ByteArray)).bind fun bt806=>(if bt796.2.1=0 then (if bt801.2.1=0 then (florinlaw07_EvalEnglish.j2 kj19 (Go.bits .and .i64 a0 1023) (Int.tmod (Go.bits .and .i64 a1 1023) (rd y770 (ji6))) ji6 bt796.1 bt801.1 bt806.1 (bt806.2.1 !=0) bt792.1 bt792.2.1 bt792.2.2) else (none)) else (none)))))))=some r:=by first|(rw[hy786];with_reducible exact H)|(have H2_:=(Option.bind_some _ _).symm.trans H;rw[hy786];with_reducible exact H2_)|(have H2_:=(Option.bind_some _ _).symm.trans H;with_reducible exact H2_)|with_reducible exact H|(rw[hy786];exact H)|exact H
      have Ny786:=Aside0.mk hy786
      clear hy786
      replace H:=Option.bind_eq_some_iff.mp H
      obtain⟨⟨t789,t790,t791⟩,A270,H⟩:=H
      dsimp only at H
      have A27:=Aside0.mk A270
      clear A270
      replace H:=Option.bind_eq_some_iff.mp H
      obtain⟨⟨t792,t793,t794⟩,A280,H⟩:=H
      dsimp only at H
      have A28:=Aside0.mk A280
      clear A280
      replace H:=Option.bind_eq_some_iff.mp H
      obtain⟨⟨t796,t799,t800⟩,A290,H⟩:=H
      dsimp only at H
      have A29:=Aside0.mk A290
      clear A290
      replace H:=Option.bind_eq_some_iff.mp H
      obtain⟨⟨t801,t804,t805⟩,A300,H⟩:=H
      dsimp only at H
      have A30:=Aside0.mk A300
      clear A300
      replace H:=Option.bind_eq_some_iff.mp H
      obtain⟨⟨t806,t809,t810⟩,A310,H⟩:=H
      dsimp only at H
      have A31:=Aside0.mk A310
      clear A310
      have HC32:=Aside0.mk H
      clear H
      go_upto_region 15 with (first|((with_reducible refine gate_dst (N:=66) rfl ?_);refine Kd.R_lit (Kd.int .u8) _ 5 ?hg (N:=66) ?hd (xs:=([(wrap64 (Int.tdiv (Go.bits .and .i64 a0 1023) 1000))%256,(Int.tmod (wrap64 (Int.tdiv (Go.bits .and .i64 a0 1023) 100)) 10)%256,(Int.tmod (wrap64 (Int.tdiv (Go.bits .and .i64 a0 1023) 10)) 10)%256,(Int.tmod (Go.bits .and .i64 a0 1023) 10)%256]:List Int)) (inner:=[.int .u8 ((wrap64 (Int.tdiv (Go.bits .and .i64 a0 1023) 1000))%256),.int .u8 ((Int.tmod (wrap64 (Int.tdiv (Go.bits .and .i64 a0 1023) 100)) 10)%256),.int .u8 ((Int.tmod (wrap64 (Int.tdiv (Go.bits .and .i64 a0 1023) 10)) 10)%256),.int .u8 ((Int.tmod (Go.bits .and .i64 a0 1023) 10)%256)]) (ok:=fun _=>True) (okp:=fun _=>True) ?hr ?hp (fun _ hk=>hk) trivial (Below.refl _ _) (Nat.le_refl _) (by simp) ?_;(case hd=>rfl);(case hg=>rfl);(case hr=>first|(go_simp;done)|(go_simp;rfl));(case hp=>exact(Reps.one (show Kd.M (Kd.int .u8) _ _ _ ((wrap64 (Int.tdiv (Go.bits .and .i64 a0 1023) 1000))%256) [.int .u8 ((wrap64 (Int.tdiv (Go.bits .and .i64 a0 1023) 1000))%256)] from rfl) (Reps.one (show Kd.M (Kd.int .u8) _ _ _ ((Int.tmod (wrap64 (Int.tdiv (Go.bits .and .i64 a0 1023) 100)) 10)%256) [.int .u8 ((Int.tmod (wrap64 (Int.tdiv (Go.bits .and .i64 a0 1023) 100)) 10)%256)] from rfl) (Reps.one (show Kd.M (Kd.int .u8) _ _ _ ((Int.tmod (wrap64 (Int.tdiv (Go.bits .and .i64 a0 1023) 10)) 10)%256) [.int .u8 ((Int.tmod (wrap64 (Int.tdiv (Go.bits .and .i64 a0 1023) 10)) 10)%256)] from rfl) (Reps.one (show Kd.M (Kd.int .u8) _ _ _ ((Int.tmod (Go.bits .and .i64 a0 1023) 10)%256) [.int .u8 ((Int.tmod (Go.bits .and .i64 a0 1023) 10)%256)] from rfl) (Reps.none _ _))))));intro v787 w33 ho34 hb hg_ hnew_;clear hg_ hnew_;(first|rw[← Ny786.out] at ho34|(simp only[Int.reduceToNat] at ho34;rw[← Ny786.out] at ho34));have HO788:=Aside0.mk (Kd.R_lower (Kd.R_new' ho34 (kx_ HO_7)) (below_size (bl_ HB).out));replace HO_7:=ke_ HO_7 ho34 hb;replace HB:=Aside0.mk (below_step (bl_ HB).out hb);clear hb ho34;obtain⟨Ao35,co35,eo35⟩:=Kd.R_slice HO788.out;subst eo35;obtain⟨Ao36,co36,eo36⟩:=Kd.R_slice HO_7.out;subst eo36)|((with_reducible refine gate_callee (f:=11) rfl ?_);refine gl_ (some 68) Tryz.func11 #[.slice Ao35 y786.length co35,.slice Ao36 x7_19.length co36] ?_;(with_reducible refine(florinlaw05_Shown.calls _ _ _ _ _ _ _ _ _ _ _ ?side1 ?side2 ?side3 ?side4 A27.out).mono ?_);(case side1=>exact kc_ HO788);(case side2=>exact kl_ HO788);(case side3=>exact kc_ HO_7);(case side4=>exact kl_ HO_7);rintro e w37 ⟨rfl,hb⟩;refine⟨_,rfl,?_⟩;replace HO_7:=kb_ HO_7 hb;replace HO788:=kb_ HO788 hb;replace HB:=Aside0.mk (below_step (bl_ HB).out hb);(try clear hb);(try clear hi))|((with_reducible refine gate_callee (f:=10) rfl ?_);refine gl_ (some 69) Tryz.func10 #[.agg #[.bool t789,.string t790,.string t791],.int .i64 0] ?_;(with_reducible refine(operand_Of.calls _ _ _ _ _ _ _ _ _ A28.out).mono ?_);rintro e w38 ⟨rfl,hb⟩;refine⟨_,rfl,?_⟩;replace HO_7:=kb_ HO_7 hb;replace HO788:=kb_ HO788 hb;replace HB:=Aside0.mk (below_step (bl_ HB).out hb);(try clear hb);(try clear hi))|((with_reducible refine gate_dst (N:=8) rfl ?_);refine be_ 8 #[.string (⟨#[]⟩:ByteArray),.string (⟨#[]⟩:ByteArray),.int .i64 0] 27 ?_;intro gb795 hg w39 hbox hb;have BK795:=Aside0.mk (hbox);have GW795:=sz_ HB hg;have GE795:=sz_ HB hg;replace HO_7:=kb_ HO_7 hb;replace HO788:=kb_ HO788 hb;replace HB:=Aside0.mk (below_step (bl_ HB).out hb);clear hb hbox hg;obtain⟨hcz40_0,hcz40_1,hcz40_2,hfz40_0,hfz40_1,hfz40_2⟩:=bo3_ BK795)|((with_reducible refine gate_callee (f:=16) rfl ?_);refine gl_ (some 71) Tryz.func16 #[.string (⟨#[111,110,101,58,32,105,32,61,32,49,32,97,110,100,32,118,32,61,32,48]⟩:ByteArray)] ?_;(with_reducible refine(rule_Parse.calls _ _ _ _ _ _ A29.out).mono ?_);rintro e w41 ⟨v797,rfl,ho0,hb⟩;refine⟨_,rfl,?_⟩;have n0_:=Aside0.mk (Kd.R_below (by (with_reducible repeat(first|apply Kd.R_alloc|apply Kd.R_drewN|apply Kd.R_drew));exact(Kd.R_mono (Kd.R_far (Kd.R_far (Kd.R_far (Kd.R_types HO_7.out BK795.out (by decide)) (fun _ hk=>hk.2) _) (fun _ hk=>hk.2) _) (fun _ hk=>hk.2) _) (fun _ h_=>h_.1))) hb);have n1_:=Aside0.mk (Kd.R_below (by (with_reducible repeat(first|apply Kd.R_alloc|apply Kd.R_drewN|apply Kd.R_drew));exact(Kd.R_mono (Kd.R_far (Kd.R_far (Kd.R_far (Kd.R_types HO788.out BK795.out (by decide)) (fun _ hk=>hk.2) _) (fun _ hk=>hk.2) _) (fun _ hk=>hk.2) _) (fun _ h_=>h_.1))) hb);have n2_:=Aside0.mk (Kd.N_lower (Kd.N_mono (ok':=fun k_=>some k_≠(.slice Ao36 x7_19.length co36:Value).ownBlock∧some k_≠(.slice Ao35 y786.length co35:Value).ownBlock∧k_≠gb795) ho0 (fun k_ hk_=>⟨(Kd.fresh' (Kd.R_lt (by (with_reducible repeat(first|apply Kd.R_alloc|apply Kd.R_drewN|apply Kd.R_drew));exact(Kd.R_mono (Kd.R_far (Kd.R_far (Kd.R_far (Kd.R_types HO_7.out BK795.out (by decide)) (fun _ hk=>hk.2) _) (fun _ hk=>hk.2) _) (fun _ hk=>hk.2) _) (fun _ h_=>h_.1)))) k_ hk_),(Kd.fresh' (Kd.R_lt (by (with_reducible repeat(first|apply Kd.R_alloc|apply Kd.R_drewN|apply Kd.R_drew));exact(Kd.R_mono (Kd.R_far (Kd.R_far (Kd.R_far (Kd.R_types HO788.out BK795.out (by decide)) (fun _ hk=>hk.2) _) (fun _ hk=>hk.2) _) (fun _ hk=>hk.2) _) (fun _ h_=>h_.1)))) k_ hk_),(Kd.freshB (g:=gb795) (o:= .cells #[.string t792,.string t793,.int .i64 t794] 27 (0,0)) (by (with_reducible repeat(first|refine blk_drewN ?_ _|refine blk_drew ?_|refine blk_alloc ?_ _));refine blk_put (cs:= #[.string t792,.string t793,.int .i64 0]) ?_ 2 _ rfl;(with_reducible repeat(first|refine blk_drewN ?_ _|refine blk_drew ?_|refine blk_alloc ?_ _));refine blk_put (cs:= #[.string t792,.string (⟨#[]⟩:ByteArray),.int .i64 0]) ?_ 1 _ rfl;(with_reducible repeat(first|refine blk_drewN ?_ _|refine blk_drew ?_|refine blk_alloc ?_ _));refine blk_put (cs:= #[.string (⟨#[]⟩:ByteArray),.string (⟨#[]⟩:ByteArray),.int .i64 0]) ?_ 0 _ rfl;(with_reducible repeat(first|refine blk_drewN ?_ _|refine blk_drew ?_|refine blk_alloc ?_ _));exact BK795.out) k_ hk_)⟩)) (below_size (bl_ HB).out));have n3_:=Aside0.mk (blk_below (g:=gb795) (o:= .cells #[.string t792,.string t793,.int .i64 t794] 27 (0,0)) (by (with_reducible repeat(first|refine blk_drewN ?_ _|refine blk_drew ?_|refine blk_alloc ?_ _));refine blk_put (cs:= #[.string t792,.string t793,.int .i64 0]) ?_ 2 _ rfl;(with_reducible repeat(first|refine blk_drewN ?_ _|refine blk_drew ?_|refine blk_alloc ?_ _));refine blk_put (cs:= #[.string t792,.string (⟨#[]⟩:ByteArray),.int .i64 0]) ?_ 1 _ rfl;(with_reducible repeat(first|refine blk_drewN ?_ _|refine blk_drew ?_|refine blk_alloc ?_ _));refine blk_put (cs:= #[.string (⟨#[]⟩:ByteArray),.string (⟨#[]⟩:ByteArray),.int .i64 0]) ?_ 0 _ rfl;(with_reducible repeat(first|refine blk_drewN ?_ _|refine blk_drew ?_|refine blk_alloc ?_ _));exact BK795.out) hb);have n4_:=Aside0.mk (below_step (bl_ HB).out hb);clear HO_7;clear HO788;clear BK795;clear HB;have HO_7:=n0_;have HO788:=n1_;have HO798:=n2_;have BK795:=n3_;have HB:=n4_;clear n0_ n1_ n2_ n3_ n4_;(try clear hb);(try clear ho0))|((with_reducible refine gate_callee (f:=16) rfl ?_);refine gl_ (some 76) Tryz.func16 #[.string (⟨#[111,110,101,58,32,105,32,61,32,49,32,97,110,100,32,118,32,61,32,48,59,32,102,101,119,58,32,118,32,61,32,48,32,97,110,100,32,105,32,37,32,49,48,32,61,32,50,46,46,52,32,97,110,100,32,105,32,37,32,49,48,48,32,33,61,32,49,50,46,46,49,52,59,32,109,97,110,121,58,32,118,32,61,32,48,32,97,110,100,32,105,32,33,61,32,49,32,97,110,100,32,105,32,37,32,49,48,32,61,32,48,46,46,49,32,111,114,32,118,32,61,32,48,32,97,110,100,32,105,32,37,32,49,48,32,61,32,53,46,46,57,32,111,114,32,118,32,61,32,48,32,97,110,100,32,105,32,37,32,49,48,48,32,61,32,49,50,46,46,49,52]⟩:ByteArray)] ?_;(with_reducible refine(rule_Parse.calls _ _ _ _ _ _ A30.out).mono ?_);rintro e w42 ⟨v802,rfl,ho0,hb⟩;refine⟨_,rfl,?_⟩;have n0_:=kb_ HO_7 hb;have n1_:=kb_ HO788 hb;have n2_:=Aside0.mk (Kd.N_elder' (krN_ HO798) (Kd.N_base ho0) hb);have n3_:=Aside0.mk (Kd.N_lower (Kd.N_mono (ok':=fun k_=>some k_≠(.slice Ao36 x7_19.length co36:Value).ownBlock∧some k_≠(.slice Ao35 y786.length co35:Value).ownBlock∧some k_≠(v797:Value).ownBlock∧k_≠gb795) ho0 (fun k_ hk_=>⟨(Kd.fresh' (kx_ HO_7) k_ hk_),(Kd.fresh' (kx_ HO788) k_ hk_),(Kd.fresh' (Kd.N_lt (krN_ HO798)) k_ hk_),(Kd.freshB (bk_ BK795).out k_ hk_)⟩)) (below_size (bl_ HB).out));have n4_:=bb_ BK795 hb;have n5_:=Aside0.mk (below_step (bl_ HB).out hb);clear HO_7;clear HO788;clear HO798;clear BK795;clear HB;have HO_7:=n0_;have HO788:=n1_;have HO798:=n2_;have HO803:=n3_;have BK795:=n4_;have HB:=n5_;clear n0_ n1_ n2_ n3_ n4_ n5_;(try clear hb);(try clear ho0))|((with_reducible refine gate_callee (f:=16) rfl ?_);refine gl_ (some 81) Tryz.func16 #[.string (⟨#[122,101,114,111,58,32,110,32,61,32,48,59,32,111,110,101,58,32,110,32,61,32,49,59,32,116,119,111,58,32,110,32,61,32,50,59,32,102,101,119,58,32,110,32,37,32,49,48,48,32,61,32,51,46,46,49,48,59,32,109,97,110,121,58,32,110,32,37,32,49,48,48,32,61,32,49,49,46,46,57,57]⟩:ByteArray)] ?_;(with_reducible refine(rule_Parse.calls _ _ _ _ _ _ A31.out).mono ?_);rintro e w43 ⟨v807,rfl,ho0,hb⟩;refine⟨_,rfl,?_⟩;have n0_:=kb_ HO_7 hb;have n1_:=kb_ HO788 hb;have n2_:=Aside0.mk (Kd.N_elder' (krN_ HO798) (Kd.N_base ho0) hb);have n3_:=Aside0.mk (Kd.N_elder' (krN_ HO803) (Kd.N_base ho0) hb);have n4_:=Aside0.mk (Kd.N_lower (Kd.N_mono (ok':=fun k_=>some k_≠(.slice Ao36 x7_19.length co36:Value).ownBlock∧some k_≠(.slice Ao35 y786.length co35:Value).ownBlock∧some k_≠(v797:Value).ownBlock∧some k_≠(v802:Value).ownBlock∧k_≠gb795) ho0 (fun k_ hk_=>⟨(Kd.fresh' (kx_ HO_7) k_ hk_),(Kd.fresh' (kx_ HO788) k_ hk_),(Kd.fresh' (Kd.N_lt (krN_ HO798)) k_ hk_),(Kd.fresh' (Kd.N_lt (krN_ HO803)) k_ hk_),(Kd.freshB (bk_ BK795).out k_ hk_)⟩)) (below_size (bl_ HB).out));have n5_:=bb_ BK795 hb;have n6_:=Aside0.mk (below_step (bl_ HB).out hb);clear HO_7;clear HO788;clear HO798;clear HO803;clear BK795;clear HB;have HO_7:=n0_;have HO788:=n1_;have HO798:=n2_;have HO803:=n3_;have HO808:=n4_;have BK795:=n5_;have HB:=n6_;clear n0_ n1_ n2_ n3_ n4_ n5_ n6_;(try clear hb);(try clear ho0)))
      (try simp only[Act.put,List.setIfInBounds_toArray,List.set_cons_zero,List.set_cons_succ])
      go_cut [94] (fun v94 wc=>∃(kq:Nat) (x94_31:Bool),v94= .bool x94_31∧Aside0 (florinlaw07_EvalEnglish.j2 kq (Go.bits .and .i64 a0 1023) (Int.tmod (Go.bits .and .i64 a1 1023) (rd y770 (ji6))) ji6 t796 t801 t806 x94_31 t792 t793 t794=some r)∧Aside0 (kq≤kj19)∧Aside0 (Kd.N k41 41 wc w.heap.size (fun k_=>some k_≠(v802:Value).ownBlock∧some k_≠(v807:Value).ownBlock∧k_≠gb795) v797 t796)∧Aside0 (Kd.N k41 41 wc w.heap.size (fun k_=>some k_≠(v797:Value).ownBlock∧some k_≠(v807:Value).ownBlock∧k_≠gb795) v802 t801)∧Aside0 (Kd.N k41 41 wc w.heap.size (fun k_=>some k_≠(v797:Value).ownBlock∧some k_≠(v802:Value).ownBlock∧k_≠gb795) v807 t806)∧Aside0 (wc.heap[gb795]? = some (.cells #[.string t792,.string t793,.int .i64 t794] 27 (0,0)))∧Aside0 (Below w.heap.size w wc))
      case first =>
       have H:=HC32.out
       clear HC32
       replace H:=ifn_ H
       obtain⟨c44,H⟩:=H
       have c44b0:(t799==0)=true:=beq_iff_eq.mpr c44
       have c44b1:(t799 !=0)=false:=bne_eq_false_iff_eq.mpr c44
       clear c44
       (first|rw[c44b0]|(simp only[i64_w,i32_w];rw[c44b0])|skip)
       replace H:=ifn_ H
       obtain⟨c45,H⟩:=H
       have c45b0:(t804==0)=true:=beq_iff_eq.mpr c45
       have c45b1:(t804 !=0)=false:=bne_eq_false_iff_eq.mpr c45
       clear c45
       have H':=Aside0.mk H
       clear H
       go_wp2
       go_meet
       case rel=>first|(exact⟨_,((t809 !=0)),eq_,(by first|exact H'|(rw[hji6];exact H')|(simp only[hji6];exact H')),⟨by have:=HJ9.out;have:=HJ19.out;first|omega|exact Nat.le_refl _⟩,⟨by (with_reducible repeat(first|apply Kd.N_alloc|apply Kd.N_drewN|apply Kd.N_drew));exact Kd.N_mono HO798.out (fun _ hk=>⟨hk.1.2,⟨hk.2,hk.1.1.2.2⟩⟩)⟩,⟨by (with_reducible repeat(first|apply Kd.N_alloc|apply Kd.N_drewN|apply Kd.N_drew));exact Kd.N_mono HO803.out (fun _ hk=>⟨hk.1.2.2.1,⟨hk.2,hk.1.2.2.2⟩⟩)⟩,⟨by (with_reducible repeat(first|apply Kd.N_alloc|apply Kd.N_drewN|apply Kd.N_drew));exact Kd.N_mono HO808.out (fun _ hk=>⟨hk.2.2.1,⟨hk.2.2.2.1,hk.2.2.2.2⟩⟩)⟩,(bk_ BK795),(bl_ HB)⟩)|(rw[← hji6] at H';exact⟨_,((t809 !=0)),eq_,(by first|exact H'|(rw[hji6];exact H')|(simp only[hji6];exact H')),⟨by have:=HJ9.out;have:=HJ19.out;first|omega|exact Nat.le_refl _⟩,⟨by (with_reducible repeat(first|apply Kd.N_alloc|apply Kd.N_drewN|apply Kd.N_drew));exact Kd.N_mono HO798.out (fun _ hk=>⟨hk.1.2,⟨hk.2,hk.1.1.2.2⟩⟩)⟩,⟨by (with_reducible repeat(first|apply Kd.N_alloc|apply Kd.N_drewN|apply Kd.N_drew));exact Kd.N_mono HO803.out (fun _ hk=>⟨hk.1.2.2.1,⟨hk.2,hk.1.2.2.2⟩⟩)⟩,⟨by (with_reducible repeat(first|apply Kd.N_alloc|apply Kd.N_drewN|apply Kd.N_drew));exact Kd.N_mono HO808.out (fun _ hk=>⟨hk.2.2.1,⟨hk.2.2.2.1,hk.2.2.2.2⟩⟩)⟩,(bk_ BK795),(bl_ HB)⟩)
      case rest =>
       clear HC32
       obtain⟨kq,x94_31,rfl,HA,HJ31,HO_9,HO_12,HO_15,BK795,HB⟩:=hcut
       cases kq with
       | zero=>exact absurd HA.out (by simp[florinlaw07_EvalEnglish.j2])
       | succ kj31 =>
        have H:=HA.out
        clear HA
        simp only[florinlaw07_EvalEnglish.j2] at H
        by_cases c46:x94_31=true
        ·subst c46
         have H1:(none)=some r:=by rw[if_pos rfl] at H;exact H
         clear H
         have H:=H1
         clear H1
         exact absurd H (by simp)
        ·replace c46:=Bool.eq_false_iff.mpr c46
         subst c46
         have H1:(if (Go.bits .and .i64 a0 1023)=1 then (florinlaw07_EvalEnglish.j3 kj31 (Go.bits .and .i64 a0 1023) (Int.tmod (Go.bits .and .i64 a1 1023) (rd y770 (ji6))) ji6 t796 t801 t806 5 (ji6==0) t792 t793 t794) else (florinlaw07_EvalEnglish.j3 kj31 (Go.bits .and .i64 a0 1023) (Int.tmod (Go.bits .and .i64 a1 1023) (rd y770 (ji6))) ji6 t796 t801 t806 5 false t792 t793 t794))=some r:=by rw[if_neg (show ¬(false=true) by decide)] at H;exact H
         clear H
         have H:=H1
         clear H1
         have HC47:=Aside0.mk H
         clear H
         go_upto_region 18 with (fail)
         go_cut [100] (fun v100 wc=>∃(kq:Nat) (x100_46:Bool),v100= .bool x100_46∧Aside0 (florinlaw07_EvalEnglish.j3 kq (Go.bits .and .i64 a0 1023) (Int.tmod (Go.bits .and .i64 a1 1023) (rd y770 (ji6))) ji6 t796 t801 t806 5 x100_46 t792 t793 t794=some r)∧Aside0 (kq≤kj31)∧Aside0 (Kd.N k41 41 wc w.heap.size (fun k_=>some k_≠(v802:Value).ownBlock∧some k_≠(v807:Value).ownBlock∧k_≠gb795) v797 t796)∧Aside0 (Kd.N k41 41 wc w.heap.size (fun k_=>some k_≠(v797:Value).ownBlock∧some k_≠(v807:Value).ownBlock∧k_≠gb795) v802 t801)∧Aside0 (Kd.N k41 41 wc w.heap.size (fun k_=>some k_≠(v797:Value).ownBlock∧some k_≠(v802:Value).ownBlock∧k_≠gb795) v807 t806)∧Aside0 (wc.heap[gb795]? = some (.cells #[.string t792,.string t793,.int .i64 t794] 27 (0,0)))∧Aside0 (Below w.heap.size w wc))
         case first =>
          have H:=HC47.out
          clear HC47
          by_cases c48:(Go.bits .and .i64 a0 1023)=1
          ·rw[if_pos c48] at H
           have c48b0:((Go.bits .and .i64 a0 1023)==1)=true:=beq_iff_eq.mpr c48
           have c48b1:((Go.bits .and .i64 a0 1023) !=1)=false:=bne_eq_false_iff_eq.mpr c48
           clear c48
           (first|rw[c48b0]|(simp only[i64_w,i32_w];rw[c48b0])|skip)
           have H':=Aside0.mk H
           clear H
           go_wp2
           go_meet
           case rel=>first|(exact⟨_,((ji6==0)),(by first|rfl|(simp;done)|(simp only[← hji6] <;> (first|rfl|simp))|(simp[*];done)),(by first|exact H'|(rw[hji6];exact H')|(simp only[hji6];exact H')),⟨by have:=HJ9.out;have:=HJ19.out;have:=HJ31.out;first|omega|exact Nat.le_refl _⟩,⟨by (with_reducible repeat(first|apply Kd.N_alloc|apply Kd.N_drewN|apply Kd.N_drew));exact HO_9.out⟩,⟨by (with_reducible repeat(first|apply Kd.N_alloc|apply Kd.N_drewN|apply Kd.N_drew));exact HO_12.out⟩,⟨by (with_reducible repeat(first|apply Kd.N_alloc|apply Kd.N_drewN|apply Kd.N_drew));exact HO_15.out⟩,(bk_ BK795),(bl_ HB)⟩)|(rw[← hji6] at H';exact⟨_,((ji6==0)),(by first|rfl|(simp;done)|(simp only[← hji6] <;> (first|rfl|simp))|(simp[*];done)),(by first|exact H'|(rw[hji6];exact H')|(simp only[hji6];exact H')),⟨by have:=HJ9.out;have:=HJ19.out;have:=HJ31.out;first|omega|exact Nat.le_refl _⟩,⟨by (with_reducible repeat(first|apply Kd.N_alloc|apply Kd.N_drewN|apply Kd.N_drew));exact HO_9.out⟩,⟨by (with_reducible repeat(first|apply Kd.N_alloc|apply Kd.N_drewN|apply Kd.N_drew));exact HO_12.out⟩,⟨by (with_reducible repeat(first|apply Kd.N_alloc|apply Kd.N_drewN|apply Kd.N_drew));exact HO_15.out⟩,(bk_ BK795),(bl_ HB)⟩)
          ·rw[if_neg c48] at H
           have c48b0:((Go.bits .and .i64 a0 1023)==1)=false:=beq_eq_false_iff_ne.mpr c48
           have c48b1:((Go.bits .and .i64 a0 1023) !=1)=true:=bne_iff_ne.mpr c48
           (first|rw[c48b0]|(simp only[i64_w,i32_w];rw[c48b0])|skip)
           have H':=Aside0.mk H
           clear H
           go_wp2
           go_meet
           case rel=>first|(exact⟨_,(false),eq_,(by first|exact H'|(rw[hji6];exact H')|(simp only[hji6];exact H')),⟨by have:=HJ9.out;have:=HJ19.out;have:=HJ31.out;first|omega|exact Nat.le_refl _⟩,⟨by (with_reducible repeat(first|apply Kd.N_alloc|apply Kd.N_drewN|apply Kd.N_drew));exact HO_9.out⟩,⟨by (with_reducible repeat(first|apply Kd.N_alloc|apply Kd.N_drewN|apply Kd.N_drew));exact HO_12.out⟩,⟨by (with_reducible repeat(first|apply Kd.N_alloc|apply Kd.N_drewN|apply Kd.N_drew));exact HO_15.out⟩,(bk_ BK795),(bl_ HB)⟩)|(rw[← hji6] at H';exact⟨_,(false),eq_,(by first|exact H'|(rw[hji6];exact H')|(simp only[hji6];exact H')),⟨by have:=HJ9.out;have:=HJ19.out;have:=HJ31.out;first|omega|exact Nat.le_refl _⟩,⟨by (with_reducible repeat(first|apply Kd.N_alloc|apply Kd.N_drewN|apply Kd.N_drew));exact HO_9.out⟩,⟨by (with_reducible repeat(first|apply Kd.N_alloc|apply Kd.N_drewN|apply Kd.N_drew));exact HO_12.out⟩,⟨by (with_reducible repeat(first|apply Kd.N_alloc|apply Kd.N_drewN|apply Kd.N_drew));exact HO_15.out⟩,(bk_ BK795),(bl_ HB)⟩)
         case rest =>
          clear HC47
          obtain⟨kq,x100_46,rfl,HA,HJ46,HO_9,HO_12,HO_15,BK795,HB⟩:=hcut
          cases kq with
          | zero=>exact absurd HA.out (by simp[florinlaw07_EvalEnglish.j3])
          | succ kj46 =>
           have H:=HA.out
           clear HA
           simp only[florinlaw07_EvalEnglish.j3] at H
           have HC49:=Aside0.mk H
           clear H
           go_upto_if 100 with (fail)
           go_cut [18] (fun v18 wc=>∃(kq:Nat) (x18_48:Int),v18= .int .i64 x18_48∧Aside0 (florinlaw07_EvalEnglish.j4 kq (Go.bits .and .i64 a0 1023) (Int.tmod (Go.bits .and .i64 a1 1023) (rd y770 (ji6))) ji6 t796 t801 t806 x18_48 t792 t793 t794=some r)∧Aside0 (kq≤kj46)∧Aside0 (Kd.N k41 41 wc w.heap.size (fun k_=>some k_≠(v802:Value).ownBlock∧some k_≠(v807:Value).ownBlock∧k_≠gb795) v797 t796)∧Aside0 (Kd.N k41 41 wc w.heap.size (fun k_=>some k_≠(v797:Value).ownBlock∧some k_≠(v807:Value).ownBlock∧k_≠gb795) v802 t801)∧Aside0 (Kd.N k41 41 wc w.heap.size (fun k_=>some k_≠(v797:Value).ownBlock∧some k_≠(v802:Value).ownBlock∧k_≠gb795) v807 t806)∧Aside0 (wc.heap[gb795]? = some (.cells #[.string t792,.string t793,.int .i64 t794] 27 (0,0)))∧Aside0 (Below w.heap.size w wc))
           case first =>
            have H:=HC49.out
            clear HC49
            by_cases c50:x100_46=true
            ·subst c50
             have H1:(florinlaw07_EvalEnglish.j4 kj46 (Go.bits .and .i64 a0 1023) (Int.tmod (Go.bits .and .i64 a1 1023) (rd y770 (ji6))) ji6 t796 t801 t806 1 t792 t793 t794)=some r:=by rw[if_pos rfl] at H;exact H
             clear H
             have H:=H1
             clear H1
             have H':=Aside0.mk H
             clear H
             go_wp2
             go_meet
             case rel=>first|(exact⟨_,(1),eq_,(by first|exact H'|(rw[hji6];exact H')|(simp only[hji6];exact H')),⟨by have:=HJ9.out;have:=HJ19.out;have:=HJ31.out;have:=HJ46.out;first|omega|exact Nat.le_refl _⟩,⟨by (with_reducible repeat(first|apply Kd.N_alloc|apply Kd.N_drewN|apply Kd.N_drew));exact HO_9.out⟩,⟨by (with_reducible repeat(first|apply Kd.N_alloc|apply Kd.N_drewN|apply Kd.N_drew));exact HO_12.out⟩,⟨by (with_reducible repeat(first|apply Kd.N_alloc|apply Kd.N_drewN|apply Kd.N_drew));exact HO_15.out⟩,(bk_ BK795),(bl_ HB)⟩)|(rw[← hji6] at H';exact⟨_,(1),eq_,(by first|exact H'|(rw[hji6];exact H')|(simp only[hji6];exact H')),⟨by have:=HJ9.out;have:=HJ19.out;have:=HJ31.out;have:=HJ46.out;first|omega|exact Nat.le_refl _⟩,⟨by (with_reducible repeat(first|apply Kd.N_alloc|apply Kd.N_drewN|apply Kd.N_drew));exact HO_9.out⟩,⟨by (with_reducible repeat(first|apply Kd.N_alloc|apply Kd.N_drewN|apply Kd.N_drew));exact HO_12.out⟩,⟨by (with_reducible repeat(first|apply Kd.N_alloc|apply Kd.N_drewN|apply Kd.N_drew));exact HO_15.out⟩,(bk_ BK795),(bl_ HB)⟩)
            ·replace c50:=Bool.eq_false_iff.mpr c50
             subst c50
             have H1:(florinlaw07_EvalEnglish.j4 kj46 (Go.bits .and .i64 a0 1023) (Int.tmod (Go.bits .and .i64 a1 1023) (rd y770 (ji6))) ji6 t796 t801 t806 5 t792 t793 t794)=some r:=by rw[if_neg (show ¬(false=true) by decide)] at H;exact H
             clear H
             have H:=H1
             clear H1
             have H':=Aside0.mk H
             clear H
             go_wp2
             go_meet
             case rel=>first|(exact⟨_,(5),eq_,(by first|exact H'|(rw[hji6];exact H')|(simp only[hji6];exact H')),⟨by have:=HJ9.out;have:=HJ19.out;have:=HJ31.out;have:=HJ46.out;first|omega|exact Nat.le_refl _⟩,⟨by (with_reducible repeat(first|apply Kd.N_alloc|apply Kd.N_drewN|apply Kd.N_drew));exact HO_9.out⟩,⟨by (with_reducible repeat(first|apply Kd.N_alloc|apply Kd.N_drewN|apply Kd.N_drew));exact HO_12.out⟩,⟨by (with_reducible repeat(first|apply Kd.N_alloc|apply Kd.N_drewN|apply Kd.N_drew));exact HO_15.out⟩,(bk_ BK795),(bl_ HB)⟩)|(rw[← hji6] at H';exact⟨_,(5),eq_,(by first|exact H'|(rw[hji6];exact H')|(simp only[hji6];exact H')),⟨by have:=HJ9.out;have:=HJ19.out;have:=HJ31.out;have:=HJ46.out;first|omega|exact Nat.le_refl _⟩,⟨by (with_reducible repeat(first|apply Kd.N_alloc|apply Kd.N_drewN|apply Kd.N_drew));exact HO_9.out⟩,⟨by (with_reducible repeat(first|apply Kd.N_alloc|apply Kd.N_drewN|apply Kd.N_drew));exact HO_12.out⟩,⟨by (with_reducible repeat(first|apply Kd.N_alloc|apply Kd.N_drewN|apply Kd.N_drew));exact HO_15.out⟩,(bk_ BK795),(bl_ HB)⟩)
           case rest =>
            clear HC49
            obtain⟨kq,x18_48,rfl,HA,HJ48,HO_9,HO_12,HO_15,BK795,HB⟩:=hcut
            cases kq with
            | zero=>exact absurd HA.out (by simp[florinlaw07_EvalEnglish.j4])
            | succ kj48 =>
             have H:=HA.out
             clear HA
             simp only[florinlaw07_EvalEnglish.j4] at H
             replace H:=Option.bind_eq_some_iff.mp H
             obtain⟨t811,A510,H⟩:=H
             have A51:=Aside0.mk A510
             clear A510
             replace H:=ifn_ H
             obtain⟨c52,H⟩:=H
             have c52b0:(t811==x18_48)=true:=beq_iff_eq.mpr c52
             have c52b1:(t811 !=x18_48)=false:=bne_eq_false_iff_eq.mpr c52
             clear c52
             have HC53:=Aside0.mk H
             clear H
             obtain⟨hcz54_0,hcz54_1,hcz54_2,hfz54_0,hfz54_1,hfz54_2⟩:=bo3_ BK795
             obtain⟨Ao55,co55,eo55⟩:=Kd.N_slice HO_9.out
             subst eo55
             go_upto_if 107 with (first|((with_reducible refine gate_callee (f:=13) rfl ?_);refine gl_ (some 103) Tryz.func13 #[.slice Ao55 t796.length co55,.agg #[.string t792,.string t793,.int .i64 t794]] ?_;(with_reducible refine(eval_Pick.calls _ _ _ _ _ _ _ _ _ ?side1 ?side2 A51.out).mono ?_);(case side1=>repeat(first|exact(Kd.N_reads' HO_9.out).2.2|(with_reducible refine Kd.C_alloc ?_ _)|(with_reducible refine Kd.C_drewN ?_ _)|(with_reducible refine Kd.C_drew ?_)));(case side2=>exact(Kd.N_reads' HO_9.out).2.1);rintro e w56 ⟨rfl,hb⟩;refine⟨_,rfl,?_⟩;replace HO_9:=Aside0.mk (Kd.N_below (krN_ HO_9) hb);replace HO_12:=Aside0.mk (Kd.N_below (krN_ HO_12) hb);replace HO_15:=Aside0.mk (Kd.N_below (krN_ HO_15) hb);replace BK795:=bb_ BK795 hb;replace HB:=Aside0.mk (below_step (bl_ HB).out hb);(try clear hb);(try clear hi)))
             (try simp only[Act.put,List.setIfInBounds_toArray,List.set_cons_zero,List.set_cons_succ])
             go_cut [18] (fun v18 wc=>∃(kq:Nat) (x18_52:Int),v18= .int .i64 x18_52∧Aside0 (florinlaw07_EvalEnglish.j5 kq (Go.bits .and .i64 a0 1023) (Int.tmod (Go.bits .and .i64 a1 1023) (rd y770 (ji6))) t801 t806 x18_52 t792 t793 t794=some r)∧Aside0 (kq≤kj48)∧Aside0 (Kd.N k41 41 wc w.heap.size (fun k_=>some k_≠(v807:Value).ownBlock∧k_≠gb795) v802 t801)∧Aside0 (Kd.N k41 41 wc w.heap.size (fun k_=>some k_≠(v802:Value).ownBlock∧k_≠gb795) v807 t806)∧Aside0 (wc.heap[gb795]? = some (.cells #[.string t792,.string t793,.int .i64 t794] 27 (0,0)))∧Aside0 (Below w.heap.size w wc))
             case first =>
              have H:=HC53.out
              clear HC53
              by_cases c57:ji6=0
              ·rw[if_pos c57] at H
               have c57b0:(ji6==0)=true:=beq_iff_eq.mpr c57
               have c57b1:(ji6 !=0)=false:=bne_eq_false_iff_eq.mpr c57
               clear c57
               (first|rw[c57b0]|(simp only[i64_w,i32_w];rw[c57b0])|skip)
               by_cases c58:(Go.bits .and .i64 a0 1023)=1
               ·rw[if_pos c58] at H
                have c58b0:((Go.bits .and .i64 a0 1023)==1)=true:=beq_iff_eq.mpr c58
                have c58b1:((Go.bits .and .i64 a0 1023) !=1)=false:=bne_eq_false_iff_eq.mpr c58
                clear c58
                have H':=Aside0.mk H
                clear H
                go_wp2
                go_meet
                case rel=>first|(exact⟨_,(1),eq_,(by first|exact H'|(rw[hji6];exact H')|(simp only[hji6];exact H')),⟨by have:=HJ9.out;have:=HJ19.out;have:=HJ31.out;have:=HJ46.out;have:=HJ48.out;first|omega|exact Nat.le_refl _⟩,⟨by (with_reducible repeat(first|apply Kd.N_alloc|apply Kd.N_drewN|apply Kd.N_drew));exact Kd.N_mono HO_12.out (fun _ hk=>⟨hk.2.1,hk.2.2⟩)⟩,⟨by (with_reducible repeat(first|apply Kd.N_alloc|apply Kd.N_drewN|apply Kd.N_drew));exact Kd.N_mono HO_15.out (fun _ hk=>⟨hk.2.1,hk.2.2⟩)⟩,(bk_ BK795),(bl_ HB)⟩)|(rw[← hji6] at H';exact⟨_,(1),eq_,(by first|exact H'|(rw[hji6];exact H')|(simp only[hji6];exact H')),⟨by have:=HJ9.out;have:=HJ19.out;have:=HJ31.out;have:=HJ46.out;have:=HJ48.out;first|omega|exact Nat.le_refl _⟩,⟨by (with_reducible repeat(first|apply Kd.N_alloc|apply Kd.N_drewN|apply Kd.N_drew));exact Kd.N_mono HO_12.out (fun _ hk=>⟨hk.2.1,hk.2.2⟩)⟩,⟨by (with_reducible repeat(first|apply Kd.N_alloc|apply Kd.N_drewN|apply Kd.N_drew));exact Kd.N_mono HO_15.out (fun _ hk=>⟨hk.2.1,hk.2.2⟩)⟩,(bk_ BK795),(bl_ HB)⟩)
               ·rw[if_neg c58] at H
                have c58b0:((Go.bits .and .i64 a0 1023)==1)=false:=beq_eq_false_iff_ne.mpr c58
                have c58b1:((Go.bits .and .i64 a0 1023) !=1)=true:=bne_iff_ne.mpr c58
                by_cases c59:(Int.tmod (Go.bits .and .i64 a0 1023) 10)≥2
                ·rw[if_pos c59] at H
                 have c59b0:decide (2≤(Int.tmod (Go.bits .and .i64 a0 1023) 10))=true:=decide_eq_true c59
                 clear c59
                 by_cases c60:(Int.tmod (Go.bits .and .i64 a0 1023) 10)≤4
                 ·rw[if_pos c60] at H
                  have c60b0:=decide_eq_true c60
                  clear c60
                  by_cases c61:(Int.tmod (Go.bits .and .i64 a0 1023) 100)<12
                  ·rw[if_pos c61] at H
                   have c61b0:=decide_eq_true c61
                   clear c61
                   have H':=Aside0.mk H
                   clear H
                   go_wp2
                   go_meet
                   case rel=>first|(exact⟨_,(3),eq_,(by first|exact H'|(rw[hji6];exact H')|(simp only[hji6];exact H')),⟨by have:=HJ9.out;have:=HJ19.out;have:=HJ31.out;have:=HJ46.out;have:=HJ48.out;first|omega|exact Nat.le_refl _⟩,⟨by (with_reducible repeat(first|apply Kd.N_alloc|apply Kd.N_drewN|apply Kd.N_drew));exact Kd.N_mono HO_12.out (fun _ hk=>⟨hk.2.1,hk.2.2⟩)⟩,⟨by (with_reducible repeat(first|apply Kd.N_alloc|apply Kd.N_drewN|apply Kd.N_drew));exact Kd.N_mono HO_15.out (fun _ hk=>⟨hk.2.1,hk.2.2⟩)⟩,(bk_ BK795),(bl_ HB)⟩)|(rw[← hji6] at H';exact⟨_,(3),eq_,(by first|exact H'|(rw[hji6];exact H')|(simp only[hji6];exact H')),⟨by have:=HJ9.out;have:=HJ19.out;have:=HJ31.out;have:=HJ46.out;have:=HJ48.out;first|omega|exact Nat.le_refl _⟩,⟨by (with_reducible repeat(first|apply Kd.N_alloc|apply Kd.N_drewN|apply Kd.N_drew));exact Kd.N_mono HO_12.out (fun _ hk=>⟨hk.2.1,hk.2.2⟩)⟩,⟨by (with_reducible repeat(first|apply Kd.N_alloc|apply Kd.N_drewN|apply Kd.N_drew));exact Kd.N_mono HO_15.out (fun _ hk=>⟨hk.2.1,hk.2.2⟩)⟩,(bk_ BK795),(bl_ HB)⟩)
                  ·rw[if_neg c61] at H
                   have c61b0:=decide_eq_false c61
                   clear c61
                   by_cases c62:(Int.tmod (Go.bits .and .i64 a0 1023) 100)>14
                   ·rw[if_pos c62] at H
                    have c62b0:decide (14<(Int.tmod (Go.bits .and .i64 a0 1023) 100))=true:=decide_eq_true c62
                    clear c62
                    have H':=Aside0.mk H
                    clear H
                    go_wp2
                    go_meet
                    case rel=>first|(exact⟨_,(3),eq_,(by first|exact H'|(rw[hji6];exact H')|(simp only[hji6];exact H')),⟨by have:=HJ9.out;have:=HJ19.out;have:=HJ31.out;have:=HJ46.out;have:=HJ48.out;first|omega|exact Nat.le_refl _⟩,⟨by (with_reducible repeat(first|apply Kd.N_alloc|apply Kd.N_drewN|apply Kd.N_drew));exact Kd.N_mono HO_12.out (fun _ hk=>⟨hk.2.1,hk.2.2⟩)⟩,⟨by (with_reducible repeat(first|apply Kd.N_alloc|apply Kd.N_drewN|apply Kd.N_drew));exact Kd.N_mono HO_15.out (fun _ hk=>⟨hk.2.1,hk.2.2⟩)⟩,(bk_ BK795),(bl_ HB)⟩)|(rw[← hji6] at H';exact⟨_,(3),eq_,(by first|exact H'|(rw[hji6];exact H')|(simp only[hji6];exact H')),⟨by have:=HJ9.out;have:=HJ19.out;have:=HJ31.out;have:=HJ46.out;have:=HJ48.out;first|omega|exact Nat.le_refl _⟩,⟨by (with_reducible repeat(first|apply Kd.N_alloc|apply Kd.N_drewN|apply Kd.N_drew));exact Kd.N_mono HO_12.out (fun _ hk=>⟨hk.2.1,hk.2.2⟩)⟩,⟨by (with_reducible repeat(first|apply Kd.N_alloc|apply Kd.N_drewN|apply Kd.N_drew));exact Kd.N_mono HO_15.out (fun _ hk=>⟨hk.2.1,hk.2.2⟩)⟩,(bk_ BK795),(bl_ HB)⟩)
                   ·rw[if_neg c62] at H
                    have c62b0:decide (14<(Int.tmod (Go.bits .and .i64 a0 1023) 100))=false:=decide_eq_false c62
                    clear c62
                    have H':=Aside0.mk H
                    clear H
                    go_wp2
                    go_meet
                    case rel=>first|(exact⟨_,(4),eq_,(by first|exact H'|(rw[hji6];exact H')|(simp only[hji6];exact H')),⟨by have:=HJ9.out;have:=HJ19.out;have:=HJ31.out;have:=HJ46.out;have:=HJ48.out;first|omega|exact Nat.le_refl _⟩,⟨by (with_reducible repeat(first|apply Kd.N_alloc|apply Kd.N_drewN|apply Kd.N_drew));exact Kd.N_mono HO_12.out (fun _ hk=>⟨hk.2.1,hk.2.2⟩)⟩,⟨by (with_reducible repeat(first|apply Kd.N_alloc|apply Kd.N_drewN|apply Kd.N_drew));exact Kd.N_mono HO_15.out (fun _ hk=>⟨hk.2.1,hk.2.2⟩)⟩,(bk_ BK795),(bl_ HB)⟩)|(rw[← hji6] at H';exact⟨_,(4),eq_,(by first|exact H'|(rw[hji6];exact H')|(simp only[hji6];exact H')),⟨by have:=HJ9.out;have:=HJ19.out;have:=HJ31.out;have:=HJ46.out;have:=HJ48.out;first|omega|exact Nat.le_refl _⟩,⟨by (with_reducible repeat(first|apply Kd.N_alloc|apply Kd.N_drewN|apply Kd.N_drew));exact Kd.N_mono HO_12.out (fun _ hk=>⟨hk.2.1,hk.2.2⟩)⟩,⟨by (with_reducible repeat(first|apply Kd.N_alloc|apply Kd.N_drewN|apply Kd.N_drew));exact Kd.N_mono HO_15.out (fun _ hk=>⟨hk.2.1,hk.2.2⟩)⟩,(bk_ BK795),(bl_ HB)⟩)
                 ·rw[if_neg c60] at H
                  have c60b0:=decide_eq_false c60
                  clear c60
                  have H':=Aside0.mk H
                  clear H
                  go_wp2
                  go_meet
                  case rel=>first|(exact⟨_,(4),eq_,(by first|exact H'|(rw[hji6];exact H')|(simp only[hji6];exact H')),⟨by have:=HJ9.out;have:=HJ19.out;have:=HJ31.out;have:=HJ46.out;have:=HJ48.out;first|omega|exact Nat.le_refl _⟩,⟨by (with_reducible repeat(first|apply Kd.N_alloc|apply Kd.N_drewN|apply Kd.N_drew));exact Kd.N_mono HO_12.out (fun _ hk=>⟨hk.2.1,hk.2.2⟩)⟩,⟨by (with_reducible repeat(first|apply Kd.N_alloc|apply Kd.N_drewN|apply Kd.N_drew));exact Kd.N_mono HO_15.out (fun _ hk=>⟨hk.2.1,hk.2.2⟩)⟩,(bk_ BK795),(bl_ HB)⟩)|(rw[← hji6] at H';exact⟨_,(4),eq_,(by first|exact H'|(rw[hji6];exact H')|(simp only[hji6];exact H')),⟨by have:=HJ9.out;have:=HJ19.out;have:=HJ31.out;have:=HJ46.out;have:=HJ48.out;first|omega|exact Nat.le_refl _⟩,⟨by (with_reducible repeat(first|apply Kd.N_alloc|apply Kd.N_drewN|apply Kd.N_drew));exact Kd.N_mono HO_12.out (fun _ hk=>⟨hk.2.1,hk.2.2⟩)⟩,⟨by (with_reducible repeat(first|apply Kd.N_alloc|apply Kd.N_drewN|apply Kd.N_drew));exact Kd.N_mono HO_15.out (fun _ hk=>⟨hk.2.1,hk.2.2⟩)⟩,(bk_ BK795),(bl_ HB)⟩)
                ·rw[if_neg c59] at H
                 have c59b0:decide (2≤(Int.tmod (Go.bits .and .i64 a0 1023) 10))=false:=decide_eq_false c59
                 clear c59
                 have H':=Aside0.mk H
                 clear H
                 go_wp2
                 go_meet
                 case rel=>first|(exact⟨_,(4),eq_,(by first|exact H'|(rw[hji6];exact H')|(simp only[hji6];exact H')),⟨by have:=HJ9.out;have:=HJ19.out;have:=HJ31.out;have:=HJ46.out;have:=HJ48.out;first|omega|exact Nat.le_refl _⟩,⟨by (with_reducible repeat(first|apply Kd.N_alloc|apply Kd.N_drewN|apply Kd.N_drew));exact Kd.N_mono HO_12.out (fun _ hk=>⟨hk.2.1,hk.2.2⟩)⟩,⟨by (with_reducible repeat(first|apply Kd.N_alloc|apply Kd.N_drewN|apply Kd.N_drew));exact Kd.N_mono HO_15.out (fun _ hk=>⟨hk.2.1,hk.2.2⟩)⟩,(bk_ BK795),(bl_ HB)⟩)|(rw[← hji6] at H';exact⟨_,(4),eq_,(by first|exact H'|(rw[hji6];exact H')|(simp only[hji6];exact H')),⟨by have:=HJ9.out;have:=HJ19.out;have:=HJ31.out;have:=HJ46.out;have:=HJ48.out;first|omega|exact Nat.le_refl _⟩,⟨by (with_reducible repeat(first|apply Kd.N_alloc|apply Kd.N_drewN|apply Kd.N_drew));exact Kd.N_mono HO_12.out (fun _ hk=>⟨hk.2.1,hk.2.2⟩)⟩,⟨by (with_reducible repeat(first|apply Kd.N_alloc|apply Kd.N_drewN|apply Kd.N_drew));exact Kd.N_mono HO_15.out (fun _ hk=>⟨hk.2.1,hk.2.2⟩)⟩,(bk_ BK795),(bl_ HB)⟩)
              ·rw[if_neg c57] at H
               have c57b0:(ji6==0)=false:=beq_eq_false_iff_ne.mpr c57
               have c57b1:(ji6 !=0)=true:=bne_iff_ne.mpr c57
               (first|rw[c57b0]|(simp only[i64_w,i32_w];rw[c57b0])|skip)
               have H':=Aside0.mk H
               clear H
               go_wp2
               go_meet
               case rel=>first|(exact⟨_,(5),eq_,(by first|exact H'|(rw[hji6];exact H')|(simp only[hji6];exact H')),⟨by have:=HJ9.out;have:=HJ19.out;have:=HJ31.out;have:=HJ46.out;have:=HJ48.out;first|omega|exact Nat.le_refl _⟩,⟨by (with_reducible repeat(first|apply Kd.N_alloc|apply Kd.N_drewN|apply Kd.N_drew));exact Kd.N_mono HO_12.out (fun _ hk=>⟨hk.2.1,hk.2.2⟩)⟩,⟨by (with_reducible repeat(first|apply Kd.N_alloc|apply Kd.N_drewN|apply Kd.N_drew));exact Kd.N_mono HO_15.out (fun _ hk=>⟨hk.2.1,hk.2.2⟩)⟩,(bk_ BK795),(bl_ HB)⟩)|(rw[← hji6] at H';exact⟨_,(5),eq_,(by first|exact H'|(rw[hji6];exact H')|(simp only[hji6];exact H')),⟨by have:=HJ9.out;have:=HJ19.out;have:=HJ31.out;have:=HJ46.out;have:=HJ48.out;first|omega|exact Nat.le_refl _⟩,⟨by (with_reducible repeat(first|apply Kd.N_alloc|apply Kd.N_drewN|apply Kd.N_drew));exact Kd.N_mono HO_12.out (fun _ hk=>⟨hk.2.1,hk.2.2⟩)⟩,⟨by (with_reducible repeat(first|apply Kd.N_alloc|apply Kd.N_drewN|apply Kd.N_drew));exact Kd.N_mono HO_15.out (fun _ hk=>⟨hk.2.1,hk.2.2⟩)⟩,(bk_ BK795),(bl_ HB)⟩)
             case rest =>
              clear HC53
              obtain⟨kq,x18_52,rfl,HA,HJ52,HO_12,HO_15,BK795,HB⟩:=hcut
              cases kq with
              | zero=>exact absurd HA.out (by simp[florinlaw07_EvalEnglish.j5])
              | succ kj52 =>
               have H:=HA.out
               clear HA
               simp only[florinlaw07_EvalEnglish.j5] at H
               replace H:=Option.bind_eq_some_iff.mp H
               obtain⟨t812,A630,H⟩:=H
               have A63:=Aside0.mk A630
               clear A630
               replace H:=ifn_ H
               obtain⟨c64,H⟩:=H
               have c64b0:(t812==x18_52)=true:=beq_iff_eq.mpr c64
               have c64b1:(t812 !=x18_52)=false:=bne_eq_false_iff_eq.mpr c64
               clear c64
               by_cases c65:(Int.tmod (Go.bits .and .i64 a1 1023) (rd y770 (ji6)))=0
               ·rw[if_pos c65] at H
                have c65b0:((Int.tmod (Go.bits .and .i64 a1 1023) (rd y770 (ji6)))==0)=true:=beq_iff_eq.mpr c65
                have c65b1:((Int.tmod (Go.bits .and .i64 a1 1023) (rd y770 (ji6))) !=0)=false:=bne_eq_false_iff_eq.mpr c65
                clear c65
                by_cases c66:(Go.bits .and .i64 a0 1023)<3
                ·rw[if_pos c66] at H
                 have c66b0:=decide_eq_true c66
                 clear c66
                 obtain⟨y813,hy813⟩:∃y_:List Int,y_=(([0,1,2]:List Int)):=⟨_,rfl⟩
                 replace H:(if 0≤(Go.bits .and .i64 a0 1023) then (if (Go.bits .and .i64 a0 1023)<(y813.length:Int) then ((eval_Pick.f kj52 t806 t792 t793 t794).bind fun t817=>(some (t817==(rd y813 (Go.bits .and .i64 a0 1023))))) else (none)) else (none))=some r:=by first|(rw[hy813];with_reducible exact H)|(have H2_:=(Option.bind_some _ _).symm.trans H;rw[hy813];with_reducible exact H2_)|(have H2_:=(Option.bind_some _ _).symm.trans H;with_reducible exact H2_)|with_reducible exact H|(rw[hy813];exact H)|exact H
                 have Ny813:=Aside0.mk hy813
                 clear hy813
                 replace H:=ifn_ H
                 obtain⟨c67,H⟩:=H
                 have c67b0:decide (0≤(Go.bits .and .i64 a0 1023))=true:=decide_eq_true c67
                 clear c67
                 replace H:=ifn_ H
                 obtain⟨c68,H⟩:=H
                 have c68b0:decide ((Go.bits .and .i64 a0 1023)<(y813.length:Int))=true:=decide_eq_true c68
                 clear c68
                 replace H:=Option.bind_eq_some_iff.mp H
                 obtain⟨t817,A690,H⟩:=H
                 have A69:=Aside0.mk A690
                 clear A690
                 obtain rfl:=Option.some.inj H
                 obtain⟨hcz70_0,hcz70_1,hcz70_2,hfz70_0,hfz70_1,hfz70_2⟩:=bo3_ BK795
                 obtain⟨Ao71,co71,eo71⟩:=Kd.N_slice HO_12.out
                 subst eo71
                 go_wp2_with (first|((with_reducible refine gate_callee (f:=13) rfl ?_);refine gl_ (some 132) Tryz.func13 #[.slice Ao71 t801.length co71,.agg #[.string t792,.string t793,.int .i64 t794]] ?_;(with_reducible refine(eval_Pick.calls _ _ _ _ _ _ _ _ _ ?side1 ?side2 A63.out).mono ?_);(case side1=>repeat(first|exact(Kd.N_reads' HO_12.out).2.2|(with_reducible refine Kd.C_alloc ?_ _)|(with_reducible refine Kd.C_drewN ?_ _)|(with_reducible refine Kd.C_drew ?_)));(case side2=>exact(Kd.N_reads' HO_12.out).2.1);rintro e w72 ⟨rfl,hb⟩;refine⟨_,rfl,?_⟩;replace HO_12:=Aside0.mk (Kd.N_below (krN_ HO_12) hb);replace HO_15:=Aside0.mk (Kd.N_below (krN_ HO_15) hb);replace BK795:=bb_ BK795 hb;replace HB:=Aside0.mk (below_step (bl_ HB).out hb);(try clear hb);(try clear hi))|((with_reducible refine gate_dst (N:=140) rfl ?_);refine Kd.R_lit (Kd.int .i64) _ 36 ?hg (N:=140) ?hd (xs:=([0,1,2]:List Int)) (inner:=[.int .i64 0,.int .i64 1,.int .i64 2]) (ok:=fun _=>True) (okp:=fun _=>True) ?hr ?hp (fun _ hk=>hk) trivial (Below.refl _ _) (Nat.le_refl _) (by simp) ?_;(case hd=>rfl);(case hg=>rfl);(case hr=>first|(go_simp;done)|(go_simp;rfl));(case hp=>exact(Reps.one (show Kd.M (Kd.int .i64) _ _ _ 0 [.int .i64 0] from rfl) (Reps.one (show Kd.M (Kd.int .i64) _ _ _ 1 [.int .i64 1] from rfl) (Reps.one (show Kd.M (Kd.int .i64) _ _ _ 2 [.int .i64 2] from rfl) (Reps.none _ _)))));intro v814 w73 ho74 hb hg_ hnew_;clear hg_ hnew_;(first|rw[← Ny813.out] at ho74|(simp only[Int.reduceToNat] at ho74;rw[← Ny813.out] at ho74));have HO815:=Aside0.mk (Kd.R_lower ho74 (below_size (bl_ HB).out));replace HO_12:=Aside0.mk (Kd.N_elder' (krN_ HO_12) (Kd.R_base ho74) hb);replace HO_15:=Aside0.mk (Kd.N_elder' (krN_ HO_15) (Kd.R_base ho74) hb);replace BK795:=bb_ BK795 hb;replace HB:=Aside0.mk (below_step (bl_ HB).out hb);clear hb ho74;obtain⟨Ao75,co75,eo75⟩:=Kd.R_slice HO815.out;subst eo75;have p816:0≤((Go.bits .and .i64 a0 1023):Int):=od_;have q816:(Go.bits .and .i64 a0 1023)<(y813.length:Int):=od_;obtain⟨ad816,e816,hx816_0⟩:=Kd.at_int (Kd.R_reads' HO815.out).2.2 (Go.bits .and .i64 a0 1023) p816 q816;cases e816;replace p816:=eq_true p816;replace q816:=eq_true q816;obtain⟨hcz76_0,hcz76_1,hcz76_2,hfz76_0,hfz76_1,hfz76_2⟩:=bo3_ BK795;obtain⟨Ao77,co77,eo77⟩:=Kd.N_slice HO_15.out;subst eo77)|((with_reducible refine gate_callee (f:=13) rfl ?_);refine gl_ (some 159) Tryz.func13 #[.slice Ao77 t806.length co77,.agg #[.string t792,.string t793,.int .i64 t794]] ?_;(with_reducible refine(eval_Pick.calls _ _ _ _ _ _ _ _ _ ?side1 ?side2 A69.out).mono ?_);(case side1=>repeat(first|exact(Kd.N_reads' HO_15.out).2.2|(with_reducible refine Kd.C_alloc ?_ _)|(with_reducible refine Kd.C_drewN ?_ _)|(with_reducible refine Kd.C_drew ?_)));(case side2=>exact(Kd.N_reads' HO_15.out).2.1);rintro e w78 ⟨rfl,hb⟩;refine⟨_,rfl,?_⟩;replace HO_12:=Aside0.mk (Kd.N_below (krN_ HO_12) hb);replace HO_15:=Aside0.mk (Kd.N_below (krN_ HO_15) hb);replace HO815:=kb_ HO815 hb;replace BK795:=bb_ BK795 hb;replace HB:=Aside0.mk (below_step (bl_ HB).out hb);(try clear hb);(try clear hi)))
                 go_ret
                 exact⟨by first|rfl|(simp[errW_none,errW_some] <;> rfl)|(simp only[← hji6];first|rfl|(simp[errW_none,errW_some] <;> rfl))|(simp[*,errW_none,errW_some] <;> first|rfl|exact given_isEmpty _|exact(given_isEmpty _).symm),by repeat(first|(with_reducible first|exact HB.out|apply below_alloc|apply pw_below_drewN|apply below_drew1|refine below_set ?_ GE795.out)|exact HB.out)⟩
                ·rw[if_neg c66] at H
                 have c66b0:=decide_eq_false c66
                 clear c66
                 have HC79:=Aside0.mk H
                 clear H
                 obtain⟨hcz80_0,hcz80_1,hcz80_2,hfz80_0,hfz80_1,hfz80_2⟩:=bo3_ BK795
                 obtain⟨Ao81,co81,eo81⟩:=Kd.N_slice HO_12.out
                 subst eo81
                 go_upto_region 35 with (first|((with_reducible refine gate_callee (f:=13) rfl ?_);refine gl_ (some 132) Tryz.func13 #[.slice Ao81 t801.length co81,.agg #[.string t792,.string t793,.int .i64 t794]] ?_;(with_reducible refine(eval_Pick.calls _ _ _ _ _ _ _ _ _ ?side1 ?side2 A63.out).mono ?_);(case side1=>repeat(first|exact(Kd.N_reads' HO_12.out).2.2|(with_reducible refine Kd.C_alloc ?_ _)|(with_reducible refine Kd.C_drewN ?_ _)|(with_reducible refine Kd.C_drew ?_)));(case side2=>exact(Kd.N_reads' HO_12.out).2.1);rintro e w82 ⟨rfl,hb⟩;refine⟨_,rfl,?_⟩;replace HO_12:=Aside0.mk (Kd.N_below (krN_ HO_12) hb);replace HO_15:=Aside0.mk (Kd.N_below (krN_ HO_15) hb);replace BK795:=bb_ BK795 hb;replace HB:=Aside0.mk (below_step (bl_ HB).out hb);(try clear hb);(try clear hi)))
                 (try simp only[Act.put,List.setIfInBounds_toArray,List.set_cons_zero,List.set_cons_succ])
                 go_cut [144] (fun v144 wc=>∃(kq:Nat) (x144_78:Bool),v144= .bool x144_78∧Aside0 (florinlaw07_EvalEnglish.j6 kq (Go.bits .and .i64 a0 1023) t806 5 x144_78 t792 t793 t794=some r)∧Aside0 (kq≤kj52)∧Aside0 (Kd.N k41 41 wc w.heap.size (fun k_=>k_≠gb795) v807 t806)∧Aside0 (wc.heap[gb795]? = some (.cells #[.string t792,.string t793,.int .i64 t794] 27 (0,0)))∧Aside0 (Below w.heap.size w wc))
                 case first =>
                  have H:=HC79.out
                  clear HC79
                  by_cases c83:(Int.tmod (Go.bits .and .i64 a0 1023) 100)≥3
                  ·rw[if_pos c83] at H
                   have c83b0:decide (3≤(Int.tmod (Go.bits .and .i64 a0 1023) 100))=true:=decide_eq_true c83
                   clear c83
                   (first|rw[c83b0]|(simp only[i64_w,i32_w];rw[c83b0])|skip)
                   have H':=Aside0.mk H
                   clear H
                   go_wp2
                   go_meet
                   case rel=>first|(exact⟨_,(decide ((Int.tmod (Go.bits .and .i64 a0 1023) 100)≤10)),eq_,(by first|exact H'|(rw[hji6];exact H')|(simp only[hji6];exact H')),⟨by have:=HJ9.out;have:=HJ19.out;have:=HJ31.out;have:=HJ46.out;have:=HJ48.out;have:=HJ52.out;first|omega|exact Nat.le_refl _⟩,⟨by (with_reducible repeat(first|apply Kd.N_alloc|apply Kd.N_drewN|apply Kd.N_drew));exact Kd.N_mono HO_15.out (fun _ hk=>hk.2)⟩,(bk_ BK795),(bl_ HB)⟩)|(rw[← hji6] at H';exact⟨_,(decide ((Int.tmod (Go.bits .and .i64 a0 1023) 100)≤10)),eq_,(by first|exact H'|(rw[hji6];exact H')|(simp only[hji6];exact H')),⟨by have:=HJ9.out;have:=HJ19.out;have:=HJ31.out;have:=HJ46.out;have:=HJ48.out;have:=HJ52.out;first|omega|exact Nat.le_refl _⟩,⟨by (with_reducible repeat(first|apply Kd.N_alloc|apply Kd.N_drewN|apply Kd.N_drew));exact Kd.N_mono HO_15.out (fun _ hk=>hk.2)⟩,(bk_ BK795),(bl_ HB)⟩)
                  ·rw[if_neg c83] at H
                   have c83b0:decide (3≤(Int.tmod (Go.bits .and .i64 a0 1023) 100))=false:=decide_eq_false c83
                   clear c83
                   (first|rw[c83b0]|(simp only[i64_w,i32_w];rw[c83b0])|skip)
                   have H':=Aside0.mk H
                   clear H
                   go_wp2
                   go_meet
                   case rel=>first|(exact⟨_,(false),eq_,(by first|exact H'|(rw[hji6];exact H')|(simp only[hji6];exact H')),⟨by have:=HJ9.out;have:=HJ19.out;have:=HJ31.out;have:=HJ46.out;have:=HJ48.out;have:=HJ52.out;first|omega|exact Nat.le_refl _⟩,⟨by (with_reducible repeat(first|apply Kd.N_alloc|apply Kd.N_drewN|apply Kd.N_drew));exact Kd.N_mono HO_15.out (fun _ hk=>hk.2)⟩,(bk_ BK795),(bl_ HB)⟩)|(rw[← hji6] at H';exact⟨_,(false),eq_,(by first|exact H'|(rw[hji6];exact H')|(simp only[hji6];exact H')),⟨by have:=HJ9.out;have:=HJ19.out;have:=HJ31.out;have:=HJ46.out;have:=HJ48.out;have:=HJ52.out;first|omega|exact Nat.le_refl _⟩,⟨by (with_reducible repeat(first|apply Kd.N_alloc|apply Kd.N_drewN|apply Kd.N_drew));exact Kd.N_mono HO_15.out (fun _ hk=>hk.2)⟩,(bk_ BK795),(bl_ HB)⟩)
                 case rest =>
                  clear HC79
                  obtain⟨kq,x144_78,rfl,HA,HJ78,HO_15,BK795,HB⟩:=hcut
                  cases kq with
                  | zero=>exact absurd HA.out (by simp[florinlaw07_EvalEnglish.j6])
                  | succ kj78 =>
                   have H:=HA.out
                   clear HA
                   simp only[florinlaw07_EvalEnglish.j6] at H
                   by_cases c84:x144_78=true
                   ·subst c84
                    have H1:((eval_Pick.f kj78 t806 t792 t793 t794).bind fun t818=>(some (t818==3)))=some r:=by rw[if_pos rfl] at H;exact H
                    clear H
                    have H:=H1
                    clear H1
                    replace H:=Option.bind_eq_some_iff.mp H
                    obtain⟨t818,A850,H⟩:=H
                    have A85:=Aside0.mk A850
                    clear A850
                    obtain rfl:=Option.some.inj H
                    obtain⟨hcz86_0,hcz86_1,hcz86_2,hfz86_0,hfz86_1,hfz86_2⟩:=bo3_ BK795
                    obtain⟨Ao87,co87,eo87⟩:=Kd.N_slice HO_15.out
                    subst eo87
                    go_wp2_with (first|((with_reducible refine gate_callee (f:=13) rfl ?_);refine gl_ (some 159) Tryz.func13 #[.slice Ao87 t806.length co87,.agg #[.string t792,.string t793,.int .i64 t794]] ?_;(with_reducible refine(eval_Pick.calls _ _ _ _ _ _ _ _ _ ?side1 ?side2 A85.out).mono ?_);(case side1=>repeat(first|exact(Kd.N_reads' HO_15.out).2.2|(with_reducible refine Kd.C_alloc ?_ _)|(with_reducible refine Kd.C_drewN ?_ _)|(with_reducible refine Kd.C_drew ?_)));(case side2=>exact(Kd.N_reads' HO_15.out).2.1);rintro e w88 ⟨rfl,hb⟩;refine⟨_,rfl,?_⟩;replace HO_15:=Aside0.mk (Kd.N_below (krN_ HO_15) hb);replace BK795:=bb_ BK795 hb;replace HB:=Aside0.mk (below_step (bl_ HB).out hb);(try clear hb);(try clear hi)))
                    go_ret
                    exact⟨by first|rfl|(simp[errW_none,errW_some] <;> rfl)|(simp only[← hji6];first|rfl|(simp[errW_none,errW_some] <;> rfl))|(simp[*,errW_none,errW_some] <;> first|rfl|exact given_isEmpty _|exact(given_isEmpty _).symm),by repeat(first|(with_reducible first|exact HB.out|apply below_alloc|apply pw_below_drewN|apply below_drew1|refine below_set ?_ GE795.out)|exact HB.out)⟩
                   ·replace c84:=Bool.eq_false_iff.mpr c84
                    subst c84
                    have H1:(if (Int.tmod (Go.bits .and .i64 a0 1023) 100)≥11 then ((eval_Pick.f kj78 t806 t792 t793 t794).bind fun t819=>(some (t819==4))) else ((eval_Pick.f kj78 t806 t792 t793 t794).bind fun t820=>(some (t820==5))))=some r:=by rw[if_neg (show ¬(false=true) by decide)] at H;exact H
                    clear H
                    have H:=H1
                    clear H1
                    by_cases c89:(Int.tmod (Go.bits .and .i64 a0 1023) 100)≥11
                    ·rw[if_pos c89] at H
                     have c89b0:decide (11≤(Int.tmod (Go.bits .and .i64 a0 1023) 100))=true:=decide_eq_true c89
                     clear c89
                     replace H:=Option.bind_eq_some_iff.mp H
                     obtain⟨t819,A900,H⟩:=H
                     have A90:=Aside0.mk A900
                     clear A900
                     obtain rfl:=Option.some.inj H
                     obtain⟨hcz91_0,hcz91_1,hcz91_2,hfz91_0,hfz91_1,hfz91_2⟩:=bo3_ BK795
                     obtain⟨Ao92,co92,eo92⟩:=Kd.N_slice HO_15.out
                     subst eo92
                     go_wp2_with (first|((with_reducible refine gate_callee (f:=13) rfl ?_);refine gl_ (some 159) Tryz.func13 #[.slice Ao92 t806.length co92,.agg #[.string t792,.string t793,.int .i64 t794]] ?_;(with_reducible refine(eval_Pick.calls _ _ _ _ _ _ _ _ _ ?side1 ?side2 A90.out).mono ?_);(case side1=>repeat(first|exact(Kd.N_reads' HO_15.out).2.2|(with_reducible refine Kd.C_alloc ?_ _)|(with_reducible refine Kd.C_drewN ?_ _)|(with_reducible refine Kd.C_drew ?_)));(case side2=>exact(Kd.N_reads' HO_15.out).2.1);rintro e w93 ⟨rfl,hb⟩;refine⟨_,rfl,?_⟩;replace HO_15:=Aside0.mk (Kd.N_below (krN_ HO_15) hb);replace BK795:=bb_ BK795 hb;replace HB:=Aside0.mk (below_step (bl_ HB).out hb);(try clear hb);(try clear hi)))
                     go_ret
                     exact⟨by first|rfl|(simp[errW_none,errW_some] <;> rfl)|(simp only[← hji6];first|rfl|(simp[errW_none,errW_some] <;> rfl))|(simp[*,errW_none,errW_some] <;> first|rfl|exact given_isEmpty _|exact(given_isEmpty _).symm),by repeat(first|(with_reducible first|exact HB.out|apply below_alloc|apply pw_below_drewN|apply below_drew1|refine below_set ?_ GE795.out)|exact HB.out)⟩
                    ·rw[if_neg c89] at H
                     have c89b0:decide (11≤(Int.tmod (Go.bits .and .i64 a0 1023) 100))=false:=decide_eq_false c89
                     clear c89
                     replace H:=Option.bind_eq_some_iff.mp H
                     obtain⟨t820,A940,H⟩:=H
                     have A94:=Aside0.mk A940
                     clear A940
                     obtain rfl:=Option.some.inj H
                     obtain⟨hcz95_0,hcz95_1,hcz95_2,hfz95_0,hfz95_1,hfz95_2⟩:=bo3_ BK795
                     obtain⟨Ao96,co96,eo96⟩:=Kd.N_slice HO_15.out
                     subst eo96
                     go_wp2_with (first|((with_reducible refine gate_callee (f:=13) rfl ?_);refine gl_ (some 159) Tryz.func13 #[.slice Ao96 t806.length co96,.agg #[.string t792,.string t793,.int .i64 t794]] ?_;(with_reducible refine(eval_Pick.calls _ _ _ _ _ _ _ _ _ ?side1 ?side2 A94.out).mono ?_);(case side1=>repeat(first|exact(Kd.N_reads' HO_15.out).2.2|(with_reducible refine Kd.C_alloc ?_ _)|(with_reducible refine Kd.C_drewN ?_ _)|(with_reducible refine Kd.C_drew ?_)));(case side2=>exact(Kd.N_reads' HO_15.out).2.1);rintro e w97 ⟨rfl,hb⟩;refine⟨_,rfl,?_⟩;replace HO_15:=Aside0.mk (Kd.N_below (krN_ HO_15) hb);replace BK795:=bb_ BK795 hb;replace HB:=Aside0.mk (below_step (bl_ HB).out hb);(try clear hb);(try clear hi)))
                     go_ret
                     exact⟨by first|rfl|(simp[errW_none,errW_some] <;> rfl)|(simp only[← hji6];first|rfl|(simp[errW_none,errW_some] <;> rfl))|(simp[*,errW_none,errW_some] <;> first|rfl|exact given_isEmpty _|exact(given_isEmpty _).symm),by repeat(first|(with_reducible first|exact HB.out|apply below_alloc|apply pw_below_drewN|apply below_drew1|refine below_set ?_ GE795.out)|exact HB.out)⟩
               ·rw[if_neg c65] at H
                have c65b0:((Int.tmod (Go.bits .and .i64 a1 1023) (rd y770 (ji6)))==0)=false:=beq_eq_false_iff_ne.mpr c65
                have c65b1:((Int.tmod (Go.bits .and .i64 a1 1023) (rd y770 (ji6))) !=0)=true:=bne_iff_ne.mpr c65
                replace H:=Option.bind_eq_some_iff.mp H
                obtain⟨t821,A980,H⟩:=H
                have A98:=Aside0.mk A980
                clear A980
                obtain rfl:=Option.some.inj H
                obtain⟨hcz99_0,hcz99_1,hcz99_2,hfz99_0,hfz99_1,hfz99_2⟩:=bo3_ BK795
                obtain⟨Ao100,co100,eo100⟩:=Kd.N_slice HO_12.out
                subst eo100
                go_wp2_with (first|((with_reducible refine gate_callee (f:=13) rfl ?_);refine gl_ (some 132) Tryz.func13 #[.slice Ao100 t801.length co100,.agg #[.string t792,.string t793,.int .i64 t794]] ?_;(with_reducible refine(eval_Pick.calls _ _ _ _ _ _ _ _ _ ?side1 ?side2 A63.out).mono ?_);(case side1=>repeat(first|exact(Kd.N_reads' HO_12.out).2.2|(with_reducible refine Kd.C_alloc ?_ _)|(with_reducible refine Kd.C_drewN ?_ _)|(with_reducible refine Kd.C_drew ?_)));(case side2=>exact(Kd.N_reads' HO_12.out).2.1);rintro e w101 ⟨rfl,hb⟩;refine⟨_,rfl,?_⟩;replace HO_12:=Aside0.mk (Kd.N_below (krN_ HO_12) hb);replace HO_15:=Aside0.mk (Kd.N_below (krN_ HO_15) hb);replace BK795:=bb_ BK795 hb;replace HB:=Aside0.mk (below_step (bl_ HB).out hb);(try clear hb);obtain⟨hcz102_0,hcz102_1,hcz102_2,hfz102_0,hfz102_1,hfz102_2⟩:=bo3_ BK795;obtain⟨Ao103,co103,eo103⟩:=Kd.N_slice HO_15.out;subst eo103)|((with_reducible refine gate_callee (f:=13) rfl ?_);refine gl_ (some 159) Tryz.func13 #[.slice Ao103 t806.length co103,.agg #[.string t792,.string t793,.int .i64 t794]] ?_;(with_reducible refine(eval_Pick.calls _ _ _ _ _ _ _ _ _ ?side1 ?side2 A98.out).mono ?_);(case side1=>repeat(first|exact(Kd.N_reads' HO_15.out).2.2|(with_reducible refine Kd.C_alloc ?_ _)|(with_reducible refine Kd.C_drewN ?_ _)|(with_reducible refine Kd.C_drew ?_)));(case side2=>exact(Kd.N_reads' HO_15.out).2.1);rintro e w104 ⟨rfl,hb⟩;refine⟨_,rfl,?_⟩;replace HO_12:=Aside0.mk (Kd.N_below (krN_ HO_12) hb);replace HO_15:=Aside0.mk (Kd.N_below (krN_ HO_15) hb);replace BK795:=bb_ BK795 hb;replace HB:=Aside0.mk (below_step (bl_ HB).out hb);(try clear hb);(try clear hi)))
                go_ret
                exact⟨by first|rfl|(simp[errW_none,errW_some] <;> rfl)|(simp only[← hji6];first|rfl|(simp[errW_none,errW_some] <;> rfl))|(simp[*,errW_none,errW_some] <;> first|rfl|exact given_isEmpty _|exact(given_isEmpty _).symm),by repeat(first|(with_reducible first|exact HB.out|apply below_alloc|apply pw_below_drewN|apply below_drew1|refine below_set ?_ GE795.out)|exact HB.out)⟩
 ·replace c5:=Bool.eq_false_iff.mpr c5
  subst c5
  have H1:(none)=some r:=by rw[if_neg (show ¬(false=true) by decide)] at H;exact H
  clear H
  have H:=H1
  clear H1
  exact absurd H (by simp)

/-- THE ONE PURE STATEMENT of florinlaw07_EvalEnglish: yours. -/
def florinlaw07_EvalEnglish.Pure:Prop:=∀(a0:Int) (a1:Int) (a2:Int),(Lit.int .i64 a0).wf=true→(Lit.int .i64 a1).wf=true→(Lit.int .i64 a2).wf=true→∃k,florinlaw07_EvalEnglish.f k a0 a1 a2=some true
theorem florinlaw07_EvalEnglish.walk (P:florinlaw07_EvalEnglish.Pure) (a0:Int) (a1:Int) (a2:Int) (w:World) (w0:(Lit.int .i64 a0).wf=true) (w1:(Lit.int .i64 a1).wf=true) (w2:(Lit.int .i64 a2).wf=true) :
  Calls Tryz.prog 5 #[.int .i64 a0,.int .i64 a1,.int .i64 a2] w fun e w'=>e= .returned (.bool true)∧Below w.heap.size w w':=by
 obtain⟨k,h⟩:=P a0 a1 a2 w0 w1 w2
 refine(florinlaw07_EvalEnglish.calls _ _ _ _ _ _ h).mono ?_
 rintro e w' ⟨rfl,hd⟩
 exact⟨rfl,hd⟩

end Go.Proofs.YtadagjgkanlmdaaGreatDoor.P
