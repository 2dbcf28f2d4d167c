-- written by a program of this session (wip/p2)
import Derived.Test.YtbhhfpjiacfofaaDoorPx0
import Derived.Test.YtbhhfpjiacfofaaDoorPx2
import Derived.Test.YtbhhfpjiacfofaaDoorPx3
namespace Go.Proofs.YtbhhfpjiacfofaaDoor.P
open Go.RowKit Go.Proofs.YtbhhfpjiacfofaaDoorW.PrintWords Go.Proofs.YtbhhfpjiacfofaaDoorW.PrintLast Go.Proofs.YtbhhfpjiacfofaaDoorW.PrintMore
attribute [local go_sem] max2_int min2_int max_two min_two max_three min_three max_four min_four   -- for this text's walks alone
set_option linter.unusedVariables false
set_option linter.unusedSimpArgs false

/-! ### sample_pointed: function 32 -/
def sample_pointed.f (a0:ByteArray) (a1:Int) (a2:Int):Option (ByteArray):=(num_Zeros.f (wrap64 (a2-(a0.size:Int)))).bind fun t314=>(if t314.size+a0.size≤9223372036854775807 then (if a1=0 then (some (t314++a0)) else (if 0≤(wrap64 (((t314++a0).size:Int)-a1)) then (if (wrap64 (((t314++a0).size:Int)-a1))≤((t314++a0).size:Int) then (if ((t314++a0).extract 0 ((wrap64 (((t314++a0).size:Int)-a1)):Int).toNat).size+1≤9223372036854775807 then (if (((t314++a0).extract 0 ((wrap64 (((t314++a0).size:Int)-a1)):Int).toNat)++(⟨#[46]⟩:ByteArray)).size+((t314++a0).extract ((wrap64 (((t314++a0).size:Int)-a1)):Int).toNat (t314++a0).size).size≤9223372036854775807 then (some ((((t314++a0).extract 0 ((wrap64 (((t314++a0).size:Int)-a1)):Int).toNat)++(⟨#[46]⟩:ByteArray))++((t314++a0).extract ((wrap64 (((t314++a0).size:Int)-a1)):Int).toNat (t314++a0).size))) else (none)) else (none)) else (none)) else (none))) else (none))
set_option maxHeartbeats 64000000 in
set_option maxRecDepth 100000 in
theorem sample_pointed.calls (a0:ByteArray) (a1:Int) (a2:Int) (r:ByteArray) (w:World) (h:sample_pointed.f a0 a1 a2=some r) :
  Calls Tryd.prog 32 #[.string a0,.int .i64 a1,.int .i64 a2] w fun e w'=>e= .returned (.string r)∧Below w.heap.size w w':=by
 have HB:=Aside0.mk (Below.refl w.heap.size w)
 have H:=h
 clear h
 unfold sample_pointed.f at H
 replace H:=Option.bind_eq_some_iff.mp H
 obtain⟨t314,A40,H⟩:=H
 have A4:=Aside0.mk A40
 clear A40
 replace H:=ifn_ H
 obtain⟨c5,H⟩:=H
 have c5b0:=eq_true c5
 have c5b1:decide (t314.size+a0.size≤9223372036854775807)=true:=decide_eq_true c5
 try have c5b2:=eq_false (Nat.not_lt.2 c5)
 by_cases c6:a1=0
 ·rw[if_pos c6] at H
  have c6b0:(a1==0)=true:=beq_iff_eq.mpr c6
  have c6b1:(a1 !=0)=false:=bne_eq_false_iff_eq.mpr c6
  clear c6
  obtain rfl:=Option.some.inj H
  go_enter Tryd.func32,Tryd.ntmps32
  go_wp2_with (first|(go_at_call 36;(with_reducible refine(num_Zeros.calls _ _ _ A4.out).mono ?_);rintro e w7 ⟨rfl,hb⟩;replace HB:=Aside0.mk (below_step (bl_ HB).out hb);(try clear hb);(try clear hi)))
  repeat(go_quiet (first|(go_at_call 36;(with_reducible refine(num_Zeros.calls _ _ _ A4.out).mono ?_);rintro e w7 ⟨rfl,hb⟩;replace HB:=Aside0.mk (below_step (bl_ HB).out hb);(try clear hb);(try clear hi)));try go_wp2_with (first|(go_at_call 36;(with_reducible refine(num_Zeros.calls _ _ _ A4.out).mono ?_);rintro e w7 ⟨rfl,hb⟩;replace HB:=Aside0.mk (below_step (bl_ HB).out hb);(try clear hb);(try clear hi))))
  go_ret
  exact⟨ew_,(bl_ HB).out⟩
 rw[if_neg c6] at H
 have c6b0:(a1==0)=false:=beq_eq_false_iff_ne.mpr c6
 have c6b1:(a1 !=0)=true:=bne_iff_ne.mpr c6
 obtain⟨ji8,hji8⟩:∃j_:Int,(wrap64 (((t314++a0).size:Int)-a1))=j_:=⟨_,rfl⟩
 replace H:(if 0≤(ji8) then (if (ji8)≤((t314++a0).size:Int) then (if ((t314++a0).extract 0 ((ji8):Int).toNat).size+1≤9223372036854775807 then (if (((t314++a0).extract 0 ((ji8):Int).toNat)++(⟨#[46]⟩:ByteArray)).size+((t314++a0).extract ((ji8):Int).toNat (t314++a0).size).size≤9223372036854775807 then (some ((((t314++a0).extract 0 ((ji8):Int).toNat)++(⟨#[46]⟩:ByteArray))++((t314++a0).extract ((ji8):Int).toNat (t314++a0).size))) else (none)) else (none)) else (none)) else (none))=some r:=by first|(rw[hji8] at H;exact H)|(simp only[hji8] at H ⊢;exact H)
 (try rw[hji8] at A4)
 have hji8w:(IntKind.i64.wrap (((t314++a0).size:Int)-a1))=ji8:=(i64_w _).trans hji8
 try (have hji8s:=hji8;simp only[ByteArray.size_append,Int.natCast_add] at hji8s)
 try (have hji8s:=hji8;simp only[ByteArray.size_append,Int.natCast_add] at hji8s)
 replace H:=ifn_ H
 obtain⟨c9,H⟩:=H
 have c9b0:=eq_true c9
 have c9b1:decide (0≤(ji8))=true:=decide_eq_true c9
 clear c9
 replace H:=ifn_ H
 obtain⟨c10,H⟩:=H
 have c10b0:=eq_true c10
 have c10b1:decide ((ji8)≤((t314++a0).size:Int))=true:=decide_eq_true c10
 try (have c10b5:=c10b0;simp only[ByteArray.size_append,Int.natCast_add] at c10b5)
 replace H:=ifn_ H
 obtain⟨c11,H⟩:=H
 have c11b0:=eq_true c11
 have c11b1:decide (((t314++a0).extract 0 ((ji8):Int).toNat).size+1≤9223372036854775807)=true:=decide_eq_true c11
 try (have c11b5:=c11b0;simp only[ByteArray.size_append,Int.natCast_add] at c11b5)
 try have c11b2:=eq_false (Nat.not_lt.2 c11)
 try have c11b3:(9223372036854775807<((t314++a0).extract 0 ((ji8):Int).toNat).size+1)=False:=eq_false (Nat.not_lt.2 (by have h_:=c11;simp only[ByteArray.size_append] at h_;exact h_))
 try have c11b4:(((t314++a0).extract 0 ((ji8):Int).toNat).size+1≤9223372036854775807)=True:=eq_true (by have h_:=c11;simp only[ByteArray.size_append] at h_;exact h_)
 (try (have c11x0:=c11b0;simp only[ByteArray.size_extract,Nat.min_self,Nat.sub_zero] at c11x0))
 (try (have c11x1:=c11b1;simp only[ByteArray.size_extract,Nat.min_self,Nat.sub_zero] at c11x1))
 have c12b0:=eq_true (od_:0≤(ji8))
 have c13b0:=eq_true (od_:(ji8)≤((t314++a0).size:Int))
 replace H:=ifn_ H
 obtain⟨c14,H⟩:=H
 have c14b0:=eq_true c14
 have c14b1:decide ((((t314++a0).extract 0 ((ji8):Int).toNat)++(⟨#[46]⟩:ByteArray)).size+((t314++a0).extract ((ji8):Int).toNat (t314++a0).size).size≤9223372036854775807)=true:=decide_eq_true c14
 try (have c14b5:=c14b0;simp only[ByteArray.size_append,Int.natCast_add] at c14b5)
 try have c14b2:=eq_false (Nat.not_lt.2 c14)
 try have c14b3:(9223372036854775807<((t314++a0).extract 0 ((ji8):Int).toNat).size+1+((t314++a0).extract ((ji8):Int).toNat (t314++a0).size).size)=False:=eq_false (Nat.not_lt.2 (by have h_:=c14;simp only[ByteArray.size_append] at h_;exact h_))
 try have c14b4:(((t314++a0).extract 0 ((ji8):Int).toNat).size+1+((t314++a0).extract ((ji8):Int).toNat (t314++a0).size).size≤9223372036854775807)=True:=eq_true (by have h_:=c14;simp only[ByteArray.size_append] at h_;exact h_)
 (try (have c14x0:=c14b0;simp only[ByteArray.size_extract,Nat.min_self,Nat.sub_zero] at c14x0))
 (try (have c14x1:=c14b1;simp only[ByteArray.size_extract,Nat.min_self,Nat.sub_zero] at c14x1))
 obtain rfl:=Option.some.inj H
 go_enter Tryd.func32,Tryd.ntmps32
 go_wp2_with (first|(go_at_call 36;(with_reducible refine(num_Zeros.calls _ _ _ A4.out).mono ?_);rintro e w15 ⟨rfl,hb⟩;replace HB:=Aside0.mk (below_step (bl_ HB).out hb);(try clear hb);(try clear hi)))
 repeat(go_quiet (first|(go_at_call 36;(with_reducible refine(num_Zeros.calls _ _ _ A4.out).mono ?_);rintro e w15 ⟨rfl,hb⟩;replace HB:=Aside0.mk (below_step (bl_ HB).out hb);(try clear hb);(try clear hi)));try go_wp2_with (first|(go_at_call 36;(with_reducible refine(num_Zeros.calls _ _ _ A4.out).mono ?_);rintro e w15 ⟨rfl,hb⟩;replace HB:=Aside0.mk (below_step (bl_ HB).out hb);(try clear hb);(try clear hi))))
 clear c10b5
 generalize hS_:t314++a0=S_ at *
 have m_:(S_.extract 0 ji8.toNat).size=ji8.toNat:=by rw[ByteArray.size_extract];omega
 have f1_:(9223372036854775807<ji8.toNat+1)=False:=eq_false (by omega)
 have f2_:(9223372036854775807<ji8.toNat+1+(S_.size-ji8.toNat))=False:=eq_false (by have h_:=c14;rw[ByteArray.size_append,m_,ByteArray.size_extract,show(⟨#[46]⟩:ByteArray).size=1 from rfl] at h_;omega)
 repeat(go_quiet (fail);try go_wp2)
 go_ret
 exact⟨by first|rfl|(simp[errW_none,errW_some] <;> rfl)|(simp only[← hji8];first|rfl|(simp[errW_none,errW_some] <;> rfl))|(simp[*,errW_none,errW_some] <;> first|rfl|exact given_isEmpty _|exact(given_isEmpty _).symm),by repeat(first|(with_reducible first|exact HB.out|apply below_alloc|apply pw_below_drewN|apply below_drew1)|exact HB.out)⟩

/-! ### num_Add: function 33 -/
mutual
def num_Add.l0:Nat→ByteArray→ByteArray→List Int→Int→Int→Option (ByteArray)
 | 0,_,_,_,_,_=>none
 | k+1,x0,x1,x5,x6,x7=>if x7<(mx (x0.size:Int) (x1.size:Int)) then (num_Add.j1 k x0 x1 x5 x6 x7 true) else (num_Add.j1 k x0 x1 x5 x6 x7 (decide (x6>0)))
def num_Add.j1:Nat→ByteArray→ByteArray→List Int→Int→Int→Bool→Option (ByteArray)
 | 0,_,_,_,_,_,_=>none
 | k+1,x0,x1,x5,x6,x7,x24=>if x24=true then ((num_at.f x0 x7).bind fun t318=>((num_at.f x1 x7).bind fun t319=>(if x5.length<140737488355328 then (num_Add.l0 k x0 x1 (x5++[(48+(Int.tmod (wrap64 ((wrap64 (t318+t319))+x6)) 10))%256]) (wrap64 (Int.tdiv (wrap64 ((wrap64 (t318+t319))+x6)) 10)) (wrap64 (x7+1))) else (none)))) else ((num_text.f k x5).bind fun t323=>(some t323))
end
def num_Add.f (k:Nat) (a0:ByteArray) (a1:ByteArray):Option (ByteArray):=(num_all.f k (([a0,a1]:List ByteArray))).bind fun t317=>(if t317=true then (num_Add.l0 k a0 a1 ([]:List Int) 0 0) else (some (⟨#[]⟩:ByteArray)))
set_option maxHeartbeats 64000000 in
set_option maxRecDepth 100000 in
theorem num_Add.calls (k:Nat) (a0:ByteArray) (a1:ByteArray) (r:ByteArray) (w:World) (h:num_Add.f k a0 a1=some r) :
  Calls Tryd.prog 33 #[.string a0,.string a1] w fun e w'=>e= .returned (.string r)∧Below w.heap.size w w':=by
 have HB:=Aside0.mk (Below.refl w.heap.size w)
 have H:=h
 clear h
 unfold num_Add.f at H
 obtain⟨y314,hy314⟩:∃y_:List ByteArray,y_=(([a0,a1]:List ByteArray)):=⟨_,rfl⟩
 replace H:((num_all.f k y314).bind fun t317=>(if t317=true then (num_Add.l0 k a0 a1 ([]:List Int) 0 0) else (some (⟨#[]⟩:ByteArray))))=some r:=by first|(rw[hy314];with_reducible exact H)|(have H2_:=(Option.bind_some _ _).symm.trans H;rw[hy314];with_reducible exact H2_)|(have H2_:=(Option.bind_some _ _).symm.trans H;with_reducible exact H2_)|with_reducible exact H|(rw[hy314];exact H)|exact H
 have Ny314:=Aside0.mk hy314
 clear hy314
 replace H:=Option.bind_eq_some_iff.mp H
 obtain⟨t317,A30,H⟩:=H
 have A3:=Aside0.mk A30
 clear A30
 by_cases c4:t317=true
 ·subst c4
  rw[if_pos rfl] at H
  have H':=Aside0.mk H
  clear H
  go_enter Tryd.func33,Tryd.ntmps33
  go_wp2_with (first|((with_reducible refine gate_dst (N:=11) rfl ?_);refine Kd.R_lit Kd.string _ 9 ?hg (N:=11) ?hd (xs:=([a0,a1]:List ByteArray)) (inner:=[.string a0,.string a1]) (ok:=fun _=>True) (okp:=fun _=>True) ?hr ?hp (fun _ hk=>hk) trivial (Below.refl _ _) (Nat.le_refl _) (by simp) ?_;(case hd=>rfl);(case hg=>rfl);(case hr=>first|(go_simp;done)|(go_simp;rfl));(case hp=>exact(Reps.one (show Kd.M Kd.string _ _ _ a0 [.string a0] from rfl) (Reps.one (show Kd.M Kd.string _ _ _ a1 [.string a1] from rfl) (Reps.none _ _))));intro v315 w5 ho6 hb hg_ hnew_;clear hg_ hnew_;(first|rw[← Ny314.out] at ho6|(simp only[Int.reduceToNat] at ho6;rw[← Ny314.out] at ho6));have HO316:=Aside0.mk (Kd.R_lower ho6 (below_size (bl_ HB).out));replace HB:=Aside0.mk (below_step (bl_ HB).out hb);clear hb ho6;obtain⟨Ao7,co7,eo7⟩:=Kd.R_slice HO316.out;subst eo7)|((with_reducible refine gate_callee (f:=43) rfl ?_);refine gl_ (some 12) Tryd.func43 #[.slice Ao7 y314.length co7] ?_;(with_reducible refine(num_all.calls _ _ _ _ _ _ ?side1 ?side2 A3.out).mono ?_);(case side1=>exact kc_ HO316);(case side2=>exact kl_ HO316);rintro e w' ⟨rfl,⟨nd,rfl⟩⟩;refine⟨_,rfl,?_⟩))
  go_loopg [5,6,7] k (fun kq v5 v6 v7 w'=>∃(x5_1:List Int) (x6_1:Int) (x7_1:Int),v6= .int .i64 x6_1∧v7= .int .i64 x7_1∧Aside0 (num_Add.l0 kq a0 a1 x5_1 x6_1 x7_1=some r)∧Aside0 (kq≤k)∧Aside0 (Kd.R (Kd.int .u8) 5 w' w.heap.size (fun _=>True) v5 x5_1)∧Aside0 (Below w.heap.size w w'))
  case atStart=>exact⟨(([]:List Int)),(0),(0),eq_,eq_,H',⟨Nat.le_refl _⟩,⟨by first|exact Kd.R_nil _ _ _ _ _|exact Kd.N_nil _ _ _ _ _|exact Kd.V_nil _ _ _ _ _|exact Kd.Q_nil _ _ _ _ _|exact Kd.S_nil _ _ _ _ _⟩,(bl_ HB)⟩
  clear H'
  obtain⟨x5_1,x6_1,x7_1,rfl,rfl,HA,HK1,HO_5,HB⟩:=hrel
  cases gk with
  | zero=>exact absurd HA.out (by simp[num_Add.l0])
  | succ k1=>?_
  have H:=HA.out
  clear HA
  simp only[num_Add.l0] at H
  have HC8:=Aside0.mk H
  clear H
  go_upto_region 6 with (fail)
  go_cut [24] (fun v24 wc=>∃(kq:Nat) (x24_7:Bool),v24= .bool x24_7∧Aside0 (num_Add.j1 kq a0 a1 x5_1 x6_1 x7_1 x24_7=some r)∧Aside0 (kq≤k1)∧Aside0 (Kd.R (Kd.int .u8) 5 wc w.heap.size (fun _=>True) u5 x5_1)∧Aside0 (Below w.heap.size w wc))
  case first =>
   have H:=HC8.out
   clear HC8
   obtain⟨ji9,hji9⟩:∃j_:Int,(mx (a0.size:Int) (a1.size:Int))=j_:=⟨_,rfl⟩
   replace H:(if x7_1<(ji9) then (num_Add.j1 k1 a0 a1 x5_1 x6_1 x7_1 true) else (num_Add.j1 k1 a0 a1 x5_1 x6_1 x7_1 (decide (x6_1>0))))=some r:=by first|(rw[hji9] at H;exact H)|(simp only[hji9] at H ⊢;exact H)
   have hji9_:(if (a0.size:Int)<(a1.size:Int) then (a1.size:Int) else (a0.size:Int))=ji9:=hji9
   have hji9n:(if a0.size<a1.size then (a1.size:Int) else (a0.size:Int))=ji9:=by have h_:=hji9_;simp only[Int.ofNat_lt] at h_;exact h_
   by_cases c10:x7_1<(ji9)
   ·rw[if_pos c10] at H
    have c10b0:=decide_eq_true c10
    clear c10
    (first|rw[c10b0]|(simp only[i64_w,i32_w];rw[c10b0])|skip)
    have H':=Aside0.mk H
    clear H
    go_wp2
    go_meet
    case rel=>first|(exact⟨_,(true),eq_,(by first|exact H'|(rw[hji9];exact H')|(simp only[hji9];exact H')),⟨by have:=HK1.out;first|omega|exact Nat.le_refl _⟩,⟨kdR_ HO_5.out⟩,(bl_ HB)⟩)|(rw[← hji9] at H';exact⟨_,(true),eq_,(by first|exact H'|(rw[hji9];exact H')|(simp only[hji9];exact H')),⟨by have:=HK1.out;first|omega|exact Nat.le_refl _⟩,⟨kdR_ HO_5.out⟩,(bl_ HB)⟩)
   rw[if_neg c10] at H
   have c10b0:=decide_eq_false c10
   clear c10
   (first|rw[c10b0]|(simp only[i64_w,i32_w];rw[c10b0])|skip)
   have H':=Aside0.mk H
   clear H
   go_wp2
   go_meet
   case rel=>first|(exact⟨_,(decide (x6_1>0)),eq_,(by first|exact H'|(rw[hji9];exact H')|(simp only[hji9];exact H')),⟨by have:=HK1.out;first|omega|exact Nat.le_refl _⟩,⟨kdR_ HO_5.out⟩,(bl_ HB)⟩)|(rw[← hji9] at H';exact⟨_,(decide (x6_1>0)),eq_,(by first|exact H'|(rw[hji9];exact H')|(simp only[hji9];exact H')),⟨by have:=HK1.out;first|omega|exact Nat.le_refl _⟩,⟨kdR_ HO_5.out⟩,(bl_ HB)⟩)
  clear HC8
  obtain⟨kq,x24_7,rfl,HA,HJ7,HO_5,HB⟩:=hcut
  cases kq with
  | zero=>exact absurd HA.out (by simp[num_Add.j1])
  | succ kj7=>?_
  have H:=HA.out
  clear HA
  simp only[num_Add.j1] at H
  by_cases c11:x24_7=true
  ·subst c11
   rw[if_pos rfl] at H
   replace H:=Option.bind_eq_some_iff.mp H
   obtain⟨t318,A120,H⟩:=H
   have A12:=Aside0.mk A120
   clear A120
   replace H:=Option.bind_eq_some_iff.mp H
   obtain⟨t319,A130,H⟩:=H
   have A13:=Aside0.mk A130
   clear A130
   replace H:=ifn_ H
   obtain⟨c14,H⟩:=H
   have LMc14:=Aside0.mk c14
   clear c14
   obtain⟨y320,hy320⟩:∃y_:List Int,y_=(x5_1++[(48+(Int.tmod (wrap64 ((wrap64 (t318+t319))+x6_1)) 10))%256]):=⟨_,rfl⟩
   replace H:(num_Add.l0 kj7 a0 a1 y320 (wrap64 (Int.tdiv (wrap64 ((wrap64 (t318+t319))+x6_1)) 10)) (wrap64 (x7_1+1)))=some r:=by first|(rw[hy320];with_reducible exact H)|(have H2_:=(Option.bind_some _ _).symm.trans H;rw[hy320];with_reducible exact H2_)|(have H2_:=(Option.bind_some _ _).symm.trans H;with_reducible exact H2_)|with_reducible exact H|(rw[hy320];exact H)|exact H
   have Ny320:=Aside0.mk hy320
   clear hy320
   have H':=Aside0.mk H
   clear H
   go_wp2_with (first|((with_reducible refine gate_callee (f:=44) rfl ?_);refine gl_ (some 29) Tryd.func44 #[.string a0,.int .i64 x7_1] ?_;(with_reducible refine(num_at.calls _ _ _ _ A12.out).mono ?_);rintro e w' ⟨rfl,⟨nd,rfl⟩⟩;refine⟨_,rfl,?_⟩)|((with_reducible refine gate_callee (f:=44) rfl ?_);refine gl_ (some 32) Tryd.func44 #[.string a1,.int .i64 x7_1] ?_;(with_reducible refine(num_at.calls _ _ _ _ A13.out).mono ?_);rintro e w' ⟨rfl,⟨nd,rfl⟩⟩;refine⟨_,rfl,?_⟩)|((with_reducible refine gate_builtin (b:= .append) (xs:= #[.tmp 36,.tmp 41]) rfl ?_);at_builtin;refine Kd.R_append (Kd.int .u8) (w0:=w) w.heap.size rfl (.tmp 36) (.tmp 41) 87 5 (.int .u8 0) 1 rfl Tryd.underlying87 info5 rfl (by decide) (by omega) u5 x5_1 ((48+(Int.tmod (wrap64 ((wrap64 (t318+t319))+x6_1)) 10))%256) [.int .u8 ((48+(Int.tmod (wrap64 ((wrap64 (t318+t319))+x6_1)) 10))%256)] (fun _=>True) (fun _=>False) rfl rfl ?aP (fun _ hk=>hk.elim) ?aF ?aO ?aB ?aS ?aL ?_;(case aP=>exact rfl);(case aB=>exact(bl_ HB).out);(case aF=>exact(fun _ _=>trivial));(case aO=>exact(kr_ HO_5));(case aS=>exact(below_size (bl_ HB).out));(case aL=>have:=LMc14.out;omega);intro v321 w15 ho hb hg hat;rw[← Ny320.out] at ho;have n0_:=Aside0.mk (hb);have n1_:=Aside0.mk (ho);clear HB;clear HO_5;revert n0_ n1_;intro HB HO322;clear ho hb hg hat))
   go_roundg kj7
   case measure=>have:=HK1.out;have:=HJ7.out;omega
   case rel=>exact⟨(y320),(wrap64 (Int.tdiv (wrap64 ((wrap64 (t318+t319))+x6_1)) 10)),(wrap64 (x7_1+1)),eq_,eq_,H',⟨by have:=HK1.out;have:=HJ7.out;omega⟩,⟨kdR_ HO322.out⟩,(bl_ HB)⟩
  replace c11:=Bool.eq_false_iff.mpr c11
  subst c11
  rw[if_neg (show ¬(false=true) by decide)] at H
  replace H:=Option.bind_eq_some_iff.mp H
  obtain⟨t323,A160,H⟩:=H
  have A16:=Aside0.mk A160
  clear A160
  obtain rfl:=Option.some.inj H
  obtain⟨Ao17,co17,eo17⟩:=Kd.R_slice HO_5.out
  subst eo17
  go_wp2_with (first|((with_reducible refine gate_callee (f:=38) rfl ?_);refine gl_ (some 46) Tryd.func38 #[.slice Ao17 x5_1.length co17] ?_;(with_reducible refine(num_text.calls _ _ _ _ _ _ ?side1 ?side2 A16.out).mono ?_);(case side1=>exact kc_ HO_5);(case side2=>exact kl_ HO_5);rintro e w18 ⟨rfl,hb⟩;refine⟨_,rfl,?_⟩;replace HO_5:=kb_ HO_5 hb;replace HB:=Aside0.mk (below_step (bl_ HB).out hb);(try clear hb);(try clear hi)))
  go_ret
  exact⟨ew_,(bl_ HB).out⟩
 replace c4:=Bool.eq_false_iff.mpr c4
 subst c4
 rw[if_neg (show ¬(false=true) by decide)] at H
 obtain rfl:=Option.some.inj H
 go_enter Tryd.func33,Tryd.ntmps33
 go_wp2_with (first|((with_reducible refine gate_dst (N:=11) rfl ?_);refine Kd.R_lit Kd.string _ 9 ?hg (N:=11) ?hd (xs:=([a0,a1]:List ByteArray)) (inner:=[.string a0,.string a1]) (ok:=fun _=>True) (okp:=fun _=>True) ?hr ?hp (fun _ hk=>hk) trivial (Below.refl _ _) (Nat.le_refl _) (by simp) ?_;(case hd=>rfl);(case hg=>rfl);(case hr=>first|(go_simp;done)|(go_simp;rfl));(case hp=>exact(Reps.one (show Kd.M Kd.string _ _ _ a0 [.string a0] from rfl) (Reps.one (show Kd.M Kd.string _ _ _ a1 [.string a1] from rfl) (Reps.none _ _))));intro v315 w19 ho20 hb hg_ hnew_;clear hg_ hnew_;(first|rw[← Ny314.out] at ho20|(simp only[Int.reduceToNat] at ho20;rw[← Ny314.out] at ho20));have HO316:=Aside0.mk (Kd.R_lower ho20 (below_size (bl_ HB).out));replace HB:=Aside0.mk (below_step (bl_ HB).out hb);clear hb ho20;obtain⟨Ao21,co21,eo21⟩:=Kd.R_slice HO316.out;subst eo21)|((with_reducible refine gate_callee (f:=43) rfl ?_);refine gl_ (some 12) Tryd.func43 #[.slice Ao21 y314.length co21] ?_;(with_reducible refine(num_all.calls _ _ _ _ _ _ ?side1 ?side2 A3.out).mono ?_);(case side1=>exact kc_ HO316);(case side2=>exact kl_ HO316);rintro e w' ⟨rfl,⟨nd,rfl⟩⟩;refine⟨_,rfl,?_⟩))
 go_ret
 exact⟨ew_,(bl_ HB).out⟩

/-! ### num_Of: function 25 -/
def num_Of.l0:Nat→Int→List Int→Option (ByteArray)
 | 0,_,_=>none
 | k+1,x0,x3=>if x0>0 then (if x3.length<140737488355328 then (num_Of.l0 k (wrap64 (Int.tdiv x0 10)) (x3++[(48+(Int.tmod x0 10))%256])) else (none)) else ((num_text.f k x3).bind fun t327=>(some t327))
def num_Of.f (k:Nat) (a0:Int):Option (ByteArray):=num_Of.l0 k a0 ([]:List Int)
set_option maxHeartbeats 64000000 in
set_option maxRecDepth 100000 in
theorem num_Of.calls (k:Nat) (a0:Int) (r:ByteArray) (w:World) (h:num_Of.f k a0=some r) :
  Calls Tryd.prog 25 #[.int .i64 a0] w fun e w'=>e= .returned (.string r)∧Below w.heap.size w w':=by
 have HB:=Aside0.mk (Below.refl w.heap.size w)
 have H:=h
 clear h
 unfold num_Of.f at H
 have H':=Aside0.mk H
 clear H
 go_enter Tryd.func25,Tryd.ntmps25
 go_wp2
 go_loopg [0,3] k (fun kq v0 v3 w'=>∃(x0_1:Int) (x3_1:List Int),v0= .int .i64 x0_1∧Aside0 (num_Of.l0 kq x0_1 x3_1=some r)∧Aside0 (kq≤k)∧Aside0 (Kd.R (Kd.int .u8) 5 w' w.heap.size (fun _=>True) v3 x3_1)∧Aside0 (Below w.heap.size w w'))
 case atStart=>exact⟨(a0),(([]:List Int)),eq_,H',⟨Nat.le_refl _⟩,⟨by first|exact Kd.R_nil _ _ _ _ _|exact Kd.N_nil _ _ _ _ _|exact Kd.V_nil _ _ _ _ _|exact Kd.Q_nil _ _ _ _ _|exact Kd.S_nil _ _ _ _ _⟩,(bl_ HB)⟩
 clear H'
 obtain⟨x0_1,x3_1,rfl,HA,HK1,HO_3,HB⟩:=hrel
 cases gk with
 | zero=>exact absurd HA.out (by simp[num_Of.l0])
 | succ k1=>?_
 have H:=HA.out
 clear HA
 simp only[num_Of.l0] at H
 by_cases c2:x0_1>0
 ·rw[if_pos c2] at H
  have c2b0:decide (0<x0_1)=true:=decide_eq_true c2
  clear c2
  replace H:=ifn_ H
  obtain⟨c3,H⟩:=H
  have LMc3:=Aside0.mk c3
  clear c3
  obtain⟨y324,hy324⟩:∃y_:List Int,y_=(x3_1++[(48+(Int.tmod x0_1 10))%256]):=⟨_,rfl⟩
  replace H:(num_Of.l0 k1 (wrap64 (Int.tdiv x0_1 10)) y324)=some r:=by first|(rw[hy324];with_reducible exact H)|(have H2_:=(Option.bind_some _ _).symm.trans H;rw[hy324];with_reducible exact H2_)|(have H2_:=(Option.bind_some _ _).symm.trans H;with_reducible exact H2_)|with_reducible exact H|(rw[hy324];exact H)|exact H
  have Ny324:=Aside0.mk hy324
  clear hy324
  have H':=Aside0.mk H
  clear H
  go_wp2_with (first|((with_reducible refine gate_builtin (b:= .append) (xs:= #[.tmp 8,.tmp 13]) rfl ?_);at_builtin;refine Kd.R_append (Kd.int .u8) (w0:=w) w.heap.size rfl (.tmp 8) (.tmp 13) 87 5 (.int .u8 0) 1 rfl Tryd.underlying87 info5 rfl (by decide) (by omega) u3 x3_1 ((48+(Int.tmod x0_1 10))%256) [.int .u8 ((48+(Int.tmod x0_1 10))%256)] (fun _=>True) (fun _=>False) rfl rfl ?aP (fun _ hk=>hk.elim) ?aF ?aO ?aB ?aS ?aL ?_;(case aP=>exact rfl);(case aB=>exact(bl_ HB).out);(case aF=>exact(fun _ _=>trivial));(case aO=>exact(kr_ HO_3));(case aS=>exact(below_size (bl_ HB).out));(case aL=>have:=LMc3.out;omega);intro v325 w4 ho hb hg hat;rw[← Ny324.out] at ho;have n0_:=Aside0.mk (hb);have n1_:=Aside0.mk (ho);clear HB;clear HO_3;revert n0_ n1_;intro HB HO326;clear ho hb hg hat))
  go_roundg k1
  case measure=>have:=HK1.out;omega
  case rel=>exact⟨(wrap64 (Int.tdiv x0_1 10)),(y324),eq_,H',⟨by have:=HK1.out;omega⟩,⟨kdR_ HO326.out⟩,(bl_ HB)⟩
 rw[if_neg c2] at H
 have c2b0:decide (0<x0_1)=false:=decide_eq_false c2
 clear c2
 replace H:=Option.bind_eq_some_iff.mp H
 obtain⟨t327,A50,H⟩:=H
 have A5:=Aside0.mk A50
 clear A50
 obtain rfl:=Option.some.inj H
 obtain⟨Ao6,co6,eo6⟩:=Kd.R_slice HO_3.out
 subst eo6
 go_wp2_with (first|((with_reducible refine gate_callee (f:=38) rfl ?_);refine gl_ (some 16) Tryd.func38 #[.slice Ao6 x3_1.length co6] ?_;(with_reducible refine(num_text.calls _ _ _ _ _ _ ?side1 ?side2 A5.out).mono ?_);(case side1=>exact kc_ HO_3);(case side2=>exact kl_ HO_3);rintro e w7 ⟨rfl,hb⟩;refine⟨_,rfl,?_⟩;replace HO_3:=kb_ HO_3 hb;replace HB:=Aside0.mk (below_step (bl_ HB).out hb);(try clear hb);(try clear hi)))
 go_ret
 exact⟨ew_,(bl_ HB).out⟩

/-! ### florinlaw08_texts: function 11 -/
def sample_Item_All.go (k:Nat) (digits:ByteArray) (part width m:Int):Nat→Int→Option (List ByteArray)
  | 0,_=>none
  | n+1,i=>if i≤m then (num_Of.f k i).bind fun t=>(num_Add.f k digits t).bind fun u=>(sample_pointed.f u part width).bind fun s=>(sample_Item_All.go k digits part width m n (wrap64 (i+1))).bind fun r=>some (s::r) else some []
def sample_Item_All.f (k:Nat) (lo hi:ByteArray):Option (List ByteArray):=(sample_steps.f k lo hi).bind fun t=>if hi=(⟨#[]⟩:ByteArray) then some [lo] else if t.2=true then (sample_plain.f k lo).bind fun p=>sample_Item_All.go k p.1 p.2.1 (p.1.size:Int) (if t.1<1000 then t.1 else 1000) k 0 else some [lo]
def florinlaw08_texts.f (k:Nat) (a0_0 a0_1:ByteArray):Option (List ByteArray):=(sample_Item_All.f k a0_0 a0_1).bind fun r=>if r.length≤1000000 then some r else none
section
attribute [local go_sem] Oper.semAt_some
theorem sample_gob {W W':World} (h:Below W.heap.size W W'):W.grownBy W' none:=⟨h.os,h.tape,h.output,h.size,fun k hk _=>h.block k hk⟩
set_option maxRecDepth 100000 in
set_option maxHeartbeats 4000000 in
theorem sample_Item_All.in1 (k:Nat) (lo hi:ByteArray) (xs:List ByteArray) (h:sample_Item_All.f k lo hi=some xs) (n:Nat) (hn:3≤n) (l Bn n₀:Nat) (J Jx:List ByteArray→World→Prop)
  (hY:∀pre x W,J pre W→pre.length<xs.length→YieldAt Fence.wide (n-1) Tryd.prog l #[.string x] W fun e W'=>(e= .returned (.bool true)∧J (pre++[x]) W'∧Below n₀ W W')∨(e= .returned (.bool false)∧Jx (pre++[x]) W'))
  (W:World) (hJ:AbidesFrom W.heap.size J) (hBn:W.heap[Bn]? = some (.cells #[.string lo,.string hi] 37 (0,0))) (h0:J [] W) :
  CallsIn Fence.wide n Tryd.prog 29 #[.func (.yield l) #[] #[],.pointer (some ⟨Bn,0,none⟩)] W fun e W'=>(∃v,e= .returned v)∧((∃ys,ys=xs∧J ys W')∨(∃pre,pre <+:xs∧Jx pre W')):=by
  obtain⟨⟨t1,t2⟩,hst,h⟩:=Option.bind_eq_some_iff.mp h
  have hab:∀ {s:List ByteArray} {A B:World},J s A→Below A.heap.size A B→J s B:=fun hj hb=>hJ _ _ _ none hj (sample_gob hb) (fun r e=>by cases e)
  have hlt:=blk_lt hBn
  have hc0:=blk_cell hBn 0
  have hc1:=blk_cell hBn 1
  refine callsIn_of_wp Tryd.func29 rfl trivial ?_ rfl
  simp only[Tryd.ntmps29,List.size_toArray,List.length_cons,List.length_nil,Nat.reduceAdd,Nat.reduceSub,Array.replicate_succ,Array.replicate_zero,List.push_toArray,List.append_toArray,List.nil_append,List.cons_append]
  by_cases hone:hi=(⟨#[]⟩:ByteArray)∨t2=false
  · have hxs:xs=[lo]:=by
      dsimp only at h
      rcases hone with e|e
      · rw[if_pos e] at h;exact(Option.some.inj h).symm
      · subst e
        split at h
        · exact(Option.some.inj h).symm
        · rw[if_neg (by decide)] at h;exact(Option.some.inj h).symm
    subst hxs
    have hif:(if hi.toList.isEmpty=true then true else !t2)=true:=by
      rcases hone with e|e
      · subst e;rw[show(⟨#[]⟩:ByteArray).toList.isEmpty=true from by rw[ByteArray.toList_eq];rfl];rfl
      · subst e;split <;> rfl
    gi_wp2
    refine⟨trivial,fun _=>by omega,?_⟩
    with_reducible refine(callsIn_wide.2 (sample_steps.calls k lo hi t1 t2 _ hst)).mono ?_
    rintro e w1 ⟨rfl,hb1⟩
    have hB1:=blk_below hBn hb1
    have hd0:=blk_cell hB1 0
    have hd1:=blk_cell hB1 1
    obtain⟨fn,tmps,assign,body,hy,hR⟩:=hY [] lo w1 (hab h0 hb1) (by simp)
    gi_wp2
    · refine⟨fun _=>by omega,hR.mono ?_⟩
      rintro e W' (⟨rfl,hJ',hk⟩|⟨rfl,hJx'⟩)
      · gi_wp2
        refine bodyPost_ret (results_none rfl _ _ _) rfl ?_
        exact⟨⟨_,rfl⟩,.inl ⟨[lo],rfl,hJ'⟩⟩
      · gi_wp2
        refine bodyPost_ret (results_none rfl _ _ _) rfl ?_
        exact⟨⟨_,rfl⟩,.inr ⟨[lo],List.prefix_refl _,hJx'⟩⟩
    · refine⟨fun _=>by omega,hR.mono ?_⟩
      rintro e W' (⟨rfl,hJ',hk⟩|⟨rfl,hJx'⟩)
      · gi_wp2
        refine bodyPost_ret (results_none rfl _ _ _) rfl ?_
        exact⟨⟨_,rfl⟩,.inl ⟨[lo],rfl,hJ'⟩⟩
      · gi_wp2
        refine bodyPost_ret (results_none rfl _ _ _) rfl ?_
        exact⟨⟨_,rfl⟩,.inr ⟨[lo],List.prefix_refl _,hJx'⟩⟩
    · have hno:= ‹hi.toList.isEmpty=false∧(!t2)=false›
      rw[hno.1] at hif
      rw[if_neg (by decide),hno.2] at hif
      cases hif
  · have hno1:hi≠(⟨#[]⟩:ByteArray):=fun e=>hone (.inl e)
    have hno2:t2=true:=by cases t2 with|true=>rfl|false=>exact absurd (.inr rfl) hone
    subst hno2
    have hemp:hi.toList.isEmpty=false:=by
      cases hc:hi.toList with
      | nil=>exact absurd (show hi=⟨#[]⟩ by
          have e1:hi.data.toList=[]:=by rw[← ByteArray.toList_eq];exact hc
          have e2:hi.data= #[]:=Array.toList_inj.mp (by simpa using e1)
          cases hi;exact congrArg _ e2) hno1
      | cons a b=>rfl
    rw[if_neg hno1,if_pos rfl] at h
    obtain⟨⟨p1,p2,p3⟩,hpl,h5⟩:=Option.bind_eq_some_iff.mp h
    clear h
    dsimp only at h5
    gi_wp2
    refine⟨trivial,fun _=>by omega,?_⟩
    with_reducible refine(callsIn_wide.2 (sample_steps.calls k lo hi t1 true _ hst)).mono ?_
    rintro e w1 ⟨rfl,hb1⟩
    have hB1:=blk_below hBn hb1
    have hd0:=blk_cell hB1 0
    have hd1:=blk_cell hB1 1
    gi_wp2
    refine⟨trivial,fun _=>by omega,?_⟩
    with_reducible refine(callsIn_wide.2 (sample_plain.calls k lo p1 p2 p3 _ hpl)).mono ?_
    rintro e w2 ⟨rfl,hdr⟩
    have hb2:=hdr.below
    have hJ2:=hab (hab h0 hb1) hb2
    gi_wp2
    have hm3:(if t1<1000 then t1 else (1000:Int))≤1000:=by split <;> omega
    generalize hm:(if t1<1000 then t1 else (1000:Int))=m at h5 hm3
    have hm4:(if (1000:Int)<t1 then (1000:Int) else t1)=m:=by rw[← hm];split <;> split <;> omega
    gi_loopw [9] (fun v wr=>∃(pre rest:List ByteArray) (i:Int) (n':Nat),v= .int .i64 i∧xs=pre++rest∧0≤i∧sample_Item_All.go k p1 p2 (p1.size:Int) m n' i=some rest∧J pre wr) (fun v _=>(m+1-intOf v).toNat)
    case atStart=>exact⟨[],xs,0,k,rfl,rfl,Int.le_refl _,h5,hJ2⟩
    case round =>
      obtain⟨pre,rest,i,n',rfl,hx,hi0,hgo,hJs⟩:=hrel
      cases n' with
      | zero=>exact absurd hgo (by simp[sample_Item_All.go])
      | succ n' =>
      rw[sample_Item_All.go] at hgo
      by_cases hlt:i≤m
      · rw[if_pos hlt] at hgo
        obtain⟨s1,h1,hgo⟩:=Option.bind_eq_some_iff.mp hgo
        obtain⟨s2,h2,hgo⟩:=Option.bind_eq_some_iff.mp hgo
        obtain⟨s3,h3,hgo⟩:=Option.bind_eq_some_iff.mp hgo
        have hw1:wrap64 (i+1)=i+1:=by unfold wrap64;omega
        obtain⟨rs,h4,hgo⟩:=Option.bind_eq_some_iff.mp hgo
        obtain rfl:=Option.some.inj hgo
        gi_wp2
        refine⟨trivial,fun _=>by omega,?_⟩
        with_reducible refine(callsIn_wide.2 (num_Of.calls k i s1 _ h1)).mono ?_
        rintro e w3 ⟨rfl,hb3⟩
        gi_wp2
        refine⟨trivial,fun _=>by omega,?_⟩
        with_reducible refine(callsIn_wide.2 (num_Add.calls k p1 s1 s2 _ h2)).mono ?_
        rintro e w4 ⟨rfl,hb4⟩
        gi_wp2
        refine⟨trivial,fun _=>by omega,?_⟩
        with_reducible refine(callsIn_wide.2 (sample_pointed.calls s2 p2 (p1.size:Int) s3 _ h3)).mono ?_
        rintro e w5 ⟨rfl,hb5⟩
        obtain⟨fn,tmps,assign,body,hy,hR⟩:=hY pre s3 w5 (hab (hab (hab hJs hb3) hb4) hb5) (by rw[hx];simp)
        gi_wp2
        refine⟨fun _=>by omega,hR.mono ?_⟩
        rintro e W' (⟨rfl,hJ',hk⟩|⟨rfl,hJx'⟩)
        · gi_wp2
          go_roundw
          case rel=>exact⟨pre++[s3],rs,wrap64 (i+1),n',by rw[hw1],by rw[hx];simp,by omega,h4,hJ'⟩
          case measure=>simp[intOf];omega
        · gi_wp2
          refine bodyPost_ret (results_none rfl _ _ _) rfl ?_
          exact⟨⟨_,rfl⟩,.inr ⟨pre++[s3],⟨rs,by rw[hx];simp⟩,hJx'⟩⟩
      · rw[if_neg hlt] at hgo
        obtain rfl:=Option.some.inj hgo
        gi_wp2
        go_end0
        exact⟨⟨_,rfl⟩,.inl hJs⟩

set_option maxHeartbeats 1000000 in
theorem sample_Item_All.in_ (n:Nat) (lo hi:ByteArray) (w:World) :
    CallsIn Fence.wide n Tryd.prog 19 #[.agg #[.string lo,.string hi]] w fun e w'=>e= .returned (.func (.func 29) #[] #[.pointer (some ⟨w.heap.size,0,none⟩)])∧w'=w.alloc (.cells #[.string lo,.string hi] 37):=by
  refine callsIn_of_wp Tryd.func19 rfl trivial ?_ rfl
  simp only[Tryd.ntmps19,List.size_toArray,List.length_cons,List.length_nil,Nat.reduceAdd,Nat.reduceSub,Array.replicate_succ,Array.replicate_zero,List.push_toArray,List.append_toArray,List.nil_append,List.cons_append]
  gi_wp2
  go_ret
  exact⟨rfl,rfl⟩
theorem sample_Item_All.stops (k:Nat) (lo hi:ByteArray) (xs:List ByteArray) (h:sample_Item_All.f k lo hi=some xs) (n:Nat) (hn:3≤n) (Bn n₀:Nat) (w:World) (hBn:w.heap[Bn]? = some (.cells #[.string lo,.string hi] 37 (0,0))) :
    SeqStopsK Fence.wide n Tryd.prog 29 #[.pointer (some ⟨Bn,0,none⟩)] (fun x:ByteArray=> #[Value.string x]) (Below n₀) (fun ys=>ys=xs) (fun pre=>pre <+:xs) xs.length w:=fun l J Jx W hW hJ _ hY h0 =>
  sample_Item_All.in1 k lo hi xs h n hn l Bn n₀ J Jx hY W hJ (blk_below hBn hW) h0
theorem sample_info_str:(Tryd.prog.info? 9).map (fun i=>(i.zero,i.size,i.bytes))=some (some (.string ⟨#[]⟩),1,16):=by kernel_rfl
set_option maxRecDepth 100000 in
set_option maxHeartbeats 2000000 in
theorem florinlaw08_texts.calls (k:Nat) (a0_0 a0_1:ByteArray) (r:List ByteArray) (w:World) (h:florinlaw08_texts.f k a0_0 a0_1=some r) :
    Calls Tryd.prog 11 #[.agg #[.string a0_0,.string a0_1]] w fun e w'=>∃v0_:Value,e= .returned v0_∧Kd.R Kd.string 9 w' w.heap.size (fun _=>True) v0_ r∧Below w.heap.size w w':=by
  obtain⟨xs,hxs,h⟩:=Option.bind_eq_some_iff.mp h
  have hlen:xs.length≤1000000∧xs=r:=by
    split at h
    · rename_i hc;exact⟨hc,Option.some.inj h⟩
    · cases h
  obtain⟨hlen,rfl⟩:=hlen
  clear h
  obtain⟨i0,hi,hz0,hz1,hz2⟩:=info_parts sample_info_str
  refine(callsIn_wide (n:=5)).1 ?_
  refine callsIn_of_wp_marks Tryd.func11 rfl trivial ?_ rfl
  simp only[Tryd.ntmps11,List.size_toArray,List.length_cons,List.length_nil,Nat.reduceAdd,Nat.reduceSub,Array.replicate_succ,Array.replicate_zero,List.push_toArray,List.append_toArray,List.nil_append,List.cons_append]
  gi_wp2
  refine⟨trivial,?_⟩
  refine(sample_Item_All.in_ _ a0_0 a0_1 _).mono ?_
  rintro e w' ⟨rfl,rfl⟩
  gi_wp2
  have bO:=Boxed.new ((w.alloc (.cells #[.string a0_0,.string a0_1] 37)).alloc (.cells #[] 9)) 38 (.slice (some ⟨w.heap.size+1,0,none⟩) 0 0)
  have hB0:Below w.heap.size w ((((w.alloc (.cells #[.string a0_0,.string a0_1] 37)).alloc (.cells #[] 9)).alloc (.cells #[.slice (some ⟨w.heap.size+1,0,none⟩) 0 0] 38)).alloc (.cells #[.string a0_0,.string a0_1] 37)):=below_alloc (below_alloc (below_alloc (below_alloc (Below.refl _ _) _) _) _) _
  generalize hv0:(Value.slice (some ⟨w.heap.size+1,0,none⟩) 0 0)=v0 at bO hB0
  have hrow0:((((w.alloc (.cells #[.string a0_0,.string a0_1] 37)).alloc (.cells #[] 9)).alloc (.cells #[v0] 38)).alloc (.cells #[.string a0_0,.string a0_1] 37)).ownsRow w.heap.size 9 1 v0 ([]:List ByteArray).length (([]:List ByteArray).map Value.string):=by
    refine⟨rfl,.inr ⟨w.heap.size+1,0, #[],hv0.symm,by omega,blk_alloc (blk_alloc ?_ _) _,Nat.le_refl _,by decide,rfl,rfl⟩⟩
    have:=heap_alloc_new (w.alloc (.cells #[.string a0_0,.string a0_1] 37)) (.cells #[] 9)
    simpa using this
  have hitem:((((w.alloc (.cells #[.string a0_0,.string a0_1] 37)).alloc (.cells #[] 9)).alloc (.cells #[v0] 38)).alloc (.cells #[.string a0_0,.string a0_1] 37)).heap[w.heap.size+3]? = some (.cells #[.string a0_0,.string a0_1] 37 (0,0)):=by
    have:=heap_alloc_new (((w.alloc (.cells #[.string a0_0,.string a0_1] 37)).alloc (.cells #[] 9)).alloc (.cells #[v0] 38)) (.cells #[.string a0_0,.string a0_1] 37)
    simpa using this
  have bO':=bO.alloc (.cells #[.string a0_0,.string a0_1] 37)
  have hsz:((((w.alloc (.cells #[.string a0_0,.string a0_1] 37)).alloc (.cells #[] 9)).alloc (.cells #[v0] 38)).alloc (.cells #[.string a0_0,.string a0_1] 37)).heap.size=w.heap.size+4:=by simp
  simp only[World.size_alloc] at bO'
  subst hv0
  refine wpIn_rangeFunc_ownG rfl (by decide) (gf:=29) (lb:= #[.pointer (some ⟨w.heap.size+3,0,none⟩)]) rfl trivial (enters_of Tryd.func29 (by kernel_rfl) rfl)
    (sample_Item_All.stops k a0_0 a0_1 xs hxs 4 (by decide) (w.heap.size+3) w.heap.size _ hitem) belowK_t (belowK_b (by simp;omega)) (Below.refl _ _) (fun _=>rfl)
    (fun pre W=>(∃v,Boxed W (w.heap.size+1+1) 38 v∧W.ownsRow w.heap.size 9 1 v pre.length (pre.map Value.string)∧True)∧Below w.heap.size w W)
    (fun _ _ _=>False)
    (OwnFrom.and (Own.from (holdsRow_own w.heap.size (w.heap.size+1+1) 38 9 1 (fun pre:List ByteArray=>pre.length) (fun pre=>pre.map Value.string) (fun _ _=>True)) _) (ownFrom_below (Nat.le_refl _) (by simp;omega)))
    (fun _ _ _ _ _ hs _ _=>hs)
    ⟨⟨_,bO',hrow0,trivial⟩,hB0⟩
    (fun x=>{tmps:= #[.agg #[.string a0_0,.string a0_1],.pointer (some ⟨w.heap.size,0,none⟩),.slice none 0 0,.pointer (some ⟨w.heap.size+1+1,0,none⟩),.string x,.slice (some ⟨w.heap.size+1,0,none⟩) 0 0,.agg #[.string a0_0,.string a0_1],.func (.func 29) #[] #[.pointer (some ⟨w.heap.size+3,0,none⟩)],.string x,undef,undef,undef,undef,undef],defers:=[]}) ?assign ?body ?done ?stop
  case assign =>
    intro l x W K hK
    gi_wp2
    exact hK
  case body =>
    rintro l pre x W ⟨⟨v,hv,hrow,-⟩,hB⟩ hlt
    have hc:=hv.cell
    gi_wp2_with (gi_at_builtin;refine wpListIn_append_own _ rfl _ _ 38 rfl w.heap.size 9 i0 (.string ⟨#[]⟩) 1 16 Tryd.underlying38 hi hz0 hz1 hz2 rfl (by decide) _ _ _ rfl (hrow.alloc _) ⟨W.heap.size,0,none⟩ 1 1 [.string x] rfl rfl (cell_one_new _ _ _) (by simp[Value.oneCell']) (by unfold maxLen;omega) (by omega) (by have:=hB.size;simp;omega) ?_;intro v' w1 hown' hgrow _;obtain⟨g',cap',rfl⟩:=ownsRow_succ hown';obtain⟨hv1,hv2,hr2,hk2,hb2⟩:=hv.appended (by decide) hrow hB.size (by omega) hown' hgrow;have hc1:=hv1.cell;have hf1:=hv1.frozen)
    exact⟨hk2.from _,hb2,⟨_,hv2,by simpa using hr2,trivial⟩,hB.trans hb2⟩
  case done =>
    rintro D ys W hD rfl ⟨⟨v,hv,hrow,-⟩,hB⟩ hK
    have hc:=hv.cell
    gi_wp2
    refine⟨by simp,.inl ⟨_,_,rfl,run_takeDeferred hK,?_⟩⟩
    refine⟨_,results_tmp rfl _ _ _,v,rfl,?_,hB.trans (belowK_b (w:=w) (Nat.le_refl _) W D _ _ (by simp at hD;omega) hK rfl rfl)⟩
    exact Kd.R_of_own (ownsRow_putObj hrow _ hK rfl) (fun _ _=>trivial)
  case stop =>
    rintro D c pre W _ _ h _
    exact h.elim
end

end Go.Proofs.YtbhhfpjiacfofaaDoor.P
