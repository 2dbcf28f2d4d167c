-- written by a program of this session (wip/p2)
import Derived.Test.YtbhhfpjiacfofaaDoorPx0
import Derived.Test.YtbhhfpjiacfofaaDoorPx2
namespace Go.Proofs.YtbhhfpjiacfofaaDoor.P
open Go.RowKit Go.Proofs.YtbhhfpjiacfofaaDoorW.PrintWords Go.Proofs.YtbhhfpjiacfofaaDoorW.PrintLast Go.Proofs.YtbhhfpjiacfofaaDoorW.PrintMore
attribute [local go_sem] max2_int min2_int max_two min_two max_three min_three max_four min_four   -- for this text's walks alone
set_option linter.unusedVariables false
set_option linter.unusedSimpArgs false

/-! ### num_Cmp: function 49 -/
def num_Cmp.f (k:Nat) (a0:ByteArray) (a1:ByteArray):Option (Int):=(num_all.f k (([a0,a1]:List ByteArray))).bind fun t126=>(if t126=true then ((num_Trim.f k a0).bind fun t127=>((num_Trim.f k a1).bind fun t128=>(if (t127.size:Int)=(t128.size:Int) then ((strings_Compare.f t127 t128).bind fun t129=>(some t129)) else ((cmp_Compare_int.f (t127.size:Int) (t128.size:Int)).bind fun t130=>(some t130))))) else (some 0))
set_option maxHeartbeats 64000000 in
set_option maxRecDepth 100000 in
theorem num_Cmp.calls (k:Nat) (a0:ByteArray) (a1:ByteArray) (r:Int) (w:World) (h:num_Cmp.f k a0 a1=some r) :
  Calls Tryd.prog 49 #[.string a0,.string a1] w fun e w'=>e= .returned (.int .i64 r)∧Below w.heap.size w w':=by
 have HB:=Aside0.mk (Below.refl w.heap.size w)
 have H:=h
 clear h
 unfold num_Cmp.f at H
 obtain⟨y123,hy123⟩:∃y_:List ByteArray,y_=(([a0,a1]:List ByteArray)):=⟨_,rfl⟩
 replace H:((num_all.f k y123).bind fun t126=>(if t126=true then ((num_Trim.f k a0).bind fun t127=>((num_Trim.f k a1).bind fun t128=>(if (t127.size:Int)=(t128.size:Int) then ((strings_Compare.f t127 t128).bind fun t129=>(some t129)) else ((cmp_Compare_int.f (t127.size:Int) (t128.size:Int)).bind fun t130=>(some t130))))) else (some 0)))=some r:=by first|(rw[hy123];with_reducible exact H)|(have H2_:=(Option.bind_some _ _).symm.trans H;rw[hy123];with_reducible exact H2_)|(have H2_:=(Option.bind_some _ _).symm.trans H;with_reducible exact H2_)|with_reducible exact H|(rw[hy123];exact H)|exact H
 have Ny123:=Aside0.mk hy123
 clear hy123
 replace H:=Option.bind_eq_some_iff.mp H
 obtain⟨t126,A30,H⟩:=H
 have A3:=Aside0.mk A30
 clear A30
 by_cases c4:t126=true
 ·subst c4
  rw[if_pos rfl] at H
  replace H:=Option.bind_eq_some_iff.mp H
  obtain⟨t127,A50,H⟩:=H
  have A5:=Aside0.mk A50
  clear A50
  replace H:=Option.bind_eq_some_iff.mp H
  obtain⟨t128,A60,H⟩:=H
  have A6:=Aside0.mk A60
  clear A60
  by_cases c7:(t127.size:Int)=(t128.size:Int)
  ·rw[if_pos c7] at H
   have c7b0:((t127.size:Int)==(t128.size:Int))=true:=beq_iff_eq.mpr c7
   have c7b1:((t127.size:Int) !=(t128.size:Int))=false:=bne_eq_false_iff_eq.mpr c7
   have c7b2:(t127.size==t128.size)=true:=by first|simpa using c7|(simp at c7 ⊢;omega)
   clear c7
   replace H:=Option.bind_eq_some_iff.mp H
   obtain⟨t129,A80,H⟩:=H
   have A8:=Aside0.mk A80
   clear A80
   obtain rfl:=Option.some.inj H
   go_enter Tryd.func49,Tryd.ntmps49
   go_wp2_with (first|((with_reducible refine gate_dst (N:=7) rfl ?_);refine Kd.R_lit Kd.string _ 9 ?hg (N:=7) ?hd (xs:=([a0,a1]:List ByteArray)) (inner:=[.string a0,.string a1]) (ok:=fun _=>True) (okp:=fun _=>True) ?hr ?hp (fun _ hk=>hk) trivial (Below.refl _ _) (Nat.le_refl _) (by simp) ?_;(case hd=>rfl);(case hg=>rfl);(case hr=>first|(go_simp;done)|(go_simp;rfl));(case hp=>exact(Reps.one (show Kd.M Kd.string _ _ _ a0 [.string a0] from rfl) (Reps.one (show Kd.M Kd.string _ _ _ a1 [.string a1] from rfl) (Reps.none _ _))));intro v124 w9 ho10 hb hg_ hnew_;clear hg_ hnew_;(first|rw[← Ny123.out] at ho10|(simp only[Int.reduceToNat] at ho10;rw[← Ny123.out] at ho10));have HO125:=Aside0.mk (Kd.R_lower ho10 (below_size (bl_ HB).out));replace HB:=Aside0.mk (below_step (bl_ HB).out hb);clear hb ho10;obtain⟨Ao11,co11,eo11⟩:=Kd.R_slice HO125.out;subst eo11)|((with_reducible refine gate_callee (f:=43) rfl ?_);refine gl_ (some 8) Tryd.func43 #[.slice Ao11 y123.length co11] ?_;(with_reducible refine(num_all.calls _ _ _ _ _ _ ?side1 ?side2 A3.out).mono ?_);(case side1=>exact kc_ HO125);(case side2=>exact kl_ HO125);rintro e w' ⟨rfl,⟨nd,rfl⟩⟩;refine⟨_,rfl,?_⟩)|((with_reducible refine gate_callee (f:=35) rfl ?_);refine gl_ (some 11) Tryd.func35 #[.string a0] ?_;(with_reducible refine(num_Trim.calls _ _ _ _ A5.out).mono ?_);rintro e w' ⟨rfl,⟨nd,rfl⟩⟩;refine⟨_,rfl,?_⟩)|((with_reducible refine gate_callee (f:=35) rfl ?_);refine gl_ (some 13) Tryd.func35 #[.string a1] ?_;(with_reducible refine(num_Trim.calls _ _ _ _ A6.out).mono ?_);rintro e w' ⟨rfl,⟨nd,rfl⟩⟩;refine⟨_,rfl,?_⟩)|((with_reducible refine gate_callee (f:=62) rfl ?_);refine gl_ (some 26) Tryd.func62 #[.string t127,.string t128] ?_;(with_reducible refine(strings_Compare.calls _ _ _ _ A8.out).mono ?_);rintro e w' ⟨rfl,⟨nd,rfl⟩⟩;refine⟨_,rfl,?_⟩))
   go_ret
   exact⟨ew_,(bl_ HB).out⟩
  rw[if_neg c7] at H
  have c7b0:((t127.size:Int)==(t128.size:Int))=false:=beq_eq_false_iff_ne.mpr c7
  have c7b1:((t127.size:Int) !=(t128.size:Int))=true:=bne_iff_ne.mpr c7
  have c7b2:(t127.size==t128.size)=false:=by first|simpa using c7|(simp at c7 ⊢;omega)
  replace H:=Option.bind_eq_some_iff.mp H
  obtain⟨t130,A120,H⟩:=H
  have A12:=Aside0.mk A120
  clear A120
  obtain rfl:=Option.some.inj H
  go_enter Tryd.func49,Tryd.ntmps49
  go_wp2_with (first|((with_reducible refine gate_dst (N:=7) rfl ?_);refine Kd.R_lit Kd.string _ 9 ?hg (N:=7) ?hd (xs:=([a0,a1]:List ByteArray)) (inner:=[.string a0,.string a1]) (ok:=fun _=>True) (okp:=fun _=>True) ?hr ?hp (fun _ hk=>hk) trivial (Below.refl _ _) (Nat.le_refl _) (by simp) ?_;(case hd=>rfl);(case hg=>rfl);(case hr=>first|(go_simp;done)|(go_simp;rfl));(case hp=>exact(Reps.one (show Kd.M Kd.string _ _ _ a0 [.string a0] from rfl) (Reps.one (show Kd.M Kd.string _ _ _ a1 [.string a1] from rfl) (Reps.none _ _))));intro v124 w13 ho14 hb hg_ hnew_;clear hg_ hnew_;(first|rw[← Ny123.out] at ho14|(simp only[Int.reduceToNat] at ho14;rw[← Ny123.out] at ho14));have HO125:=Aside0.mk (Kd.R_lower ho14 (below_size (bl_ HB).out));replace HB:=Aside0.mk (below_step (bl_ HB).out hb);clear hb ho14;obtain⟨Ao15,co15,eo15⟩:=Kd.R_slice HO125.out;subst eo15)|((with_reducible refine gate_callee (f:=43) rfl ?_);refine gl_ (some 8) Tryd.func43 #[.slice Ao15 y123.length co15] ?_;(with_reducible refine(num_all.calls _ _ _ _ _ _ ?side1 ?side2 A3.out).mono ?_);(case side1=>exact kc_ HO125);(case side2=>exact kl_ HO125);rintro e w' ⟨rfl,⟨nd,rfl⟩⟩;refine⟨_,rfl,?_⟩)|((with_reducible refine gate_callee (f:=35) rfl ?_);refine gl_ (some 11) Tryd.func35 #[.string a0] ?_;(with_reducible refine(num_Trim.calls _ _ _ _ A5.out).mono ?_);rintro e w' ⟨rfl,⟨nd,rfl⟩⟩;refine⟨_,rfl,?_⟩)|((with_reducible refine gate_callee (f:=35) rfl ?_);refine gl_ (some 13) Tryd.func35 #[.string a1] ?_;(with_reducible refine(num_Trim.calls _ _ _ _ A6.out).mono ?_);rintro e w' ⟨rfl,⟨nd,rfl⟩⟩;refine⟨_,rfl,?_⟩)|((with_reducible refine gate_callee (f:=61) rfl ?_);refine gl_ (some 23) Tryd.func61 #[.int .i64 (t127.size:Int),.int .i64 (t128.size:Int)] ?_;(with_reducible refine(cmp_Compare_int.calls _ _ _ _ A12.out).mono ?_);rintro e w' ⟨rfl,⟨nd,rfl⟩⟩;refine⟨_,rfl,?_⟩))
  go_ret
  exact⟨ew_,(bl_ HB).out⟩
 replace c4:=Bool.eq_false_iff.mpr c4
 subst c4
 rw[if_neg (show ¬(false=true) by decide)] at H
 obtain rfl:=Option.some.inj H
 go_enter Tryd.func49,Tryd.ntmps49
 go_wp2_with (first|((with_reducible refine gate_dst (N:=7) rfl ?_);refine Kd.R_lit Kd.string _ 9 ?hg (N:=7) ?hd (xs:=([a0,a1]:List ByteArray)) (inner:=[.string a0,.string a1]) (ok:=fun _=>True) (okp:=fun _=>True) ?hr ?hp (fun _ hk=>hk) trivial (Below.refl _ _) (Nat.le_refl _) (by simp) ?_;(case hd=>rfl);(case hg=>rfl);(case hr=>first|(go_simp;done)|(go_simp;rfl));(case hp=>exact(Reps.one (show Kd.M Kd.string _ _ _ a0 [.string a0] from rfl) (Reps.one (show Kd.M Kd.string _ _ _ a1 [.string a1] from rfl) (Reps.none _ _))));intro v124 w16 ho17 hb hg_ hnew_;clear hg_ hnew_;(first|rw[← Ny123.out] at ho17|(simp only[Int.reduceToNat] at ho17;rw[← Ny123.out] at ho17));have HO125:=Aside0.mk (Kd.R_lower ho17 (below_size (bl_ HB).out));replace HB:=Aside0.mk (below_step (bl_ HB).out hb);clear hb ho17;obtain⟨Ao18,co18,eo18⟩:=Kd.R_slice HO125.out;subst eo18)|((with_reducible refine gate_callee (f:=43) rfl ?_);refine gl_ (some 8) Tryd.func43 #[.slice Ao18 y123.length co18] ?_;(with_reducible refine(num_all.calls _ _ _ _ _ _ ?side1 ?side2 A3.out).mono ?_);(case side1=>exact kc_ HO125);(case side2=>exact kl_ HO125);rintro e w' ⟨rfl,⟨nd,rfl⟩⟩;refine⟨_,rfl,?_⟩))
 go_ret
 exact⟨ew_,(bl_ HB).out⟩

/-! ### num_Sub: function 41 -/
mutual
def num_Sub.j0:Nat→ByteArray→ByteArray→Bool→Option (ByteArray × Bool)
 | 0,_,_,_=>none
 | k+1,x0,x1,x20=>if x20=true then (some ((⟨#[]⟩:ByteArray),false)) else (num_Sub.l0 k x0 x1 ([]:List Int) 0 (x0.size:Int) 0)
def num_Sub.l0:Nat→ByteArray→ByteArray→List Int→Int→Int→Int→Option (ByteArray × Bool)
 | 0,_,_,_,_,_,_=>none
 | k+1,x0,x1,x6,x7,x22,x23=>if x23<x22 then ((num_at.f x0 x23).bind fun t137=>((num_at.f x1 x23).bind fun t138=>(if (wrap64 ((wrap64 (t137-t138))-x7))<0 then (if x6.length<140737488355328 then (num_Sub.l0 k x0 x1 (x6++[(48+(wrap64 ((wrap64 ((wrap64 (t137-t138))-x7))+10)))%256]) 1 x22 (wrap64 (x23+1))) else (none)) else (if x6.length<140737488355328 then (num_Sub.l0 k x0 x1 (x6++[(48+(wrap64 ((wrap64 (t137-t138))-x7)))%256]) 0 x22 (wrap64 (x23+1))) else (none))))) else ((num_text.f k x6).bind fun t136=>(some (t136,true)))
end
def num_Sub.f (k:Nat) (a0:ByteArray) (a1:ByteArray):Option (ByteArray × Bool):=(num_all.f k (([a0,a1]:List ByteArray))).bind fun t134=>(if t134=true then ((num_Cmp.f k a0 a1).bind fun t135=>(num_Sub.j0 k a0 a1 (decide (t135<0)))) else (num_Sub.j0 k a0 a1 true))
set_option maxHeartbeats 64000000 in
set_option maxRecDepth 100000 in
theorem num_Sub.calls (k:Nat) (a0:ByteArray) (a1:ByteArray) (r1:ByteArray) (r2:Bool) (w:World) (h:num_Sub.f k a0 a1=some (r1,r2)) :
  Calls Tryd.prog 41 #[.string a0,.string a1] w fun e w'=>e= .returned (.tuple #[.string r1,.bool r2])∧Below w.heap.size w w':=by
 have HB:=Aside0.mk (Below.refl w.heap.size w)
 have H:=h
 clear h
 unfold num_Sub.f at H
 have HC3:=Aside0.mk H
 clear H
 go_enter Tryd.func41,Tryd.ntmps41
 go_upto_region 1 with (fail)
 go_cut [20] (fun v20 wc=>∃(kq:Nat) (x20_2:Bool),v20= .bool x20_2∧Aside0 (num_Sub.j0 kq a0 a1 x20_2=some (r1,r2))∧Aside0 (kq≤k)∧Aside0 (Below w.heap.size w wc))
 case first =>
  have H:=HC3.out
  clear HC3
  obtain⟨y131,hy131⟩:∃y_:List ByteArray,y_=(([a0,a1]:List ByteArray)):=⟨_,rfl⟩
  replace H:((num_all.f k y131).bind fun t134=>(if t134=true then ((num_Cmp.f k a0 a1).bind fun t135=>(num_Sub.j0 k a0 a1 (decide (t135<0)))) else (num_Sub.j0 k a0 a1 true)))=some (r1,r2):=by first|(rw[hy131];with_reducible exact H)|(have H2_:=(Option.bind_some _ _).symm.trans H;rw[hy131];with_reducible exact H2_)|(have H2_:=(Option.bind_some _ _).symm.trans H;with_reducible exact H2_)|with_reducible exact H|(rw[hy131];exact H)|exact H
  have Ny131:=Aside0.mk hy131
  clear hy131
  replace H:=Option.bind_eq_some_iff.mp H
  obtain⟨t134,A40,H⟩:=H
  have A4:=Aside0.mk A40
  clear A40
  by_cases c5:t134=true
  ·subst c5
   rw[if_pos rfl] at H
   replace H:=Option.bind_eq_some_iff.mp H
   obtain⟨t135,A60,H⟩:=H
   have A6:=Aside0.mk A60
   clear A60
   have H':=Aside0.mk H
   clear H
   go_wp2_with (first|((with_reducible refine gate_dst (N:=12) rfl ?_);refine Kd.R_lit Kd.string _ 9 ?hg (N:=12) ?hd (xs:=([a0,a1]:List ByteArray)) (inner:=[.string a0,.string a1]) (ok:=fun _=>True) (okp:=fun _=>True) ?hr ?hp (fun _ hk=>hk) trivial (Below.refl _ _) (Nat.le_refl _) (by simp) ?_;(case hd=>rfl);(case hg=>rfl);(case hr=>first|(go_simp;done)|(go_simp;rfl));(case hp=>exact(Reps.one (show Kd.M Kd.string _ _ _ a0 [.string a0] from rfl) (Reps.one (show Kd.M Kd.string _ _ _ a1 [.string a1] from rfl) (Reps.none _ _))));intro v132 w7 ho8 hb hg_ hnew_;clear hg_ hnew_;(first|rw[← Ny131.out] at ho8|(simp only[Int.reduceToNat] at ho8;rw[← Ny131.out] at ho8));have HO133:=Aside0.mk (Kd.R_lower ho8 (below_size (bl_ HB).out));replace HB:=Aside0.mk (below_step (bl_ HB).out hb);clear hb ho8;obtain⟨Ao9,co9,eo9⟩:=Kd.R_slice HO133.out;subst eo9)|((with_reducible refine gate_callee (f:=43) rfl ?_);refine gl_ (some 13) Tryd.func43 #[.slice Ao9 y131.length co9] ?_;(with_reducible refine(num_all.calls _ _ _ _ _ _ ?side1 ?side2 A4.out).mono ?_);(case side1=>exact kc_ HO133);(case side2=>exact kl_ HO133);rintro e w' ⟨rfl,⟨nd,rfl⟩⟩;refine⟨_,rfl,?_⟩)|(go_at_call 49;(with_reducible refine(num_Cmp.calls _ _ _ _ _ A6.out).mono ?_);rintro e w10 ⟨rfl,hb⟩;replace HO133:=kb_ HO133 hb;replace HB:=Aside0.mk (below_step (bl_ HB).out hb);(try clear hb);(try clear hi)))
   go_meet
   case rel=>exact⟨_,(decide (t135<0)),eq_,H',⟨by first|omega|exact Nat.le_refl _⟩,(bl_ HB)⟩
  replace c5:=Bool.eq_false_iff.mpr c5
  subst c5
  rw[if_neg (show ¬(false=true) by decide)] at H
  have H':=Aside0.mk H
  clear H
  go_wp2_with (first|((with_reducible refine gate_dst (N:=12) rfl ?_);refine Kd.R_lit Kd.string _ 9 ?hg (N:=12) ?hd (xs:=([a0,a1]:List ByteArray)) (inner:=[.string a0,.string a1]) (ok:=fun _=>True) (okp:=fun _=>True) ?hr ?hp (fun _ hk=>hk) trivial (Below.refl _ _) (Nat.le_refl _) (by simp) ?_;(case hd=>rfl);(case hg=>rfl);(case hr=>first|(go_simp;done)|(go_simp;rfl));(case hp=>exact(Reps.one (show Kd.M Kd.string _ _ _ a0 [.string a0] from rfl) (Reps.one (show Kd.M Kd.string _ _ _ a1 [.string a1] from rfl) (Reps.none _ _))));intro v132 w11 ho12 hb hg_ hnew_;clear hg_ hnew_;(first|rw[← Ny131.out] at ho12|(simp only[Int.reduceToNat] at ho12;rw[← Ny131.out] at ho12));have HO133:=Aside0.mk (Kd.R_lower ho12 (below_size (bl_ HB).out));replace HB:=Aside0.mk (below_step (bl_ HB).out hb);clear hb ho12;obtain⟨Ao13,co13,eo13⟩:=Kd.R_slice HO133.out;subst eo13)|((with_reducible refine gate_callee (f:=43) rfl ?_);refine gl_ (some 13) Tryd.func43 #[.slice Ao13 y131.length co13] ?_;(with_reducible refine(num_all.calls _ _ _ _ _ _ ?side1 ?side2 A4.out).mono ?_);(case side1=>exact kc_ HO133);(case side2=>exact kl_ HO133);rintro e w' ⟨rfl,⟨nd,rfl⟩⟩;refine⟨_,rfl,?_⟩))
  go_meet
  case rel=>exact⟨_,(true),eq_,H',⟨by first|omega|exact Nat.le_refl _⟩,(bl_ HB)⟩
 clear HC3
 obtain⟨kq,x20_2,rfl,HA,HJ2,HB⟩:=hcut
 cases kq with
 | zero=>exact absurd HA.out (by simp[num_Sub.j0])
 | succ kj2=>?_
 have H:=HA.out
 clear HA
 simp only[num_Sub.j0] at H
 by_cases c14:x20_2=true
 ·subst c14
  rw[if_pos rfl] at H
  simp only[Option.some.injEq,Prod.mk.injEq] at H
  obtain⟨rfl,rfl⟩:=H
  go_wp2
  go_ret2
  exact⟨ew_,(bl_ HB).out⟩
 replace c14:=Bool.eq_false_iff.mpr c14
 subst c14
 rw[if_neg (show ¬(false=true) by decide)] at H
 have H':=Aside0.mk H
 clear H
 go_wp2
 go_loopg [6,7,23] kj2 (fun kq v6 v7 v23 w'=>∃(x6_2:List Int) (x7_2:Int) (x23_2:Int),v7= .int .i64 x7_2∧v23= .int .i64 x23_2∧Aside0 (num_Sub.l0 kq a0 a1 x6_2 x7_2 (a0.size:Int) x23_2=some (r1,r2))∧Aside0 (kq≤kj2)∧Aside0 (Kd.R (Kd.int .u8) 5 w' w.heap.size (fun _=>True) v6 x6_2)∧Aside0 (Below w.heap.size w w'))
 case atStart=>exact⟨(([]:List Int)),(0),(0),eq_,eq_,H',⟨Nat.le_refl _⟩,⟨by first|exact Kd.R_nil _ _ _ _ _|exact Kd.N_nil _ _ _ _ _|exact Kd.V_nil _ _ _ _ _|exact Kd.Q_nil _ _ _ _ _|exact Kd.S_nil _ _ _ _ _⟩,(bl_ HB)⟩
 clear H'
 obtain⟨x6_2,x7_2,x23_2,rfl,rfl,HA,HK2,HO_6,HB⟩:=hrel
 cases gk with
 | zero=>exact absurd HA.out (by simp[num_Sub.l0])
 | succ k2=>?_
 have H:=HA.out
 clear HA
 simp only[num_Sub.l0] at H
 by_cases c15:x23_2<(a0.size:Int)
 ·rw[if_pos c15] at H
  have c15b0:=decide_eq_true c15
  clear c15
  replace H:=Option.bind_eq_some_iff.mp H
  obtain⟨t137,A160,H⟩:=H
  have A16:=Aside0.mk A160
  clear A160
  replace H:=Option.bind_eq_some_iff.mp H
  obtain⟨t138,A170,H⟩:=H
  have A17:=Aside0.mk A170
  clear A170
  by_cases c18:(wrap64 ((wrap64 (t137-t138))-x7_2))<0
  ·rw[if_pos c18] at H
   have c18b0:=decide_eq_true c18
   clear c18
   replace H:=ifn_ H
   obtain⟨c19,H⟩:=H
   have LMc19:=Aside0.mk c19
   clear c19
   obtain⟨y139,hy139⟩:∃y_:List Int,y_=(x6_2++[(48+(wrap64 ((wrap64 ((wrap64 (t137-t138))-x7_2))+10)))%256]):=⟨_,rfl⟩
   replace H:(num_Sub.l0 k2 a0 a1 y139 1 (a0.size:Int) (wrap64 (x23_2+1)))=some (r1,r2):=by first|(rw[hy139];with_reducible exact H)|(have H2_:=(Option.bind_some _ _).symm.trans H;rw[hy139];with_reducible exact H2_)|(have H2_:=(Option.bind_some _ _).symm.trans H;with_reducible exact H2_)|with_reducible exact H|(rw[hy139];exact H)|exact H
   have Ny139:=Aside0.mk hy139
   clear hy139
   have H':=Aside0.mk H
   clear H
   go_wp2_with (first|((with_reducible refine gate_callee (f:=44) rfl ?_);refine gl_ (some 28) Tryd.func44 #[.string a0,.int .i64 x23_2] ?_;(with_reducible refine(num_at.calls _ _ _ _ A16.out).mono ?_);rintro e w' ⟨rfl,⟨nd,rfl⟩⟩;refine⟨_,rfl,?_⟩)|((with_reducible refine gate_callee (f:=44) rfl ?_);refine gl_ (some 31) Tryd.func44 #[.string a1,.int .i64 x23_2] ?_;(with_reducible refine(num_at.calls _ _ _ _ A17.out).mono ?_);rintro e w' ⟨rfl,⟨nd,rfl⟩⟩;refine⟨_,rfl,?_⟩)|((with_reducible refine gate_builtin (b:= .append) (xs:= #[.tmp 39,.tmp 43]) rfl ?_);at_builtin;refine Kd.R_append (Kd.int .u8) (w0:=w) w.heap.size rfl (.tmp 39) (.tmp 43) 87 5 (.int .u8 0) 1 rfl Tryd.underlying87 info5 rfl (by decide) (by omega) u6 x6_2 ((48+(wrap64 ((wrap64 ((wrap64 (t137-t138))-x7_2))+10)))%256) [.int .u8 ((48+(wrap64 ((wrap64 ((wrap64 (t137-t138))-x7_2))+10)))%256)] (fun _=>True) (fun _=>False) rfl rfl ?aP (fun _ hk=>hk.elim) ?aF ?aO ?aB ?aS ?aL ?_;(case aP=>exact rfl);(case aB=>exact(bl_ HB).out);(case aF=>exact(fun _ _=>trivial));(case aO=>exact(kr_ HO_6));(case aS=>exact(below_size (bl_ HB).out));(case aL=>have:=LMc19.out;omega);intro v140 w20 ho hb hg hat;rw[← Ny139.out] at ho;have n0_:=Aside0.mk (hb);have n1_:=Aside0.mk (ho);clear HB;clear HO_6;revert n0_ n1_;intro HB HO141;clear ho hb hg hat))
   go_roundg k2
   case measure=>have:=HJ2.out;have:=HK2.out;omega
   case rel=>exact⟨(y139),(1),(wrap64 (x23_2+1)),eq_,eq_,H',⟨by have:=HJ2.out;have:=HK2.out;omega⟩,⟨kdR_ HO141.out⟩,(bl_ HB)⟩
  rw[if_neg c18] at H
  have c18b0:=decide_eq_false c18
  clear c18
  replace H:=ifn_ H
  obtain⟨c21,H⟩:=H
  have LMc21:=Aside0.mk c21
  clear c21
  obtain⟨y142,hy142⟩:∃y_:List Int,y_=(x6_2++[(48+(wrap64 ((wrap64 (t137-t138))-x7_2)))%256]):=⟨_,rfl⟩
  replace H:(num_Sub.l0 k2 a0 a1 y142 0 (a0.size:Int) (wrap64 (x23_2+1)))=some (r1,r2):=by first|(rw[hy142];with_reducible exact H)|(have H2_:=(Option.bind_some _ _).symm.trans H;rw[hy142];with_reducible exact H2_)|(have H2_:=(Option.bind_some _ _).symm.trans H;with_reducible exact H2_)|with_reducible exact H|(rw[hy142];exact H)|exact H
  have Ny142:=Aside0.mk hy142
  clear hy142
  have H':=Aside0.mk H
  clear H
  go_wp2_with (first|((with_reducible refine gate_callee (f:=44) rfl ?_);refine gl_ (some 28) Tryd.func44 #[.string a0,.int .i64 x23_2] ?_;(with_reducible refine(num_at.calls _ _ _ _ A16.out).mono ?_);rintro e w' ⟨rfl,⟨nd,rfl⟩⟩;refine⟨_,rfl,?_⟩)|((with_reducible refine gate_callee (f:=44) rfl ?_);refine gl_ (some 31) Tryd.func44 #[.string a1,.int .i64 x23_2] ?_;(with_reducible refine(num_at.calls _ _ _ _ A17.out).mono ?_);rintro e w' ⟨rfl,⟨nd,rfl⟩⟩;refine⟨_,rfl,?_⟩)|((with_reducible refine gate_builtin (b:= .append) (xs:= #[.tmp 39,.tmp 43]) rfl ?_);at_builtin;refine Kd.R_append (Kd.int .u8) (w0:=w) w.heap.size rfl (.tmp 39) (.tmp 43) 87 5 (.int .u8 0) 1 rfl Tryd.underlying87 info5 rfl (by decide) (by omega) u6 x6_2 ((48+(wrap64 ((wrap64 (t137-t138))-x7_2)))%256) [.int .u8 ((48+(wrap64 ((wrap64 (t137-t138))-x7_2)))%256)] (fun _=>True) (fun _=>False) rfl rfl ?aP (fun _ hk=>hk.elim) ?aF ?aO ?aB ?aS ?aL ?_;(case aP=>exact rfl);(case aB=>exact(bl_ HB).out);(case aF=>exact(fun _ _=>trivial));(case aO=>exact(kr_ HO_6));(case aS=>exact(below_size (bl_ HB).out));(case aL=>have:=LMc21.out;omega);intro v143 w22 ho hb hg hat;rw[← Ny142.out] at ho;have n0_:=Aside0.mk (hb);have n1_:=Aside0.mk (ho);clear HB;clear HO_6;revert n0_ n1_;intro HB HO144;clear ho hb hg hat))
  go_roundg k2
  case measure=>have:=HJ2.out;have:=HK2.out;omega
  case rel=>exact⟨(y142),(0),(wrap64 (x23_2+1)),eq_,eq_,H',⟨by have:=HJ2.out;have:=HK2.out;omega⟩,⟨kdR_ HO144.out⟩,(bl_ HB)⟩
 rw[if_neg c15] at H
 have c15b0:=decide_eq_false c15
 clear c15
 replace H:=Option.bind_eq_some_iff.mp H
 obtain⟨t136,A230,H⟩:=H
 have A23:=Aside0.mk A230
 clear A230
 simp only[Option.some.injEq,Prod.mk.injEq] at H
 obtain⟨rfl,rfl⟩:=H
 obtain⟨Ao24,co24,eo24⟩:=Kd.R_slice HO_6.out
 subst eo24
 go_wp2_with (first|((with_reducible refine gate_callee (f:=38) rfl ?_);refine gl_ (some 47) Tryd.func38 #[.slice Ao24 x6_2.length co24] ?_;(with_reducible refine(num_text.calls _ _ _ _ _ _ ?side1 ?side2 A23.out).mono ?_);(case side1=>exact kc_ HO_6);(case side2=>exact kl_ HO_6);rintro e w25 ⟨rfl,hb⟩;refine⟨_,rfl,?_⟩;replace HO_6:=kb_ HO_6 hb;replace HB:=Aside0.mk (below_step (bl_ HB).out hb);(try clear hb);(try clear hi)))
 go_ret2
 exact⟨ew_,(bl_ HB).out⟩

/-! ### sample_steps: function 30 -/
def sample_steps.j0:Nat→ByteArray→Bool→Option (Int × Bool)
 | 0,_,_=>none
 | k+1,x12,x48=>if x48=true then (some (0,false)) else ((num_Int.f k x12).bind fun bt153=>(if bt153.2=true then (some (bt153.1,true)) else (some (1000,true))))
def sample_steps.f (k:Nat) (a0:ByteArray) (a1:ByteArray):Option (Int × Bool):=(sample_plain.f k a0).bind fun bt145=>((sample_plain.f k a1).bind fun bt148=>((num_Sub.f k bt148.1 bt145.1).bind fun bt151=>(if bt145.2.2=true then (if bt148.2.2=true then (if bt145.2.1=bt148.2.1 then (sample_steps.j0 k bt151.1 (!bt151.2)) else (sample_steps.j0 k bt151.1 true)) else (sample_steps.j0 k bt151.1 true)) else (sample_steps.j0 k bt151.1 true))))
set_option maxHeartbeats 64000000 in
set_option maxRecDepth 100000 in
theorem sample_steps.calls (k:Nat) (a0:ByteArray) (a1:ByteArray) (r1:Int) (r2:Bool) (w:World) (h:sample_steps.f k a0 a1=some (r1,r2)) :
  Calls Tryd.prog 30 #[.string a0,.string a1] w fun e w'=>e= .returned (.tuple #[.int .i64 r1,.bool r2])∧Below w.heap.size w w':=by
 have HB:=Aside0.mk (Below.refl w.heap.size w)
 have H:=h
 clear h
 unfold sample_steps.f at H
 replace H:=Option.bind_eq_some_iff.mp H
 obtain⟨⟨t145,t146,t147⟩,A30,H⟩:=H
 dsimp only at H
 have A3:=Aside0.mk A30
 clear A30
 replace H:=Option.bind_eq_some_iff.mp H
 obtain⟨⟨t148,t149,t150⟩,A40,H⟩:=H
 dsimp only at H
 have A4:=Aside0.mk A40
 clear A40
 replace H:=Option.bind_eq_some_iff.mp H
 obtain⟨⟨t151,t152⟩,A50,H⟩:=H
 dsimp only at H
 have A5:=Aside0.mk A50
 clear A50
 have HC6:=Aside0.mk H
 clear H
 go_enter Tryd.func30,Tryd.ntmps30
 go_upto_region 4 with (first|((with_reducible refine gate_callee (f:=31) rfl ?_);refine gl_ (some 18) Tryd.func31 #[.string a0] ?_;(with_reducible refine(sample_plain.calls _ _ _ _ _ _ A3.out).mono ?_);rintro e w' ⟨rfl,⟨nd,rfl⟩⟩;refine⟨_,rfl,?_⟩)|((with_reducible refine gate_callee (f:=31) rfl ?_);refine gl_ (some 24) Tryd.func31 #[.string a1] ?_;(with_reducible refine(sample_plain.calls _ _ _ _ _ _ A4.out).mono ?_);rintro e w' ⟨rfl,⟨nd,rfl⟩⟩;refine⟨_,rfl,?_⟩)|((with_reducible refine gate_callee (f:=41) rfl ?_);refine gl_ (some 31) Tryd.func41 #[.string t148,.string t145] ?_;(with_reducible refine(num_Sub.calls _ _ _ _ _ _ A5.out).mono ?_);rintro e w7 ⟨rfl,hb⟩;refine⟨_,rfl,?_⟩;replace HB:=Aside0.mk (below_step (bl_ HB).out hb);(try clear hb);(try clear hi)))
 (try simp only[Act.put,List.setIfInBounds_toArray,List.set_cons_zero,List.set_cons_succ])
 go_cut [48] (fun v48 wc=>∃(kq:Nat) (x48_5:Bool),v48= .bool x48_5∧Aside0 (sample_steps.j0 kq t151 x48_5=some (r1,r2))∧Aside0 (kq≤k)∧Aside0 (Below w.heap.size w wc))
 case first =>
  have H:=HC6.out
  clear HC6
  by_cases c8:t147=true
  ·subst c8
   rw[if_pos rfl] at H
   by_cases c9:t150=true
   ·subst c9
    rw[if_pos rfl] at H
    by_cases c10:t146=t149
    ·rw[if_pos c10] at H
     have c10b0:(t146==t149)=true:=beq_iff_eq.mpr c10
     have c10b1:(t146 !=t149)=false:=bne_eq_false_iff_eq.mpr c10
     clear c10
     (first|rw[c10b0]|(simp only[i64_w,i32_w];rw[c10b0])|skip)
     have H':=Aside0.mk H
     clear H
     go_wp2
     go_meet
     case rel=>exact⟨_,(!t152),eq_,H',⟨by first|omega|exact Nat.le_refl _⟩,(bl_ HB)⟩
    rw[if_neg c10] at H
    have c10b0:(t146==t149)=false:=beq_eq_false_iff_ne.mpr c10
    have c10b1:(t146 !=t149)=true:=bne_iff_ne.mpr c10
    (first|rw[c10b0]|(simp only[i64_w,i32_w];rw[c10b0])|skip)
    have H':=Aside0.mk H
    clear H
    go_wp2
    go_meet
    case rel=>exact⟨_,(true),eq_,H',⟨by first|omega|exact Nat.le_refl _⟩,(bl_ HB)⟩
   replace c9:=Bool.eq_false_iff.mpr c9
   subst c9
   rw[if_neg (show ¬(false=true) by decide)] at H
   have H':=Aside0.mk H
   clear H
   go_wp2
   go_meet
   case rel=>exact⟨_,(true),eq_,H',⟨by first|omega|exact Nat.le_refl _⟩,(bl_ HB)⟩
  replace c8:=Bool.eq_false_iff.mpr c8
  subst c8
  rw[if_neg (show ¬(false=true) by decide)] at H
  have H':=Aside0.mk H
  clear H
  go_wp2
  go_meet
  case rel=>exact⟨_,(true),eq_,H',⟨by first|omega|exact Nat.le_refl _⟩,(bl_ HB)⟩
 clear HC6
 obtain⟨kq,x48_5,rfl,HA,HJ5,HB⟩:=hcut
 cases kq with
 | zero=>exact absurd HA.out (by simp[sample_steps.j0])
 | succ kj5=>?_
 have H:=HA.out
 clear HA
 simp only[sample_steps.j0] at H
 by_cases c11:x48_5=true
 ·subst c11
  rw[if_pos rfl] at H
  simp only[Option.some.injEq,Prod.mk.injEq] at H
  obtain⟨rfl,rfl⟩:=H
  go_wp2
  go_ret2
  exact⟨ew_,(bl_ HB).out⟩
 replace c11:=Bool.eq_false_iff.mpr c11
 subst c11
 rw[if_neg (show ¬(false=true) by decide)] at H
 replace H:=Option.bind_eq_some_iff.mp H
 obtain⟨⟨t153,t154⟩,A120,H⟩:=H
 dsimp only at H
 have A12:=Aside0.mk A120
 clear A120
 by_cases c13:t154=true
 ·subst c13
  rw[if_pos rfl] at H
  simp only[Option.some.injEq,Prod.mk.injEq] at H
  obtain⟨rfl,rfl⟩:=H
  go_wp2_with (first|((with_reducible refine gate_callee (f:=22) rfl ?_);refine gl_ (some 51) Tryd.func22 #[.string t151] ?_;(with_reducible refine(num_Int.calls _ _ _ _ _ A12.out).mono ?_);rintro e w14 ⟨rfl,hb⟩;refine⟨_,rfl,?_⟩;replace HB:=Aside0.mk (below_step (bl_ HB).out hb);(try clear hb);(try clear hi)))
  go_ret2
  exact⟨ew_,(bl_ HB).out⟩
 replace c13:=Bool.eq_false_iff.mpr c13
 subst c13
 rw[if_neg (show ¬(false=true) by decide)] at H
 simp only[Option.some.injEq,Prod.mk.injEq] at H
 obtain⟨rfl,rfl⟩:=H
 go_wp2_with (first|((with_reducible refine gate_callee (f:=22) rfl ?_);refine gl_ (some 51) Tryd.func22 #[.string t151] ?_;(with_reducible refine(num_Int.calls _ _ _ _ _ A12.out).mono ?_);rintro e w15 ⟨rfl,hb⟩;refine⟨_,rfl,?_⟩;replace HB:=Aside0.mk (below_step (bl_ HB).out hb);(try clear hb);(try clear hi)))
 go_ret2
 exact⟨ew_,(bl_ HB).out⟩

/-! ### strings_IndexByte: function 34 -/
def strings_IndexByte.f (a:ByteArray) (b:Int):Option Int:=some (Lib.indexByte a.data.toList b.toNat.toUInt8)
theorem strings_IndexByte.calls (a0:ByteArray) (a1:Int) (r:Int) (w:World) (h:strings_IndexByte.f a0 a1=some r) :
    Calls Tryd.prog 34 #[.string a0,.int .u8 a1] w fun e w'=>e= .returned (.int .i64 r)∧Drawn0 w w':=by
  obtain rfl:=Option.some.inj h
  refine(Tryd.strings_IndexByte a0 a1 w).mono ?_
  rintro e w' ⟨rfl,rfl⟩
  exact⟨rfl,Drawn0.refl _⟩

/-! ### operand_cut: function 20 -/
def operand_cut.l0:Nat→ByteArray→ByteArray→Int→Int→Option (ByteArray × ByteArray × Bool)
 | 0,_,_,_,_=>none
 | k+1,x0,x1,x9,x10=>if x10<x9 then (if 0≤x10 then (if x10<(x0.size:Int) then ((strings_IndexByte.f x1 (bt x0 x10)).bind fun t155=>(if t155≥0 then (if x10≤(x0.size:Int) then (if 0≤(wrap64 (x10+1)) then (if (wrap64 (x10+1))≤(x0.size:Int) then (some (x0.extract 0 (x10:Int).toNat,x0.extract ((wrap64 (x10+1)):Int).toNat x0.size,true)) else (none)) else (none)) else (none)) else (operand_cut.l0 k x0 x1 x9 (wrap64 (x10+1))))) else (none)) else (none)) else (some (x0,(⟨#[]⟩:ByteArray),false))
def operand_cut.f (k:Nat) (a0:ByteArray) (a1:ByteArray):Option (ByteArray × ByteArray × Bool):=operand_cut.l0 k a0 a1 (a0.size:Int) 0
set_option maxHeartbeats 64000000 in
set_option maxRecDepth 100000 in
theorem operand_cut.calls (k:Nat) (a0:ByteArray) (a1:ByteArray) (r1:ByteArray) (r2:ByteArray) (r3:Bool) (w:World) (h:operand_cut.f k a0 a1=some (r1,r2,r3)) :
  Calls Tryd.prog 20 #[.string a0,.string a1] w fun e w'=>e= .returned (.tuple #[.string r1,.string r2,.bool r3])∧Drawn0 w w':=by
 have H:=h
 clear h
 unfold operand_cut.f at H
 have H':=Aside0.mk H
 clear H
 go_enter Tryd.func20,Tryd.ntmps20
 go_wp2
 repeat(go_quiet (fail);try go_wp2)
 go_loopg [10] k (fun kq v10 w'=>∃(x10_1:Int),v10= .int .i64 x10_1∧Aside0 (operand_cut.l0 kq a0 a1 (a0.size:Int) x10_1=some (r1,r2,r3))∧Aside0 (kq≤k)∧Drawn0 w w')
 case atStart=>exact⟨(0),eq_,H',⟨Nat.le_refl _⟩,by repeat(first|exact Drawn0.refl _|apply Drawn0.step)⟩
 clear H'
 obtain⟨x10_1,rfl,HA,HK1,⟨m1,rfl⟩⟩:=hrel
 cases gk with
 | zero=>exact absurd HA.out (by simp[operand_cut.l0])
 | succ k1=>?_
 have H:=HA.out
 clear HA
 simp only[operand_cut.l0] at H
 by_cases c3:x10_1<(a0.size:Int)
 ·rw[if_pos c3] at H
  have c3b0:=decide_eq_true c3
  clear c3
  replace H:=ifn_ H
  obtain⟨c4,H⟩:=H
  have c4b0:decide (0≤x10_1)=true:=decide_eq_true c4
  clear c4
  replace H:=ifn_ H
  obtain⟨c5,H⟩:=H
  have c5b0:decide (x10_1<(a0.size:Int))=true:=decide_eq_true c5
  clear c5
  replace H:=Option.bind_eq_some_iff.mp H
  obtain⟨t155,A70,H⟩:=H
  have A7:=Aside0.mk A70
  clear A70
  by_cases c8:t155≥0
  ·rw[if_pos c8] at H
   have c8b0:decide (0≤t155)=true:=decide_eq_true c8
   clear c8
   have c9b0:=eq_true (od_:0≤x10_1)
   replace H:=ifn_ H
   obtain⟨c10,H⟩:=H
   have c10b0:=eq_true c10
   have c10b1:decide (x10_1≤(a0.size:Int))=true:=decide_eq_true c10
   clear c10
   obtain⟨ji11,hji11⟩:∃j_:Int,(wrap64 (x10_1+1))=j_:=⟨_,rfl⟩
   replace H:(if 0≤(ji11) then (if (ji11)≤(a0.size:Int) then (some (a0.extract 0 (x10_1:Int).toNat,a0.extract ((ji11):Int).toNat a0.size,true)) else (none)) else (none))=some (r1,r2,r3):=by first|(rw[hji11] at H;exact H)|(simp only[hji11] at H ⊢;exact H)
   (try rw[hji11] at A7)
   have hji11w:(IntKind.i64.wrap (x10_1+1))=ji11:=(i64_w _).trans hji11
   replace H:=ifn_ H
   obtain⟨c12,H⟩:=H
   have c12b0:=eq_true c12
   have c12b1:decide (0≤(ji11))=true:=decide_eq_true c12
   clear c12
   replace H:=ifn_ H
   obtain⟨c13,H⟩:=H
   have c13b0:=eq_true c13
   have c13b1:decide ((ji11)≤(a0.size:Int))=true:=decide_eq_true c13
   clear c13
   simp only[Option.some.injEq,Prod.mk.injEq] at H
   obtain⟨rfl,rfl,rfl⟩:=H
   have p6:0≤(x10_1:Int):=od_
   have q6:x10_1<(a0.size:Int):=od_
   have hx6:=bt_at a0 x10_1
   replace p6:=eq_true p6
   replace q6:=eq_true q6
   go_wp2_with (first|(go_at_call 34;(with_reducible refine(strings_IndexByte.calls _ _ _ _ A7.out).mono ?_);rintro e w' ⟨rfl,⟨nd,rfl⟩⟩;(try first|exact⟨rfl,_,World.drewN_drewN _ _ _⟩|exact⟨rfl,_,Eq.trans (World.drewN_drewN _ _ _) (congrArg (World.drewN _) (Nat.add_assoc _ _ _))⟩)))
   repeat(go_quiet (first|(go_at_call 34;(with_reducible refine(strings_IndexByte.calls _ _ _ _ A7.out).mono ?_);rintro e w' ⟨rfl,⟨nd,rfl⟩⟩;(try first|exact⟨rfl,_,World.drewN_drewN _ _ _⟩|exact⟨rfl,_,Eq.trans (World.drewN_drewN _ _ _) (congrArg (World.drewN _) (Nat.add_assoc _ _ _))⟩)));try go_wp2_with (first|(go_at_call 34;(with_reducible refine(strings_IndexByte.calls _ _ _ _ A7.out).mono ?_);rintro e w' ⟨rfl,⟨nd,rfl⟩⟩;(try first|exact⟨rfl,_,World.drewN_drewN _ _ _⟩|exact⟨rfl,_,Eq.trans (World.drewN_drewN _ _ _) (congrArg (World.drewN _) (Nat.add_assoc _ _ _))⟩))))
   go_ret3
   exact⟨by first|rfl|(simp;done)|(simp only[← hji11] <;> (first|rfl|simp))|(simp[*];done),by repeat(first|exact Drawn0.refl _|apply Drawn0.step)⟩
  rw[if_neg c8] at H
  have c8b0:decide (0≤t155)=false:=decide_eq_false c8
  clear c8
  have H':=Aside0.mk H
  clear H
  have p6:0≤(x10_1:Int):=od_
  have q6:x10_1<(a0.size:Int):=od_
  have hx6:=bt_at a0 x10_1
  replace p6:=eq_true p6
  replace q6:=eq_true q6
  go_wp2_with (first|(go_at_call 34;(with_reducible refine(strings_IndexByte.calls _ _ _ _ A7.out).mono ?_);rintro e w' ⟨rfl,⟨nd,rfl⟩⟩;(try first|exact⟨rfl,_,World.drewN_drewN _ _ _⟩|exact⟨rfl,_,Eq.trans (World.drewN_drewN _ _ _) (congrArg (World.drewN _) (Nat.add_assoc _ _ _))⟩)))
  repeat(go_quiet (first|(go_at_call 34;(with_reducible refine(strings_IndexByte.calls _ _ _ _ A7.out).mono ?_);rintro e w' ⟨rfl,⟨nd,rfl⟩⟩;(try first|exact⟨rfl,_,World.drewN_drewN _ _ _⟩|exact⟨rfl,_,Eq.trans (World.drewN_drewN _ _ _) (congrArg (World.drewN _) (Nat.add_assoc _ _ _))⟩)));try go_wp2_with (first|(go_at_call 34;(with_reducible refine(strings_IndexByte.calls _ _ _ _ A7.out).mono ?_);rintro e w' ⟨rfl,⟨nd,rfl⟩⟩;(try first|exact⟨rfl,_,World.drewN_drewN _ _ _⟩|exact⟨rfl,_,Eq.trans (World.drewN_drewN _ _ _) (congrArg (World.drewN _) (Nat.add_assoc _ _ _))⟩))))
  go_roundg k1
  case measure=>have:=HK1.out;omega
  case rel=>exact⟨(wrap64 (x10_1+1)),eq_,H',⟨by have:=HK1.out;omega⟩,by repeat(first|exact Drawn0.refl _|apply Drawn0.step)⟩
 rw[if_neg c3] at H
 have c3b0:=decide_eq_false c3
 clear c3
 simp only[Option.some.injEq,Prod.mk.injEq] at H
 obtain⟨rfl,rfl,rfl⟩:=H
 go_wp2
 repeat(go_quiet (fail);try go_wp2)
 go_ret3
 exact⟨by first|rfl|(simp;done)|(simp[*];done)|(simp;first|exact given_isEmpty _|exact(given_isEmpty _).symm)|(unfold wrap64;omega)|(congr 1;unfold wrap64;omega),by repeat(first|exact Drawn0.refl _|apply Drawn0.step)⟩

/-! ### strings_Repeat: function 47 -/
def strings_Repeat.f (a:ByteArray) (n:Int):Option ByteArray:=if 0≤n∧n≤9223372036854775807∧a.size*n.toNat≤140737488355328 then some ⟨(Lib.repeatL a.data.toList n.toNat).toArray⟩ else none
theorem strings_Repeat.calls (a0:ByteArray) (a1:Int) (r:ByteArray) (w:World) (h:strings_Repeat.f a0 a1=some r) :
    Calls Tryd.prog 47 #[.string a0,.int .i64 a1] w fun e w'=>e= .returned (.string r)∧Below w.heap.size w w':=by
  unfold strings_Repeat.f at h
  split at h
  · rename_i hc
    obtain rfl:=Option.some.inj h
    obtain⟨n,rfl⟩:∃n:Nat,a1=n:=⟨a1.toNat,by omega⟩
    exact Tryd.strings_Repeat a0 n w (by omega) (by simpa using hc.2.2)
  · cases h

/-! ### num_Zeros: function 36 -/
def num_Zeros.f (a0:Int):Option (ByteArray):=(strings_Repeat.f (⟨#[48]⟩:ByteArray) (mn (mx a0 0) 60000)).bind fun t156=>(some t156)
set_option maxHeartbeats 64000000 in
set_option maxRecDepth 100000 in
theorem num_Zeros.calls (a0:Int) (r:ByteArray) (w:World) (h:num_Zeros.f a0=some r) :
    Calls Tryd.prog 36 #[.int .i64 a0] w fun e w'=>e= .returned (.string r)∧Below w.heap.size w w':=by
  have HB:=Aside0.mk (Below.refl w.heap.size w)
  have H:=h
  clear h
  unfold num_Zeros.f at H
  obtain⟨ji2,hji2⟩:∃j_:Int,(mx a0 0)=j_:=⟨_,rfl⟩
  replace H:((strings_Repeat.f (⟨#[48]⟩:ByteArray) (mn (ji2) 60000)).bind fun t156=>(some t156))=some r:=by first|(rw[hji2] at H;exact H)|(simp only[hji2] at H ⊢;exact H)
  (try (have hji2l:0≤ji2:=by (rw[← hji2];unfold mx;(repeat' split) <;> omega)))
  (try (have hji2m:0≤ji2:=by omega))
  have hji2_:(if a0<0 then 0 else a0)=ji2:=hji2
  obtain⟨ji3,hji3⟩:∃j_:Int,(mn (ji2) 60000)=j_:=⟨_,rfl⟩
  replace H:((strings_Repeat.f (⟨#[48]⟩:ByteArray) (ji3)).bind fun t156=>(some t156))=some r:=by first|(rw[hji3] at H;exact H)|(simp only[hji3] at H ⊢;exact H)
  have hji3_:(if 60000<(ji2) then 60000 else (ji2))=ji3:=hji3
  replace H:=Option.bind_eq_some_iff.mp H
  obtain⟨t156,A40,H⟩:=H
  have A4:=Aside0.mk A40
  clear A40
  obtain rfl:=Option.some.inj H
  go_enter Tryd.func36,Tryd.ntmps36
  go_wp2_with (first|((with_reducible refine gate_callee (f:=47) rfl ?_);refine goesL_ (some 6) rfl rfl Tryd.func47 (by kernel_rfl) rfl #[.string (⟨#[48]⟩:ByteArray),.int .i64 ji3] rfl (by (try simp only[List.map_toArray,List.map_cons,List.map_nil]);first|done|(simp only[hji3];rfl)|rfl|(simp only[List.length_drop,List.length_take];rfl)|(have z_:∀s_:ByteArray,s_.size≤9223372036854775807→ -(s_.size:Int)=wrap64 (-(s_.size:Int)):=(fun s_ h_=>by unfold wrap64;omega);rw[← z_ _ (by omega)];rfl)|(simp only[ByteArray.size_append];rfl)) ?_;(with_reducible refine(strings_Repeat.calls _ _ _ _ A4.out).mono ?_);rintro e w5 ⟨rfl,hb⟩;refine⟨_,rfl,?_⟩;replace HB:=Aside0.mk (below_step (bl_ HB).out hb);(try clear hb);(try clear hi)))
  go_ret
  exact⟨by first|rfl|(simp[errW_none,errW_some] <;> rfl)|(simp only[← hji2, ← hji3];first|rfl|(simp[errW_none,errW_some] <;> rfl))|(simp[*,errW_none,errW_some] <;> first|rfl|exact given_isEmpty _|exact(given_isEmpty _).symm),by repeat(first|(with_reducible first|exact HB.out|apply below_alloc|apply pw_below_drewN|apply below_drew1)|exact HB.out)⟩

/-! ### operand_Of: function 23 -/
def operand_Of.f (k:Nat) (a0_0:Bool) (a0_1:ByteArray) (a0_2:ByteArray) (a1:Int):Option (ByteArray × ByteArray × Int):=if (mn (mn (mx a1 0) 10000) (a0_2.size:Int))>0 then (if 0≤(mn (mn (mx a1 0) 10000) (a0_2.size:Int)) then (if (mn (mn (mx a1 0) 10000) (a0_2.size:Int))≤(a0_2.size:Int) then (if a0_1.size+(a0_2.extract 0 ((mn (mn (mx a1 0) 10000) (a0_2.size:Int)):Int).toNat).size≤9223372036854775807 then ((num_Zeros.f ((mn (mx a1 0) 10000)-(mn (mn (mx a1 0) 10000) (a0_2.size:Int)))).bind fun t159=>(if (a0_1++(a0_2.extract 0 ((mn (mn (mx a1 0) 10000) (a0_2.size:Int)):Int).toNat)).size+t159.size≤9223372036854775807 then ((num_Trim.f k ((a0_1++(a0_2.extract 0 ((mn (mn (mx a1 0) 10000) (a0_2.size:Int)):Int).toNat))++t159)).bind fun t160=>(some (t160,a0_2.extract ((mn (mn (mx a1 0) 10000) (a0_2.size:Int)):Int).toNat a0_2.size,mn (mx a1 0) 10000))) else (none))) else (none)) else (none)) else (none)) else ((num_Zeros.f (mn (mx a1 0) 10000)).bind fun t161=>(if a0_1.size+t161.size≤9223372036854775807 then ((num_Trim.f k (a0_1++t161)).bind fun t162=>(some (t162,a0_2,mn (mx a1 0) 10000))) else (none)))
set_option maxHeartbeats 64000000 in
set_option maxRecDepth 100000 in
theorem operand_Of.calls (k:Nat) (a0_0:Bool) (a0_1:ByteArray) (a0_2:ByteArray) (a1:Int) (r1:ByteArray) (r2:ByteArray) (r3:Int) (w:World) (h:operand_Of.f k a0_0 a0_1 a0_2 a1=some (r1,r2,r3)) :
  Calls Tryd.prog 23 #[.agg #[.bool a0_0,.string a0_1,.string a0_2],.int .i64 a1] w fun e w'=>e= .returned (.agg #[.string r1,.string r2,.int .i64 r3])∧Below w.heap.size w w':=by
 have hu75:=Tryd.underlying75
 have hu41:=Tryd.underlying41
 have HB:=Aside0.mk (Below.refl w.heap.size w)
 have H:=h
 clear h
 unfold operand_Of.f at H
 obtain⟨ji3,hji3⟩:∃j_:Int,(mx a1 0)=j_:=⟨_,rfl⟩
 replace H:(if (mn (mn (ji3) 10000) (a0_2.size:Int))>0 then (if 0≤(mn (mn (ji3) 10000) (a0_2.size:Int)) then (if (mn (mn (ji3) 10000) (a0_2.size:Int))≤(a0_2.size:Int) then (if a0_1.size+(a0_2.extract 0 ((mn (mn (ji3) 10000) (a0_2.size:Int)):Int).toNat).size≤9223372036854775807 then ((num_Zeros.f ((mn (ji3) 10000)-(mn (mn (ji3) 10000) (a0_2.size:Int)))).bind fun t159=>(if (a0_1++(a0_2.extract 0 ((mn (mn (ji3) 10000) (a0_2.size:Int)):Int).toNat)).size+t159.size≤9223372036854775807 then ((num_Trim.f k ((a0_1++(a0_2.extract 0 ((mn (mn (ji3) 10000) (a0_2.size:Int)):Int).toNat))++t159)).bind fun t160=>(some (t160,a0_2.extract ((mn (mn (ji3) 10000) (a0_2.size:Int)):Int).toNat a0_2.size,mn (ji3) 10000))) else (none))) else (none)) else (none)) else (none)) else ((num_Zeros.f (mn (ji3) 10000)).bind fun t161=>(if a0_1.size+t161.size≤9223372036854775807 then ((num_Trim.f k (a0_1++t161)).bind fun t162=>(some (t162,a0_2,mn (ji3) 10000))) else (none))))=some (r1,r2,r3):=by first|(rw[hji3] at H;exact H)|(simp only[hji3] at H ⊢;exact H)
 (try (have hji3l:0≤ji3:=by (rw[← hji3];unfold mx;(repeat' split) <;> omega)))
 (try (have hji3m:0≤ji3:=by omega))
 have hji3_:(if a1<0 then 0 else a1)=ji3:=hji3
 obtain⟨ji4,hji4⟩:∃j_:Int,(mn (ji3) 10000)=j_:=⟨_,rfl⟩
 replace H:(if (mn (ji4) (a0_2.size:Int))>0 then (if 0≤(mn (ji4) (a0_2.size:Int)) then (if (mn (ji4) (a0_2.size:Int))≤(a0_2.size:Int) then (if a0_1.size+(a0_2.extract 0 ((mn (ji4) (a0_2.size:Int)):Int).toNat).size≤9223372036854775807 then ((num_Zeros.f ((ji4)-(mn (ji4) (a0_2.size:Int)))).bind fun t159=>(if (a0_1++(a0_2.extract 0 ((mn (ji4) (a0_2.size:Int)):Int).toNat)).size+t159.size≤9223372036854775807 then ((num_Trim.f k ((a0_1++(a0_2.extract 0 ((mn (ji4) (a0_2.size:Int)):Int).toNat))++t159)).bind fun t160=>(some (t160,a0_2.extract ((mn (ji4) (a0_2.size:Int)):Int).toNat a0_2.size,ji4))) else (none))) else (none)) else (none)) else (none)) else ((num_Zeros.f (ji4)).bind fun t161=>(if a0_1.size+t161.size≤9223372036854775807 then ((num_Trim.f k (a0_1++t161)).bind fun t162=>(some (t162,a0_2,ji4))) else (none))))=some (r1,r2,r3):=by first|(rw[hji4] at H;exact H)|(simp only[hji4] at H ⊢;exact H)
 have hji4_:(if 10000<(ji3) then 10000 else (ji3))=ji4:=hji4
 obtain⟨ji5,hji5⟩:∃j_:Int,(mn (ji4) (a0_2.size:Int))=j_:=⟨_,rfl⟩
 replace H:(if (ji5)>0 then (if 0≤(ji5) then (if (ji5)≤(a0_2.size:Int) then (if a0_1.size+(a0_2.extract 0 ((ji5):Int).toNat).size≤9223372036854775807 then ((num_Zeros.f ((ji4)-(ji5))).bind fun t159=>(if (a0_1++(a0_2.extract 0 ((ji5):Int).toNat)).size+t159.size≤9223372036854775807 then ((num_Trim.f k ((a0_1++(a0_2.extract 0 ((ji5):Int).toNat))++t159)).bind fun t160=>(some (t160,a0_2.extract ((ji5):Int).toNat a0_2.size,ji4))) else (none))) else (none)) else (none)) else (none)) else ((num_Zeros.f (ji4)).bind fun t161=>(if a0_1.size+t161.size≤9223372036854775807 then ((num_Trim.f k (a0_1++t161)).bind fun t162=>(some (t162,a0_2,ji4))) else (none))))=some (r1,r2,r3):=by first|(rw[hji5] at H;exact H)|(simp only[hji5] at H ⊢;exact H)
 have hji5_:(if (a0_2.size:Int)<(ji4) then (a0_2.size:Int) else (ji4))=ji5:=hji5
 by_cases c6:(ji5)>0
 ·rw[if_pos c6] at H
  have c6b0:decide (0<(ji5))=true:=decide_eq_true c6
  clear c6
  replace H:=ifn_ H
  obtain⟨c7,H⟩:=H
  have c7b0:=eq_true c7
  have c7b1:decide (0≤(ji5))=true:=decide_eq_true c7
  clear c7
  replace H:=ifn_ H
  obtain⟨c8,H⟩:=H
  have c8b0:=eq_true c8
  have c8b1:decide ((ji5)≤(a0_2.size:Int))=true:=decide_eq_true c8
  clear c8
  replace H:=ifn_ H
  obtain⟨c9,H⟩:=H
  have c9b0:=eq_true c9
  have c9b1:decide (a0_1.size+(a0_2.extract 0 ((ji5):Int).toNat).size≤9223372036854775807)=true:=decide_eq_true c9
  (try (have c9y:(9223372036854775807<a0_1.size+ji5.toNat)=False:=eq_false (by have h_:=c9;simp only[ByteArray.size_append,ByteArray.size_extract] at h_;(try have h0a_:=(od_:0≤(ji5)));(try have h0b_:=(od_:(ji5)≤(a0_2.size:Int)));omega)))
  try have c9b2:=eq_false (Nat.not_lt.2 c9)
  (try (have c9x0:=c9b0;simp only[ByteArray.size_extract,Nat.min_self,Nat.sub_zero] at c9x0))
  (try (have c9x1:=c9b1;simp only[ByteArray.size_extract,Nat.min_self,Nat.sub_zero] at c9x1))
  have c10b0:=eq_true (od_:0≤(ji5))
  have c11b0:=eq_true (od_:(ji5)≤(a0_2.size:Int))
  replace H:=Option.bind_eq_some_iff.mp H
  obtain⟨t159,A120,H⟩:=H
  have A12:=Aside0.mk A120
  clear A120
  replace H:=ifn_ H
  obtain⟨c13,H⟩:=H
  have c13b0:=eq_true c13
  have c13b1:decide ((a0_1++(a0_2.extract 0 ((ji5):Int).toNat)).size+t159.size≤9223372036854775807)=true:=decide_eq_true c13
  (try (have c13y:(9223372036854775807<a0_1.size+ji5.toNat+t159.size)=False:=eq_false (by have h_:=c13;simp only[ByteArray.size_append,ByteArray.size_extract] at h_;(try have h0a_:=(od_:0≤(ji5)));(try have h0b_:=(od_:(ji5)≤(a0_2.size:Int)));omega)))
  try (have c13b5:=c13b0;simp only[ByteArray.size_append,Int.natCast_add] at c13b5)
  try have c13b2:=eq_false (Nat.not_lt.2 c13)
  try have c13b3:(9223372036854775807<a0_1.size+(a0_2.extract 0 ((ji5):Int).toNat).size+t159.size)=False:=eq_false (Nat.not_lt.2 (by have h_:=c13;simp only[ByteArray.size_append] at h_;exact h_))
  try have c13b4:(a0_1.size+(a0_2.extract 0 ((ji5):Int).toNat).size+t159.size≤9223372036854775807)=True:=eq_true (by have h_:=c13;simp only[ByteArray.size_append] at h_;exact h_)
  (try (have c13x0:=c13b0;simp only[ByteArray.size_extract,Nat.min_self,Nat.sub_zero] at c13x0))
  (try (have c13x1:=c13b1;simp only[ByteArray.size_extract,Nat.min_self,Nat.sub_zero] at c13x1))
  replace H:=Option.bind_eq_some_iff.mp H
  obtain⟨t160,A140,H⟩:=H
  have A14:=Aside0.mk A140
  clear A140
  simp only[Option.some.injEq,Prod.mk.injEq] at H
  obtain⟨rfl,rfl,rfl⟩:=H
  go_enter Tryd.func23,Tryd.ntmps23
  go_wp2_with (first|((with_reducible refine gate_dst (N:=2) rfl ?_);refine be_ 2 #[.bool a0_0,.string a0_1,.string a0_2] 75 ?_;intro gb157 hg w15 hbox hb;have BK157:=Aside0.mk (hbox);have GW157:=sz_ HB hg;have GE157:=sz_ HB hg;replace HB:=Aside0.mk (below_step (bl_ HB).out hb);clear hb hbox hg)|((with_reducible refine gate_dst (N:=4) rfl ?_);refine be_ 4 #[.string (⟨#[]⟩:ByteArray),.string (⟨#[]⟩:ByteArray),.int .i64 0] 41 ?_;intro gb158 hg w16 hbox hb;have BK158:=Aside0.mk (hbox);have GW158:=sz_ HB hg;have GE158:=sz_ HB hg;have NB157_158:=na_ BK157 hg;have NB158_157:=nb_ BK157 hg;replace BK157:=bb_ BK157 hb;replace HB:=Aside0.mk (below_step (bl_ HB).out hb);clear hb hbox hg;have hnb17:=NB157_158.out;have hnc17:=NB158_157.out;obtain⟨hcz18_0,hcz18_1,hcz18_2,hfz18_0,hfz18_1,hfz18_2⟩:=bo3_ BK157)|(go_at_call 36;(with_reducible refine(num_Zeros.calls _ _ _ A12.out).mono ?_);rintro e w19 ⟨rfl,hb⟩;replace BK157:=bb_ BK157 hb;replace BK158:=bb_ BK158 hb;replace HB:=Aside0.mk (below_step (bl_ HB).out hb);(try clear hb);(try clear hi))|(go_at_call 35;(with_reducible refine(num_Trim.calls k ((a0_1++(a0_2.extract 0 ((ji5):Int).toNat))++t159) t160 _ A14.out).mono ?_);rintro e w' ⟨rfl,⟨nd,rfl⟩⟩;(try first|exact⟨rfl,_,World.drewN_drewN _ _ _⟩|exact⟨rfl,_,Eq.trans (World.drewN_drewN _ _ _) (congrArg (World.drewN _) (Nat.add_assoc _ _ _))⟩);obtain⟨hcz20_0,hcz20_1,hcz20_2,hfz20_0,hfz20_1,hfz20_2⟩:=bo3_ BK158))
  repeat(go_quiet (first|((with_reducible refine gate_dst (N:=2) rfl ?_);refine be_ 2 #[.bool a0_0,.string a0_1,.string a0_2] 75 ?_;intro gb157 hg w15 hbox hb;have BK157:=Aside0.mk (hbox);have GW157:=sz_ HB hg;have GE157:=sz_ HB hg;replace HB:=Aside0.mk (below_step (bl_ HB).out hb);clear hb hbox hg)|((with_reducible refine gate_dst (N:=4) rfl ?_);refine be_ 4 #[.string (⟨#[]⟩:ByteArray),.string (⟨#[]⟩:ByteArray),.int .i64 0] 41 ?_;intro gb158 hg w16 hbox hb;have BK158:=Aside0.mk (hbox);have GW158:=sz_ HB hg;have GE158:=sz_ HB hg;have NB157_158:=na_ BK157 hg;have NB158_157:=nb_ BK157 hg;replace BK157:=bb_ BK157 hb;replace HB:=Aside0.mk (below_step (bl_ HB).out hb);clear hb hbox hg;have hnb17:=NB157_158.out;have hnc17:=NB158_157.out;obtain⟨hcz18_0,hcz18_1,hcz18_2,hfz18_0,hfz18_1,hfz18_2⟩:=bo3_ BK157)|(go_at_call 36;(with_reducible refine(num_Zeros.calls _ _ _ A12.out).mono ?_);rintro e w19 ⟨rfl,hb⟩;replace BK157:=bb_ BK157 hb;replace BK158:=bb_ BK158 hb;replace HB:=Aside0.mk (below_step (bl_ HB).out hb);(try clear hb);(try clear hi))|(go_at_call 35;(with_reducible refine(num_Trim.calls k ((a0_1++(a0_2.extract 0 ((ji5):Int).toNat))++t159) t160 _ A14.out).mono ?_);rintro e w' ⟨rfl,⟨nd,rfl⟩⟩;(try first|exact⟨rfl,_,World.drewN_drewN _ _ _⟩|exact⟨rfl,_,Eq.trans (World.drewN_drewN _ _ _) (congrArg (World.drewN _) (Nat.add_assoc _ _ _))⟩);obtain⟨hcz20_0,hcz20_1,hcz20_2,hfz20_0,hfz20_1,hfz20_2⟩:=bo3_ BK158));try go_wp2_with (first|((with_reducible refine gate_dst (N:=2) rfl ?_);refine be_ 2 #[.bool a0_0,.string a0_1,.string a0_2] 75 ?_;intro gb157 hg w15 hbox hb;have BK157:=Aside0.mk (hbox);have GW157:=sz_ HB hg;have GE157:=sz_ HB hg;replace HB:=Aside0.mk (below_step (bl_ HB).out hb);clear hb hbox hg)|((with_reducible refine gate_dst (N:=4) rfl ?_);refine be_ 4 #[.string (⟨#[]⟩:ByteArray),.string (⟨#[]⟩:ByteArray),.int .i64 0] 41 ?_;intro gb158 hg w16 hbox hb;have BK158:=Aside0.mk (hbox);have GW158:=sz_ HB hg;have GE158:=sz_ HB hg;have NB157_158:=na_ BK157 hg;have NB158_157:=nb_ BK157 hg;replace BK157:=bb_ BK157 hb;replace HB:=Aside0.mk (below_step (bl_ HB).out hb);clear hb hbox hg;have hnb17:=NB157_158.out;have hnc17:=NB158_157.out;obtain⟨hcz18_0,hcz18_1,hcz18_2,hfz18_0,hfz18_1,hfz18_2⟩:=bo3_ BK157)|(go_at_call 36;(with_reducible refine(num_Zeros.calls _ _ _ A12.out).mono ?_);rintro e w19 ⟨rfl,hb⟩;replace BK157:=bb_ BK157 hb;replace BK158:=bb_ BK158 hb;replace HB:=Aside0.mk (below_step (bl_ HB).out hb);(try clear hb);(try clear hi))|(go_at_call 35;(with_reducible refine(num_Trim.calls k ((a0_1++(a0_2.extract 0 ((ji5):Int).toNat))++t159) t160 _ A14.out).mono ?_);rintro e w' ⟨rfl,⟨nd,rfl⟩⟩;(try first|exact⟨rfl,_,World.drewN_drewN _ _ _⟩|exact⟨rfl,_,Eq.trans (World.drewN_drewN _ _ _) (congrArg (World.drewN _) (Nat.add_assoc _ _ _))⟩);obtain⟨hcz20_0,hcz20_1,hcz20_2,hfz20_0,hfz20_1,hfz20_2⟩:=bo3_ BK158)))
  refine bodyPost_ret (results_cell_row rfl _ _ gb158 41 #[.string t160,.string (a0_2.extract ((ji5):Int).toNat a0_2.size),.int .i64 ji4] (0,0) _ rfl ((bp_ BK158).out) Tryd.underlying41 rfl (by kernel_rfl)) rfl ?_
  exact⟨by first|rfl|(simp[errW_none,errW_some] <;> rfl)|(simp only[← hji3, ← hji4, ← hji5];first|rfl|(simp[errW_none,errW_some] <;> rfl))|(simp[*,errW_none,errW_some] <;> first|rfl|exact given_isEmpty _|exact(given_isEmpty _).symm),by repeat(first|(with_reducible first|exact HB.out|apply below_alloc|apply pw_below_drewN|apply below_drew1|refine below_set ?_ GE157.out|refine below_set ?_ GE158.out)|exact HB.out)⟩
 rw[if_neg c6] at H
 have c6b0:decide (0<(ji5))=false:=decide_eq_false c6
 clear c6
 replace H:=Option.bind_eq_some_iff.mp H
 obtain⟨t161,A210,H⟩:=H
 have A21:=Aside0.mk A210
 clear A210
 replace H:=ifn_ H
 obtain⟨c22,H⟩:=H
 have c22b0:=eq_true c22
 have c22b1:decide (a0_1.size+t161.size≤9223372036854775807)=true:=decide_eq_true c22
 try have c22b2:=eq_false (Nat.not_lt.2 c22)
 replace H:=Option.bind_eq_some_iff.mp H
 obtain⟨t162,A230,H⟩:=H
 have A23:=Aside0.mk A230
 clear A230
 simp only[Option.some.injEq,Prod.mk.injEq] at H
 obtain⟨rfl,rfl,rfl⟩:=H
 go_enter Tryd.func23,Tryd.ntmps23
 go_wp2_with (first|((with_reducible refine gate_dst (N:=2) rfl ?_);refine be_ 2 #[.bool a0_0,.string a0_1,.string a0_2] 75 ?_;intro gb157 hg w24 hbox hb;have BK157:=Aside0.mk (hbox);have GW157:=sz_ HB hg;have GE157:=sz_ HB hg;replace HB:=Aside0.mk (below_step (bl_ HB).out hb);clear hb hbox hg)|((with_reducible refine gate_dst (N:=4) rfl ?_);refine be_ 4 #[.string (⟨#[]⟩:ByteArray),.string (⟨#[]⟩:ByteArray),.int .i64 0] 41 ?_;intro gb158 hg w25 hbox hb;have BK158:=Aside0.mk (hbox);have GW158:=sz_ HB hg;have GE158:=sz_ HB hg;have NB157_158:=na_ BK157 hg;have NB158_157:=nb_ BK157 hg;replace BK157:=bb_ BK157 hb;replace HB:=Aside0.mk (below_step (bl_ HB).out hb);clear hb hbox hg;have hnb26:=NB157_158.out;have hnc26:=NB158_157.out;obtain⟨hcz27_0,hcz27_1,hcz27_2,hfz27_0,hfz27_1,hfz27_2⟩:=bo3_ BK157)|(go_at_call 36;(with_reducible refine(num_Zeros.calls _ _ _ A21.out).mono ?_);rintro e w28 ⟨rfl,hb⟩;replace BK157:=bb_ BK157 hb;replace BK158:=bb_ BK158 hb;replace HB:=Aside0.mk (below_step (bl_ HB).out hb);(try clear hb);(try clear hi))|(go_at_call 35;(with_reducible refine(num_Trim.calls _ _ _ _ A23.out).mono ?_);rintro e w' ⟨rfl,⟨nd,rfl⟩⟩;(try first|exact⟨rfl,_,World.drewN_drewN _ _ _⟩|exact⟨rfl,_,Eq.trans (World.drewN_drewN _ _ _) (congrArg (World.drewN _) (Nat.add_assoc _ _ _))⟩);obtain⟨hcz29_0,hcz29_1,hcz29_2,hfz29_0,hfz29_1,hfz29_2⟩:=bo3_ BK158))
 repeat(go_quiet (first|((with_reducible refine gate_dst (N:=2) rfl ?_);refine be_ 2 #[.bool a0_0,.string a0_1,.string a0_2] 75 ?_;intro gb157 hg w24 hbox hb;have BK157:=Aside0.mk (hbox);have GW157:=sz_ HB hg;have GE157:=sz_ HB hg;replace HB:=Aside0.mk (below_step (bl_ HB).out hb);clear hb hbox hg)|((with_reducible refine gate_dst (N:=4) rfl ?_);refine be_ 4 #[.string (⟨#[]⟩:ByteArray),.string (⟨#[]⟩:ByteArray),.int .i64 0] 41 ?_;intro gb158 hg w25 hbox hb;have BK158:=Aside0.mk (hbox);have GW158:=sz_ HB hg;have GE158:=sz_ HB hg;have NB157_158:=na_ BK157 hg;have NB158_157:=nb_ BK157 hg;replace BK157:=bb_ BK157 hb;replace HB:=Aside0.mk (below_step (bl_ HB).out hb);clear hb hbox hg;have hnb26:=NB157_158.out;have hnc26:=NB158_157.out;obtain⟨hcz27_0,hcz27_1,hcz27_2,hfz27_0,hfz27_1,hfz27_2⟩:=bo3_ BK157)|(go_at_call 36;(with_reducible refine(num_Zeros.calls _ _ _ A21.out).mono ?_);rintro e w28 ⟨rfl,hb⟩;replace BK157:=bb_ BK157 hb;replace BK158:=bb_ BK158 hb;replace HB:=Aside0.mk (below_step (bl_ HB).out hb);(try clear hb);(try clear hi))|(go_at_call 35;(with_reducible refine(num_Trim.calls _ _ _ _ A23.out).mono ?_);rintro e w' ⟨rfl,⟨nd,rfl⟩⟩;(try first|exact⟨rfl,_,World.drewN_drewN _ _ _⟩|exact⟨rfl,_,Eq.trans (World.drewN_drewN _ _ _) (congrArg (World.drewN _) (Nat.add_assoc _ _ _))⟩);obtain⟨hcz29_0,hcz29_1,hcz29_2,hfz29_0,hfz29_1,hfz29_2⟩:=bo3_ BK158));try go_wp2_with (first|((with_reducible refine gate_dst (N:=2) rfl ?_);refine be_ 2 #[.bool a0_0,.string a0_1,.string a0_2] 75 ?_;intro gb157 hg w24 hbox hb;have BK157:=Aside0.mk (hbox);have GW157:=sz_ HB hg;have GE157:=sz_ HB hg;replace HB:=Aside0.mk (below_step (bl_ HB).out hb);clear hb hbox hg)|((with_reducible refine gate_dst (N:=4) rfl ?_);refine be_ 4 #[.string (⟨#[]⟩:ByteArray),.string (⟨#[]⟩:ByteArray),.int .i64 0] 41 ?_;intro gb158 hg w25 hbox hb;have BK158:=Aside0.mk (hbox);have GW158:=sz_ HB hg;have GE158:=sz_ HB hg;have NB157_158:=na_ BK157 hg;have NB158_157:=nb_ BK157 hg;replace BK157:=bb_ BK157 hb;replace HB:=Aside0.mk (below_step (bl_ HB).out hb);clear hb hbox hg;have hnb26:=NB157_158.out;have hnc26:=NB158_157.out;obtain⟨hcz27_0,hcz27_1,hcz27_2,hfz27_0,hfz27_1,hfz27_2⟩:=bo3_ BK157)|(go_at_call 36;(with_reducible refine(num_Zeros.calls _ _ _ A21.out).mono ?_);rintro e w28 ⟨rfl,hb⟩;replace BK157:=bb_ BK157 hb;replace BK158:=bb_ BK158 hb;replace HB:=Aside0.mk (below_step (bl_ HB).out hb);(try clear hb);(try clear hi))|(go_at_call 35;(with_reducible refine(num_Trim.calls _ _ _ _ A23.out).mono ?_);rintro e w' ⟨rfl,⟨nd,rfl⟩⟩;(try first|exact⟨rfl,_,World.drewN_drewN _ _ _⟩|exact⟨rfl,_,Eq.trans (World.drewN_drewN _ _ _) (congrArg (World.drewN _) (Nat.add_assoc _ _ _))⟩);obtain⟨hcz29_0,hcz29_1,hcz29_2,hfz29_0,hfz29_1,hfz29_2⟩:=bo3_ BK158)))
 refine bodyPost_ret (results_cell_row rfl _ _ gb158 41 #[.string t162,.string a0_2,.int .i64 ji4] (0,0) _ rfl ((bp_ BK158).out) Tryd.underlying41 rfl (by kernel_rfl)) rfl ?_
 exact⟨by first|rfl|(simp[errW_none,errW_some] <;> rfl)|(simp only[← hji3, ← hji4, ← hji5];first|rfl|(simp[errW_none,errW_some] <;> rfl))|(simp[*,errW_none,errW_some] <;> first|rfl|exact given_isEmpty _|exact(given_isEmpty _).symm),by repeat(first|(with_reducible first|exact HB.out|apply below_alloc|apply pw_below_drewN|apply below_drew1|refine below_set ?_ GE157.out|refine below_set ?_ GE158.out)|exact HB.out)⟩

end Go.Proofs.YtbhhfpjiacfofaaDoor.P
