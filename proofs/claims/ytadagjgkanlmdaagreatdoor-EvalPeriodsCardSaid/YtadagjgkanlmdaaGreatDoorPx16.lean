-- written by a program of this session (wip/p2)
import Derived.Test.YtadagjgkanlmdaaGreatDoorPx0
import Derived.Test.YtadagjgkanlmdaaGreatDoorPx1
namespace Go.Proofs.YtadagjgkanlmdaaGreatDoor.P
open Go.RowKit Go.Proofs.YtadagjgkanlmdaaGreatDoorW.PrintWords Go.Proofs.YtadagjgkanlmdaaGreatDoorW.PrintLast Go.Proofs.YtadagjgkanlmdaaGreatDoorW.PrintMore
attribute [local go_sem] max2_int min2_int max_two min_two max_three min_three max_four min_four   -- for this text's walks alone
set_option linter.unusedVariables false
set_option linter.unusedSimpArgs false

/-! ### num_all: function 37 -/
def num_all.l0:Nat→List ByteArray→Int→Int→Option (Bool)
 | 0,_,_,_=>none
 | k+1,x5,x6,x7=>if x7<x6 then (if 0≤x7 then (if x7<(x5.length:Int) then ((num_Is.f k (rdOf ByteArray.empty x5 x7)).bind fun t868=>(if t868=true then (num_all.l0 k x5 x6 (wrap64 (x7+1))) else (some false))) else (none)) else (none)) else (some true)
def num_all.f (k:Nat) (l0:List ByteArray):Option (Bool):=num_all.l0 k l0 (l0.length:Int) 0
set_option maxHeartbeats 64000000 in
set_option maxRecDepth 100000 in
theorem num_all.calls (k:Nat) (A0:Option Addr) (c0:Nat) (l0:List ByteArray) (r:Bool) (w:World) (hr0:Kd.C Kd.string w A0 l0.length l0) (hc0:l0.length≤c0) (h:num_all.f k l0=some r) :
  Calls Tryz.prog 37 #[.slice A0 l0.length c0] w fun e w'=>e= .returned (.bool r)∧Drawn0 w w':=by
 have HR0:=Aside0.mk hr0
 have HC0:=Aside0.mk hc0
 clear hr0 hc0
 have H:(num_all.l0 k l0 (l0.length:Int) 0)=some r:=h
 clear h
 have H':=Aside0.mk H
 clear H
 go_enter Tryz.func37,Tryz.ntmps37
 go_wp2
 go_loopg [7] k (fun kq v7 w'=>∃(x7_1:Int),v7= .int .i64 x7_1∧Aside0 (num_all.l0 kq l0 (l0.length:Int) x7_1=some r)∧Aside0 (kq≤k)∧Drawn0 w w')
 case atStart=>exact⟨(0),eq_,H',⟨Nat.le_refl _⟩,by repeat(first|exact Drawn0.refl _|apply Drawn0.step)⟩
 case round =>
  clear H'
  obtain⟨x7_1,rfl,HA,HK1,⟨m1,rfl⟩⟩:=hrel
  cases gk with
  | zero=>exact absurd HA.out (by simp[num_all.l0])
  | succ k1 =>
   have H:=HA.out
   clear HA
   simp only[num_all.l0] at H
   by_cases c2:x7_1<(l0.length:Int)
   ·rw[if_pos c2] at H
    have c2b0:=decide_eq_true c2
    clear c2
    replace H:=ifn_ H
    obtain⟨c3,H⟩:=H
    have c3b0:decide (0≤x7_1)=true:=decide_eq_true c3
    clear c3
    replace H:=ifn_ H
    obtain⟨c4,H⟩:=H
    have c4b0:decide (x7_1<(l0.length:Int))=true:=decide_eq_true c4
    clear c4
    replace H:=Option.bind_eq_some_iff.mp H
    obtain⟨t868,A50,H⟩:=H
    have A5:=Aside0.mk A50
    clear A50
    by_cases c6:t868=true
    ·subst c6
     have H1:(num_all.l0 k1 l0 (l0.length:Int) (wrap64 (x7_1+1)))=some r:=by rw[if_pos rfl] at H;exact H
     clear H
     have H:=H1
     clear H1
     have H':=Aside0.mk H
     clear H
     have p867:0≤(x7_1:Int):=od_
     have q867:x7_1<(l0.length:Int):=od_
     obtain⟨ad867,e867,hx867_0⟩:=Kd.at_string HR0.out x7_1 p867 q867
     cases e867
     replace p867:=eq_true p867
     replace q867:=eq_true q867
     go_wp2_with (first|((with_reducible refine gate_callee (f:=40) rfl ?_);refine gl_ (some 12) Tryz.func40 #[.string (rdOf ByteArray.empty l0 x7_1)] ?_;(with_reducible refine(num_Is.calls _ _ _ _ A5.out).mono ?_);rintro e w' ⟨rfl,⟨nd,rfl⟩⟩;refine⟨_,rfl,?_⟩))
     go_roundg k1
     case measure=>have:=HK1.out;omega
     case rel=>exact⟨(wrap64 (x7_1+1)),eq_,H',⟨by have:=HK1.out;omega⟩,by repeat(first|exact Drawn0.refl _|apply Drawn0.step)⟩
    ·replace c6:=Bool.eq_false_iff.mpr c6
     subst c6
     have H1:(some false)=some r:=by rw[if_neg (show ¬(false=true) by decide)] at H;exact H
     clear H
     have H:=H1
     clear H1
     obtain rfl:=Option.some.inj H
     have p867:0≤(x7_1:Int):=od_
     have q867:x7_1<(l0.length:Int):=od_
     obtain⟨ad867,e867,hx867_0⟩:=Kd.at_string HR0.out x7_1 p867 q867
     cases e867
     replace p867:=eq_true p867
     replace q867:=eq_true q867
     go_wp2_with (first|((with_reducible refine gate_callee (f:=40) rfl ?_);refine gl_ (some 12) Tryz.func40 #[.string (rdOf ByteArray.empty l0 x7_1)] ?_;(with_reducible refine(num_Is.calls _ _ _ _ A5.out).mono ?_);rintro e w' ⟨rfl,⟨nd,rfl⟩⟩;refine⟨_,rfl,?_⟩))
     go_ret
     exact⟨by first|rfl|(simp;done)|(simp[*];done)|(simp;first|exact given_isEmpty _|exact(given_isEmpty _).symm)|(unfold wrap64;omega)|(congr 1;unfold wrap64;omega),by repeat(first|exact Drawn0.refl _|apply Drawn0.step)⟩
   ·rw[if_neg c2] at H
    have c2b0:=decide_eq_false c2
    clear c2
    obtain rfl:=Option.some.inj H
    go_wp2
    go_ret
    exact⟨by first|rfl|(simp;done)|(simp[*];done)|(simp;first|exact given_isEmpty _|exact(given_isEmpty _).symm)|(unfold wrap64;omega)|(congr 1;unfold wrap64;omega),by repeat(first|exact Drawn0.refl _|apply Drawn0.step)⟩

/-! ### num_at: function 38 -/
def num_at.f (a0:ByteArray) (a1:Int):Option (Int):=if a1≥(a0.size:Int) then (some 0) else (if 0≤(wrap64 ((wrap64 ((a0.size:Int)-1))-a1)) then (if (wrap64 ((wrap64 ((a0.size:Int)-1))-a1))<(a0.size:Int) then (some (((bt a0 (wrap64 ((wrap64 ((a0.size:Int)-1))-a1)))-48)%256)) else (none)) else (none))
set_option maxHeartbeats 64000000 in
set_option maxRecDepth 100000 in
theorem num_at.calls (a0:ByteArray) (a1:Int) (r:Int) (w:World) (h:num_at.f a0 a1=some r) :
    Calls Tryz.prog 38 #[.string a0,.int .i64 a1] w fun e w'=>e= .returned (.int .i64 r)∧Drawn0 w w':=by
  have H:(if a1≥(a0.size:Int) then (some 0) else (if 0≤(wrap64 ((wrap64 ((a0.size:Int)-1))-a1)) then (if (wrap64 ((wrap64 ((a0.size:Int)-1))-a1))<(a0.size:Int) then (some (((bt a0 (wrap64 ((wrap64 ((a0.size:Int)-1))-a1)))-48)%256)) else (none)) else (none)))=some r:=h
  clear h
  by_cases c3:a1≥(a0.size:Int)
  · rw[if_pos c3] at H
    have c3b0:decide ((a0.size:Int)≤a1)=true:=decide_eq_true c3
    clear c3
    obtain rfl:=Option.some.inj H
    go_enter Tryz.func38,Tryz.ntmps38
    go_wp2
    go_ret
    exact⟨by first|rfl|(simp;done)|(simp[*];done)|(simp;first|exact given_isEmpty _|exact(given_isEmpty _).symm)|(unfold wrap64;omega)|(congr 1;unfold wrap64;omega),by repeat(first|exact Drawn0.refl _|apply Drawn0.step)⟩
  · rw[if_neg c3] at H
    have c3b0:decide ((a0.size:Int)≤a1)=false:=decide_eq_false c3
    clear c3
    obtain⟨ji4,hji4⟩:∃j_:Int,(wrap64 ((wrap64 ((a0.size:Int)-1))-a1))=j_:=⟨_,rfl⟩
    replace H:(if 0≤(ji4) then (if (ji4)<(a0.size:Int) then (some (((bt a0 (ji4))-48)%256)) else (none)) else (none))=some r:=by first|(rw[hji4] at H;exact H)|(simp only[hji4] at H ⊢;exact H)
    have hji4w:(IntKind.i64.wrap ((wrap64 ((a0.size:Int)-1))-a1))=ji4:=(i64_w _).trans hji4
    replace H:=ifn_ H
    obtain⟨c5,H⟩:=H
    have c5b0:decide (0≤(ji4))=true:=decide_eq_true c5
    clear c5
    replace H:=ifn_ H
    obtain⟨c6,H⟩:=H
    have c6b0:decide ((ji4)<(a0.size:Int))=true:=decide_eq_true c6
    clear c6
    obtain rfl:=Option.some.inj H
    have p7:0≤((ji4):Int):=od_
    have q7:(ji4)<(a0.size:Int):=od_
    have hx7:=bt_at a0 (ji4)
    replace p7:=eq_true p7
    replace q7:=eq_true q7
    go_enter Tryz.func38,Tryz.ntmps38
    go_wp2
    go_ret
    exact⟨by first|rfl|(simp;done)|(simp only[← hji4] <;> (first|rfl|simp))|(simp[*];done),by repeat(first|exact Drawn0.refl _|apply Drawn0.step)⟩

/-! ### num_Add: function 17 -/
mutual
def num_Add.l0:Nat→ByteArray→ByteArray→List Int→Int→Int→Option (ByteArray)
 | 0,_,_,_,_,_=>none
 | k+1,x0,x1,x5,x6,x7=>if x7<(mx (x0.size:Int) (x1.size:Int)) then (num_Add.j1 k x0 x1 x5 x6 x7 true) else (num_Add.j1 k x0 x1 x5 x6 x7 (decide (x6>0)))
def num_Add.j1:Nat→ByteArray→ByteArray→List Int→Int→Int→Bool→Option (ByteArray)
 | 0,_,_,_,_,_,_=>none
 | k+1,x0,x1,x5,x6,x7,x24=>if x24=true then ((num_at.f x0 x7).bind fun t873=>((num_at.f x1 x7).bind fun t874=>(if x5.length<140737488355328 then (num_Add.l0 k x0 x1 (x5++[(48+(Int.tmod (wrap64 ((wrap64 (t873+t874))+x6)) 10))%256]) (wrap64 (Int.tdiv (wrap64 ((wrap64 (t873+t874))+x6)) 10)) (wrap64 (x7+1))) else (none)))) else ((num_text.f k x5).bind fun t878=>(some t878))
end
def num_Add.f (k:Nat) (a0:ByteArray) (a1:ByteArray):Option (ByteArray):=(num_all.f k (([a0,a1]:List ByteArray))).bind fun t872=>(if t872=true then (num_Add.l0 k a0 a1 ([]:List Int) 0 0) else (some (⟨#[]⟩:ByteArray)))
set_option maxHeartbeats 64000000 in
set_option maxRecDepth 100000 in
theorem num_Add.calls (k:Nat) (a0:ByteArray) (a1:ByteArray) (r:ByteArray) (w:World) (h:num_Add.f k a0 a1=some r) :
  Calls Tryz.prog 17 #[.string a0,.string a1] w fun e w'=>e= .returned (.string r)∧Below w.heap.size w w':=by
 have HB:=Aside0.mk (Below.refl w.heap.size w)
 have H:((num_all.f k (([a0,a1]:List ByteArray))).bind fun t872=>(if t872=true then (num_Add.l0 k a0 a1 ([]:List Int) 0 0) else (some (⟨#[]⟩:ByteArray))))=some r:=h
 clear h
 obtain⟨y869,hy869⟩:∃y_:List ByteArray,y_=(([a0,a1]:List ByteArray)):=⟨_,rfl⟩
 replace H:((num_all.f k y869).bind fun t872=>(if t872=true then (num_Add.l0 k a0 a1 ([]:List Int) 0 0) else (some (⟨#[]⟩:ByteArray))))=some r:=by first|(rw[hy869];with_reducible exact H)|(have H2_:=(Option.bind_some _ _).symm.trans H;rw[hy869];with_reducible exact H2_)|(have H2_:=(Option.bind_some _ _).symm.trans H;with_reducible exact H2_)|with_reducible exact H|(rw[hy869];exact H)|exact H
 have Ny869:=Aside0.mk hy869
 clear hy869
 replace H:=Option.bind_eq_some_iff.mp H
 obtain⟨t872,A30,H⟩:=H
 have A3:=Aside0.mk A30
 clear A30
 by_cases c4:t872=true
 ·subst c4
  have H1:(num_Add.l0 k a0 a1 ([]:List Int) 0 0)=some r:=by rw[if_pos rfl] at H;exact H
  clear H
  have H:=H1
  clear H1
  have H':=Aside0.mk H
  clear H
  go_enter Tryz.func17,Tryz.ntmps17
  go_wp2_with (first|((with_reducible refine gate_dst (N:=11) rfl ?_);refine Kd.R_lit Kd.string _ 9 ?hg (N:=11) ?hd (xs:=([a0,a1]:List ByteArray)) (inner:=[.string a0,.string a1]) (ok:=fun _=>True) (okp:=fun _=>True) ?hr ?hp (fun _ hk=>hk) trivial (Below.refl _ _) (Nat.le_refl _) (by simp) ?_;(case hd=>rfl);(case hg=>rfl);(case hr=>first|(go_simp;done)|(go_simp;rfl));(case hp=>exact(Reps.one (show Kd.M Kd.string _ _ _ a0 [.string a0] from rfl) (Reps.one (show Kd.M Kd.string _ _ _ a1 [.string a1] from rfl) (Reps.none _ _))));intro v870 w5 ho6 hb hg_ hnew_;clear hg_ hnew_;(first|rw[← Ny869.out] at ho6|(simp only[Int.reduceToNat] at ho6;rw[← Ny869.out] at ho6));have HO871:=Aside0.mk (Kd.R_lower ho6 (below_size (bl_ HB).out));replace HB:=Aside0.mk (below_step (bl_ HB).out hb);clear hb ho6;obtain⟨Ao7,co7,eo7⟩:=Kd.R_slice HO871.out;subst eo7)|((with_reducible refine gate_callee (f:=37) rfl ?_);refine gl_ (some 12) Tryz.func37 #[.slice Ao7 y869.length co7] ?_;(with_reducible refine(num_all.calls _ _ _ _ _ _ ?side1 ?side2 A3.out).mono ?_);(case side1=>exact kc_ HO871);(case side2=>exact kl_ HO871);rintro e w' ⟨rfl,⟨nd,rfl⟩⟩;refine⟨_,rfl,?_⟩))
  go_loopg [5,6,7] k (fun kq v5 v6 v7 w'=>∃(x5_1:List Int) (x6_1:Int) (x7_1:Int),v6= .int .i64 x6_1∧v7= .int .i64 x7_1∧Aside0 (num_Add.l0 kq a0 a1 x5_1 x6_1 x7_1=some r)∧Aside0 (kq≤k)∧Aside0 (Kd.R (Kd.int .u8) 5 w' w.heap.size (fun _=>True) v5 x5_1)∧Aside0 (Below w.heap.size w w'))
  case atStart=>exact⟨(([]:List Int)),(0),(0),eq_,eq_,H',⟨Nat.le_refl _⟩,⟨by first|exact Kd.R_nil _ _ _ _ _|exact Kd.N_nil _ _ _ _ _|exact Kd.V_nil _ _ _ _ _|exact Kd.Q_nil _ _ _ _ _|exact Kd.S_nil _ _ _ _ _⟩,(bl_ HB)⟩
  case round =>
   clear H'
   obtain⟨x5_1,x6_1,x7_1,rfl,rfl,HA,HK1,HO_5,HB⟩:=hrel
   cases gk with
   | zero=>exact absurd HA.out (by simp[num_Add.l0])
   | succ k1 =>
    have H:=HA.out
    clear HA
    simp only[num_Add.l0] at H
    have HC8:=Aside0.mk H
    clear H
    go_upto_region 6 with (fail)
    go_cut [24] (fun v24 wc=>∃(kq:Nat) (x24_7:Bool),v24= .bool x24_7∧Aside0 (num_Add.j1 kq a0 a1 x5_1 x6_1 x7_1 x24_7=some r)∧Aside0 (kq≤k1)∧Aside0 (Kd.R (Kd.int .u8) 5 wc w.heap.size (fun _=>True) u5 x5_1)∧Aside0 (Below w.heap.size w wc))
    case first =>
     have H:=HC8.out
     clear HC8
     obtain⟨ji9,hji9⟩:∃j_:Int,(mx (a0.size:Int) (a1.size:Int))=j_:=⟨_,rfl⟩
     replace H:(if x7_1<(ji9) then (num_Add.j1 k1 a0 a1 x5_1 x6_1 x7_1 true) else (num_Add.j1 k1 a0 a1 x5_1 x6_1 x7_1 (decide (x6_1>0))))=some r:=by first|(rw[hji9] at H;exact H)|(simp only[hji9] at H ⊢;exact H)
     have hji9_:(if (a0.size:Int)<(a1.size:Int) then (a1.size:Int) else (a0.size:Int))=ji9:=hji9
     have hji9n:(if a0.size<a1.size then (a1.size:Int) else (a0.size:Int))=ji9:=by have h_:=hji9_;simp only[Int.ofNat_lt] at h_;exact h_
     by_cases c10:x7_1<(ji9)
     ·rw[if_pos c10] at H
      have c10b0:=decide_eq_true c10
      clear c10
      (first|rw[c10b0]|(simp only[i64_w,i32_w];rw[c10b0])|skip)
      have H':=Aside0.mk H
      clear H
      go_wp2
      go_meet
      case rel=>first|(exact⟨_,(true),eq_,(by first|exact H'|(rw[hji9];exact H')|(simp only[hji9];exact H')),⟨by have:=HK1.out;first|omega|exact Nat.le_refl _⟩,⟨kdR_ HO_5.out⟩,(bl_ HB)⟩)|(rw[← hji9] at H';exact⟨_,(true),eq_,(by first|exact H'|(rw[hji9];exact H')|(simp only[hji9];exact H')),⟨by have:=HK1.out;first|omega|exact Nat.le_refl _⟩,⟨kdR_ HO_5.out⟩,(bl_ HB)⟩)
     ·rw[if_neg c10] at H
      have c10b0:=decide_eq_false c10
      clear c10
      (first|rw[c10b0]|(simp only[i64_w,i32_w];rw[c10b0])|skip)
      have H':=Aside0.mk H
      clear H
      go_wp2
      go_meet
      case rel=>first|(exact⟨_,(decide (x6_1>0)),eq_,(by first|exact H'|(rw[hji9];exact H')|(simp only[hji9];exact H')),⟨by have:=HK1.out;first|omega|exact Nat.le_refl _⟩,⟨kdR_ HO_5.out⟩,(bl_ HB)⟩)|(rw[← hji9] at H';exact⟨_,(decide (x6_1>0)),eq_,(by first|exact H'|(rw[hji9];exact H')|(simp only[hji9];exact H')),⟨by have:=HK1.out;first|omega|exact Nat.le_refl _⟩,⟨kdR_ HO_5.out⟩,(bl_ HB)⟩)
    case rest =>
     clear HC8
     obtain⟨kq,x24_7,rfl,HA,HJ7,HO_5,HB⟩:=hcut
     cases kq with
     | zero=>exact absurd HA.out (by simp[num_Add.j1])
     | succ kj7 =>
      have H:=HA.out
      clear HA
      simp only[num_Add.j1] at H
      by_cases c11:x24_7=true
      ·subst c11
       have H1:((num_at.f a0 x7_1).bind fun t873=>((num_at.f a1 x7_1).bind fun t874=>(if x5_1.length<140737488355328 then (num_Add.l0 kj7 a0 a1 (x5_1++[(48+(Int.tmod (wrap64 ((wrap64 (t873+t874))+x6_1)) 10))%256]) (wrap64 (Int.tdiv (wrap64 ((wrap64 (t873+t874))+x6_1)) 10)) (wrap64 (x7_1+1))) else (none))))=some r:=by rw[if_pos rfl] at H;exact H
       clear H
       have H:=H1
       clear H1
       replace H:=Option.bind_eq_some_iff.mp H
       obtain⟨t873,A120,H⟩:=H
       have A12:=Aside0.mk A120
       clear A120
       replace H:=Option.bind_eq_some_iff.mp H
       obtain⟨t874,A130,H⟩:=H
       have A13:=Aside0.mk A130
       clear A130
       replace H:=ifn_ H
       obtain⟨c14,H⟩:=H
       have LMc14:=Aside0.mk c14
       clear c14
       obtain⟨y875,hy875⟩:∃y_:List Int,y_=(x5_1++[(48+(Int.tmod (wrap64 ((wrap64 (t873+t874))+x6_1)) 10))%256]):=⟨_,rfl⟩
       replace H:(num_Add.l0 kj7 a0 a1 y875 (wrap64 (Int.tdiv (wrap64 ((wrap64 (t873+t874))+x6_1)) 10)) (wrap64 (x7_1+1)))=some r:=by first|(rw[hy875];with_reducible exact H)|(have H2_:=(Option.bind_some _ _).symm.trans H;rw[hy875];with_reducible exact H2_)|(have H2_:=(Option.bind_some _ _).symm.trans H;with_reducible exact H2_)|with_reducible exact H|(rw[hy875];exact H)|exact H
       have Ny875:=Aside0.mk hy875
       clear hy875
       have H':=Aside0.mk H
       clear H
       go_wp2_with (first|((with_reducible refine gate_callee (f:=38) rfl ?_);refine gl_ (some 29) Tryz.func38 #[.string a0,.int .i64 x7_1] ?_;(with_reducible refine(num_at.calls _ _ _ _ A12.out).mono ?_);rintro e w' ⟨rfl,⟨nd,rfl⟩⟩;refine⟨_,rfl,?_⟩)|((with_reducible refine gate_callee (f:=38) rfl ?_);refine gl_ (some 32) Tryz.func38 #[.string a1,.int .i64 x7_1] ?_;(with_reducible refine(num_at.calls _ _ _ _ A13.out).mono ?_);rintro e w' ⟨rfl,⟨nd,rfl⟩⟩;refine⟨_,rfl,?_⟩)|((with_reducible refine gate_builtin (b:= .append) (xs:= #[.tmp 36,.tmp 41]) rfl ?_);at_builtin;refine Kd.R_append (Kd.int .u8) (w0:=w) w.heap.size rfl (.tmp 36) (.tmp 41) 23 5 (.int .u8 0) 1 rfl Tryz.underlying23 info5 rfl (by decide) (by omega) u5 x5_1 ((48+(Int.tmod (wrap64 ((wrap64 (t873+t874))+x6_1)) 10))%256) [.int .u8 ((48+(Int.tmod (wrap64 ((wrap64 (t873+t874))+x6_1)) 10))%256)] (fun _=>True) (fun _=>False) rfl rfl ?aP (fun _ hk=>hk.elim) ?aF ?aO ?aB ?aS ?aL ?_;(case aP=>exact rfl);(case aB=>exact(bl_ HB).out);(case aF=>exact(fun _ _=>trivial));(case aO=>exact(kr_ HO_5));(case aS=>exact(below_size (bl_ HB).out));(case aL=>have:=LMc14.out;omega);intro v876 w15 ho hb hg hat;rw[← Ny875.out] at ho;have n0_:=Aside0.mk (hb);have n1_:=Aside0.mk (ho);clear HB;clear HO_5;have HB:=n0_;have HO877:=n1_;clear n0_ n1_;clear ho hb hg hat))
       go_roundg kj7
       case measure=>have:=HK1.out;have:=HJ7.out;omega
       case rel=>exact⟨(y875),(wrap64 (Int.tdiv (wrap64 ((wrap64 (t873+t874))+x6_1)) 10)),(wrap64 (x7_1+1)),eq_,eq_,H',⟨by have:=HK1.out;have:=HJ7.out;omega⟩,⟨kdR_ HO877.out⟩,(bl_ HB)⟩
      ·replace c11:=Bool.eq_false_iff.mpr c11
       subst c11
       have H1:((num_text.f kj7 x5_1).bind fun t878=>(some t878))=some r:=by rw[if_neg (show ¬(false=true) by decide)] at H;exact H
       clear H
       have H:=H1
       clear H1
       replace H:=Option.bind_eq_some_iff.mp H
       obtain⟨t878,A160,H⟩:=H
       have A16:=Aside0.mk A160
       clear A160
       obtain rfl:=Option.some.inj H
       obtain⟨Ao17,co17,eo17⟩:=Kd.R_slice HO_5.out
       subst eo17
       go_wp2_with (first|((with_reducible refine gate_callee (f:=39) rfl ?_);refine gl_ (some 46) Tryz.func39 #[.slice Ao17 x5_1.length co17] ?_;(with_reducible refine(num_text.calls _ _ _ _ _ _ ?side1 ?side2 A16.out).mono ?_);(case side1=>exact kc_ HO_5);(case side2=>exact kl_ HO_5);rintro e w18 ⟨rfl,hb⟩;refine⟨_,rfl,?_⟩;replace HO_5:=kb_ HO_5 hb;replace HB:=Aside0.mk (below_step (bl_ HB).out hb);(try clear hb);(try clear hi)))
       go_ret
       exact⟨ew_,(bl_ HB).out⟩
 ·replace c4:=Bool.eq_false_iff.mpr c4
  subst c4
  have H1:(some (⟨#[]⟩:ByteArray))=some r:=by rw[if_neg (show ¬(false=true) by decide)] at H;exact H
  clear H
  have H:=H1
  clear H1
  obtain rfl:=Option.some.inj H
  go_enter Tryz.func17,Tryz.ntmps17
  go_wp2_with (first|((with_reducible refine gate_dst (N:=11) rfl ?_);refine Kd.R_lit Kd.string _ 9 ?hg (N:=11) ?hd (xs:=([a0,a1]:List ByteArray)) (inner:=[.string a0,.string a1]) (ok:=fun _=>True) (okp:=fun _=>True) ?hr ?hp (fun _ hk=>hk) trivial (Below.refl _ _) (Nat.le_refl _) (by simp) ?_;(case hd=>rfl);(case hg=>rfl);(case hr=>first|(go_simp;done)|(go_simp;rfl));(case hp=>exact(Reps.one (show Kd.M Kd.string _ _ _ a0 [.string a0] from rfl) (Reps.one (show Kd.M Kd.string _ _ _ a1 [.string a1] from rfl) (Reps.none _ _))));intro v870 w19 ho20 hb hg_ hnew_;clear hg_ hnew_;(first|rw[← Ny869.out] at ho20|(simp only[Int.reduceToNat] at ho20;rw[← Ny869.out] at ho20));have HO871:=Aside0.mk (Kd.R_lower ho20 (below_size (bl_ HB).out));replace HB:=Aside0.mk (below_step (bl_ HB).out hb);clear hb ho20;obtain⟨Ao21,co21,eo21⟩:=Kd.R_slice HO871.out;subst eo21)|((with_reducible refine gate_callee (f:=37) rfl ?_);refine gl_ (some 12) Tryz.func37 #[.slice Ao21 y869.length co21] ?_;(with_reducible refine(num_all.calls _ _ _ _ _ _ ?side1 ?side2 A3.out).mono ?_);(case side1=>exact kc_ HO871);(case side2=>exact kl_ HO871);rintro e w' ⟨rfl,⟨nd,rfl⟩⟩;refine⟨_,rfl,?_⟩))
  go_ret
  exact⟨ew_,(bl_ HB).out⟩

/-! ### num_Times: function 18 -/
mutual
def num_Times.j0:Nat→ByteArray→Int→Bool→Option (ByteArray)
 | 0,_,_,_=>none
 | k+1,x0,x1,x19=>if x19=true then (some (⟨#[]⟩:ByteArray)) else (num_Times.l0 k x0 x1 ([]:List Int) 0 0)
def num_Times.l0:Nat→ByteArray→Int→List Int→Int→Int→Option (ByteArray)
 | 0,_,_,_,_,_=>none
 | k+1,x0,x1,x5,x6,x7=>if x7<(x0.size:Int) then ((num_at.f x0 x7).bind fun t880=>(if x5.length<140737488355328 then (num_Times.l0 k x0 x1 (x5++[(48+(Int.tmod (wrap64 ((wrap64 (t880*x1))+x6)) 10))%256]) (wrap64 (Int.tdiv (wrap64 ((wrap64 (t880*x1))+x6)) 10)) (wrap64 (x7+1))) else (none))) else (if x6>0 then ((num_at.f x0 x7).bind fun t884=>(if x5.length<140737488355328 then (num_Times.l0 k x0 x1 (x5++[(48+(Int.tmod (wrap64 ((wrap64 (t884*x1))+x6)) 10))%256]) (wrap64 (Int.tdiv (wrap64 ((wrap64 (t884*x1))+x6)) 10)) (wrap64 (x7+1))) else (none))) else ((num_text.f k x5).bind fun t888=>(some t888)))
end
def num_Times.f (k:Nat) (a0:ByteArray) (a1:Int):Option (ByteArray):=(num_Is.f k a0).bind fun t879=>(if t879=true then (if a1<0 then (num_Times.j0 k a0 a1 true) else (num_Times.j0 k a0 a1 (decide (a1>1000000000)))) else (num_Times.j0 k a0 a1 true))
set_option maxHeartbeats 64000000 in
set_option maxRecDepth 100000 in
theorem num_Times.calls (k:Nat) (a0:ByteArray) (a1:Int) (r:ByteArray) (w:World) (h:num_Times.f k a0 a1=some r) :
  Calls Tryz.prog 18 #[.string a0,.int .i64 a1] w fun e w'=>e= .returned (.string r)∧Below w.heap.size w w':=by
 have HB:=Aside0.mk (Below.refl w.heap.size w)
 have H:((num_Is.f k a0).bind fun t879=>(if t879=true then (if a1<0 then (num_Times.j0 k a0 a1 true) else (num_Times.j0 k a0 a1 (decide (a1>1000000000)))) else (num_Times.j0 k a0 a1 true)))=some r:=h
 clear h
 have HC3:=Aside0.mk H
 clear H
 go_enter Tryz.func18,Tryz.ntmps18
 go_upto_region 1 with (fail)
 go_cut [19] (fun v19 wc=>∃(kq:Nat) (x19_2:Bool),v19= .bool x19_2∧Aside0 (num_Times.j0 kq a0 a1 x19_2=some r)∧Aside0 (kq≤k)∧Aside0 (Below w.heap.size w wc))
 case first =>
  have H:=HC3.out
  clear HC3
  replace H:=Option.bind_eq_some_iff.mp H
  obtain⟨t879,A40,H⟩:=H
  have A4:=Aside0.mk A40
  clear A40
  by_cases c5:t879=true
  ·subst c5
   have H1:(if a1<0 then (num_Times.j0 k a0 a1 true) else (num_Times.j0 k a0 a1 (decide (a1>1000000000))))=some r:=by rw[if_pos rfl] at H;exact H
   clear H
   have H:=H1
   clear H1
   by_cases c6:a1<0
   ·rw[if_pos c6] at H
    have c6b0:=decide_eq_true c6
    clear c6
    (first|rw[c6b0]|(simp only[i64_w,i32_w];rw[c6b0])|skip)
    have H':=Aside0.mk H
    clear H
    go_wp2_with (first|((with_reducible refine gate_callee (f:=40) rfl ?_);refine gl_ (some 10) Tryz.func40 #[.string a0] ?_;(with_reducible refine(num_Is.calls _ _ _ _ A4.out).mono ?_);rintro e w' ⟨rfl,⟨nd,rfl⟩⟩;refine⟨_,rfl,?_⟩))
    go_meet
    case rel=>exact⟨_,(true),eq_,H',⟨by first|omega|exact Nat.le_refl _⟩,(bl_ HB)⟩
   ·rw[if_neg c6] at H
    have c6b0:=decide_eq_false c6
    clear c6
    (first|rw[c6b0]|(simp only[i64_w,i32_w];rw[c6b0])|skip)
    have H':=Aside0.mk H
    clear H
    go_wp2_with (first|((with_reducible refine gate_callee (f:=40) rfl ?_);refine gl_ (some 10) Tryz.func40 #[.string a0] ?_;(with_reducible refine(num_Is.calls _ _ _ _ A4.out).mono ?_);rintro e w' ⟨rfl,⟨nd,rfl⟩⟩;refine⟨_,rfl,?_⟩))
    go_meet
    case rel=>exact⟨_,(decide (a1>1000000000)),eq_,H',⟨by first|omega|exact Nat.le_refl _⟩,(bl_ HB)⟩
  ·replace c5:=Bool.eq_false_iff.mpr c5
   subst c5
   have H1:(num_Times.j0 k a0 a1 true)=some r:=by rw[if_neg (show ¬(false=true) by decide)] at H;exact H
   clear H
   have H:=H1
   clear H1
   have H':=Aside0.mk H
   clear H
   go_wp2_with (first|((with_reducible refine gate_callee (f:=40) rfl ?_);refine gl_ (some 10) Tryz.func40 #[.string a0] ?_;(with_reducible refine(num_Is.calls _ _ _ _ A4.out).mono ?_);rintro e w' ⟨rfl,⟨nd,rfl⟩⟩;refine⟨_,rfl,?_⟩))
   go_meet
   case rel=>exact⟨_,(true),eq_,H',⟨by first|omega|exact Nat.le_refl _⟩,(bl_ HB)⟩
 case rest =>
  clear HC3
  obtain⟨kq,x19_2,rfl,HA,HJ2,HB⟩:=hcut
  cases kq with
  | zero=>exact absurd HA.out (by simp[num_Times.j0])
  | succ kj2 =>
   have H:=HA.out
   clear HA
   simp only[num_Times.j0] at H
   by_cases c7:x19_2=true
   ·subst c7
    have H1:(some (⟨#[]⟩:ByteArray))=some r:=by rw[if_pos rfl] at H;exact H
    clear H
    have H:=H1
    clear H1
    obtain rfl:=Option.some.inj H
    go_wp2
    go_ret
    exact⟨ew_,(bl_ HB).out⟩
   ·replace c7:=Bool.eq_false_iff.mpr c7
    subst c7
    have H1:(num_Times.l0 kj2 a0 a1 ([]:List Int) 0 0)=some r:=by rw[if_neg (show ¬(false=true) by decide)] at H;exact H
    clear H
    have H:=H1
    clear H1
    have H':=Aside0.mk H
    clear H
    go_wp2
    go_loopg [5,6,7] kj2 (fun kq v5 v6 v7 w'=>∃(x5_2:List Int) (x6_2:Int) (x7_2:Int),v6= .int .i64 x6_2∧v7= .int .i64 x7_2∧Aside0 (num_Times.l0 kq a0 a1 x5_2 x6_2 x7_2=some r)∧Aside0 (kq≤kj2)∧Aside0 (Kd.R (Kd.int .u8) 5 w' w.heap.size (fun _=>True) v5 x5_2)∧Aside0 (Below w.heap.size w w'))
    case atStart=>exact⟨(([]:List Int)),(0),(0),eq_,eq_,H',⟨Nat.le_refl _⟩,⟨by first|exact Kd.R_nil _ _ _ _ _|exact Kd.N_nil _ _ _ _ _|exact Kd.V_nil _ _ _ _ _|exact Kd.Q_nil _ _ _ _ _|exact Kd.S_nil _ _ _ _ _⟩,(bl_ HB)⟩
    case round =>
     clear H'
     obtain⟨x5_2,x6_2,x7_2,rfl,rfl,HA,HK2,HO_5,HB⟩:=hrel
     cases gk with
     | zero=>exact absurd HA.out (by simp[num_Times.l0])
     | succ k2 =>
      have H:=HA.out
      clear HA
      simp only[num_Times.l0] at H
      by_cases c8:x7_2<(a0.size:Int)
      ·rw[if_pos c8] at H
       have c8b0:=decide_eq_true c8
       clear c8
       replace H:=Option.bind_eq_some_iff.mp H
       obtain⟨t880,A90,H⟩:=H
       have A9:=Aside0.mk A90
       clear A90
       replace H:=ifn_ H
       obtain⟨c10,H⟩:=H
       have LMc10:=Aside0.mk c10
       clear c10
       obtain⟨y881,hy881⟩:∃y_:List Int,y_=(x5_2++[(48+(Int.tmod (wrap64 ((wrap64 (t880*a1))+x6_2)) 10))%256]):=⟨_,rfl⟩
       replace H:(num_Times.l0 k2 a0 a1 y881 (wrap64 (Int.tdiv (wrap64 ((wrap64 (t880*a1))+x6_2)) 10)) (wrap64 (x7_2+1)))=some r:=by first|(rw[hy881];with_reducible exact H)|(have H2_:=(Option.bind_some _ _).symm.trans H;rw[hy881];with_reducible exact H2_)|(have H2_:=(Option.bind_some _ _).symm.trans H;with_reducible exact H2_)|with_reducible exact H|(rw[hy881];exact H)|exact H
       have Ny881:=Aside0.mk hy881
       clear hy881
       have H':=Aside0.mk H
       clear H
       go_wp2_with (first|((with_reducible refine gate_callee (f:=38) rfl ?_);refine gl_ (some 32) Tryz.func38 #[.string a0,.int .i64 x7_2] ?_;(with_reducible refine(num_at.calls _ _ _ _ A9.out).mono ?_);rintro e w' ⟨rfl,⟨nd,rfl⟩⟩;refine⟨_,rfl,?_⟩)|((with_reducible refine gate_builtin (b:= .append) (xs:= #[.tmp 37,.tmp 42]) rfl ?_);at_builtin;refine Kd.R_append (Kd.int .u8) (w0:=w) w.heap.size rfl (.tmp 37) (.tmp 42) 23 5 (.int .u8 0) 1 rfl Tryz.underlying23 info5 rfl (by decide) (by omega) u5 x5_2 ((48+(Int.tmod (wrap64 ((wrap64 (t880*a1))+x6_2)) 10))%256) [.int .u8 ((48+(Int.tmod (wrap64 ((wrap64 (t880*a1))+x6_2)) 10))%256)] (fun _=>True) (fun _=>False) rfl rfl ?aP (fun _ hk=>hk.elim) ?aF ?aO ?aB ?aS ?aL ?_;(case aP=>exact rfl);(case aB=>exact(bl_ HB).out);(case aF=>exact(fun _ _=>trivial));(case aO=>exact(kr_ HO_5));(case aS=>exact(below_size (bl_ HB).out));(case aL=>have:=LMc10.out;omega);intro v882 w11 ho hb hg hat;rw[← Ny881.out] at ho;have n0_:=Aside0.mk (hb);have n1_:=Aside0.mk (ho);clear HB;clear HO_5;have HB:=n0_;have HO883:=n1_;clear n0_ n1_;clear ho hb hg hat))
       go_roundg k2
       case measure=>have:=HJ2.out;have:=HK2.out;omega
       case rel=>exact⟨(y881),(wrap64 (Int.tdiv (wrap64 ((wrap64 (t880*a1))+x6_2)) 10)),(wrap64 (x7_2+1)),eq_,eq_,H',⟨by have:=HJ2.out;have:=HK2.out;omega⟩,⟨kdR_ HO883.out⟩,(bl_ HB)⟩
      ·rw[if_neg c8] at H
       have c8b0:=decide_eq_false c8
       clear c8
       by_cases c12:x6_2>0
       ·rw[if_pos c12] at H
        have c12b0:decide (0<x6_2)=true:=decide_eq_true c12
        clear c12
        replace H:=Option.bind_eq_some_iff.mp H
        obtain⟨t884,A130,H⟩:=H
        have A13:=Aside0.mk A130
        clear A130
        replace H:=ifn_ H
        obtain⟨c14,H⟩:=H
        have LMc14:=Aside0.mk c14
        clear c14
        obtain⟨y885,hy885⟩:∃y_:List Int,y_=(x5_2++[(48+(Int.tmod (wrap64 ((wrap64 (t884*a1))+x6_2)) 10))%256]):=⟨_,rfl⟩
        replace H:(num_Times.l0 k2 a0 a1 y885 (wrap64 (Int.tdiv (wrap64 ((wrap64 (t884*a1))+x6_2)) 10)) (wrap64 (x7_2+1)))=some r:=by first|(rw[hy885];with_reducible exact H)|(have H2_:=(Option.bind_some _ _).symm.trans H;rw[hy885];with_reducible exact H2_)|(have H2_:=(Option.bind_some _ _).symm.trans H;with_reducible exact H2_)|with_reducible exact H|(rw[hy885];exact H)|exact H
        have Ny885:=Aside0.mk hy885
        clear hy885
        have H':=Aside0.mk H
        clear H
        go_wp2_with (first|((with_reducible refine gate_callee (f:=38) rfl ?_);refine gl_ (some 32) Tryz.func38 #[.string a0,.int .i64 x7_2] ?_;(with_reducible refine(num_at.calls _ _ _ _ A13.out).mono ?_);rintro e w' ⟨rfl,⟨nd,rfl⟩⟩;refine⟨_,rfl,?_⟩)|((with_reducible refine gate_builtin (b:= .append) (xs:= #[.tmp 37,.tmp 42]) rfl ?_);at_builtin;refine Kd.R_append (Kd.int .u8) (w0:=w) w.heap.size rfl (.tmp 37) (.tmp 42) 23 5 (.int .u8 0) 1 rfl Tryz.underlying23 info5 rfl (by decide) (by omega) u5 x5_2 ((48+(Int.tmod (wrap64 ((wrap64 (t884*a1))+x6_2)) 10))%256) [.int .u8 ((48+(Int.tmod (wrap64 ((wrap64 (t884*a1))+x6_2)) 10))%256)] (fun _=>True) (fun _=>False) rfl rfl ?aP (fun _ hk=>hk.elim) ?aF ?aO ?aB ?aS ?aL ?_;(case aP=>exact rfl);(case aB=>exact(bl_ HB).out);(case aF=>exact(fun _ _=>trivial));(case aO=>exact(kr_ HO_5));(case aS=>exact(below_size (bl_ HB).out));(case aL=>have:=LMc14.out;omega);intro v886 w15 ho hb hg hat;rw[← Ny885.out] at ho;have n0_:=Aside0.mk (hb);have n1_:=Aside0.mk (ho);clear HB;clear HO_5;have HB:=n0_;have HO887:=n1_;clear n0_ n1_;clear ho hb hg hat))
        go_roundg k2
        case measure=>have:=HJ2.out;have:=HK2.out;omega
        case rel=>exact⟨(y885),(wrap64 (Int.tdiv (wrap64 ((wrap64 (t884*a1))+x6_2)) 10)),(wrap64 (x7_2+1)),eq_,eq_,H',⟨by have:=HJ2.out;have:=HK2.out;omega⟩,⟨kdR_ HO887.out⟩,(bl_ HB)⟩
       ·rw[if_neg c12] at H
        have c12b0:decide (0<x6_2)=false:=decide_eq_false c12
        clear c12
        replace H:=Option.bind_eq_some_iff.mp H
        obtain⟨t888,A160,H⟩:=H
        have A16:=Aside0.mk A160
        clear A160
        obtain rfl:=Option.some.inj H
        obtain⟨Ao17,co17,eo17⟩:=Kd.R_slice HO_5.out
        subst eo17
        go_wp2_with (first|((with_reducible refine gate_callee (f:=39) rfl ?_);refine gl_ (some 47) Tryz.func39 #[.slice Ao17 x5_2.length co17] ?_;(with_reducible refine(num_text.calls _ _ _ _ _ _ ?side1 ?side2 A16.out).mono ?_);(case side1=>exact kc_ HO_5);(case side2=>exact kl_ HO_5);rintro e w18 ⟨rfl,hb⟩;refine⟨_,rfl,?_⟩;replace HO_5:=kb_ HO_5 hb;replace HB:=Aside0.mk (below_step (bl_ HB).out hb);(try clear hb);(try clear hi)))
        go_ret
        exact⟨ew_,(bl_ HB).out⟩

end Go.Proofs.YtadagjgkanlmdaaGreatDoor.P
