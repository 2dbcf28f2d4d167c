-- written by a program of this session (wip/p2)
import Derived.Test.YtcokjmnkieakiaaGreatDoorPx0
namespace Go.Proofs.YtcokjmnkieakiaaGreatDoor.P
open Go.RowKit Go.Proofs.YtcokjmnkieakiaaGreatDoorW.PrintWords Go.Proofs.YtcokjmnkieakiaaGreatDoorW.PrintLast Go.Proofs.YtcokjmnkieakiaaGreatDoorW.PrintMore
attribute [local go_sem] max2_int min2_int max_two min_two max_three min_three max_four min_four   -- for this text's walks alone
set_option linter.unusedVariables false
set_option linter.unusedSimpArgs false

/-! ### florinlaw06_Made_cat: function 13 -/
def florinlaw06_Made_cat.f (a0_0:Int) (a0_1:Int) (a0_2:Int) (l0_3:List (List (S50))):Option (Int):=some (wrap64 (Int.tmod (IntKind.u64.wrap (a0_0)) 6))
set_option maxHeartbeats 64000000 in
set_option maxRecDepth 100000 in
theorem florinlaw06_Made_cat.calls (a0_0:Int) (a0_1:Int) (a0_2:Int) (A0_3:Option Addr) (c0_3:Nat) (l0_3:List (List (S50))) (r:Int) (w:World) (hr0_3:Kd.C (Kd.slice 50 k50) w A0_3 l0_3.length l0_3) (hc0_3:l0_3.length≤c0_3) (h:florinlaw06_Made_cat.f a0_0 a0_1 a0_2 l0_3=some r) :
    Calls Tryz.prog 13 #[.agg #[.int .i64 a0_0,.int .i64 a0_1,.int .i64 a0_2,.slice A0_3 l0_3.length c0_3]] w fun e w'=>e= .returned (.int .i64 r)∧Below w.heap.size w w':=by
  have hu46:=Tryz.underlying46
  have HR0_3:=Aside0.mk hr0_3
  have HC0_3:=Aside0.mk hc0_3
  clear hr0_3 hc0_3
  have HB:=Aside0.mk (Below.refl w.heap.size w)
  have H:(some (wrap64 (Int.tmod (IntKind.u64.wrap (a0_0)) 6)))=some r:=h
  clear h
  obtain rfl:=Option.some.inj H
  go_enter Tryz.func13,Tryz.ntmps13
  go_wp2_with (first|((with_reducible refine gate_dst (N:=1) rfl ?_);refine be_ 1 #[.int .i64 a0_0,.int .i64 a0_1,.int .i64 a0_2,.slice A0_3 l0_3.length c0_3] 46 ?_;intro gb554 hg w2 hbox hb;have BK554:=Aside0.mk (hbox);have GW554:=sz_ HB hg;have GE554:=sz_ HB hg;replace HB:=Aside0.mk (below_step (bl_ HB).out hb);clear hb hbox hg;obtain⟨hcz3_0,hcz3_1,hcz3_2,hcz3_3,hfz3_0,hfz3_1,hfz3_2,hfz3_3⟩:=bo4_ BK554))
  go_ret
  exact⟨ew_,(bl_ HB).out⟩

/-! ### florinlaw06_gap: function 15 -/
def florinlaw06_gap.f (a0:Int):Option (ByteArray):=(some (([(⟨#[]⟩:ByteArray),(⟨#[32]⟩:ByteArray),(⟨#[32,32]⟩:ByteArray),(⟨#[]⟩:ByteArray)]:List ByteArray):List ByteArray)).bind fun y555=>(if 0≤(Go.bits .and .i64 a0 3) then (if (Go.bits .and .i64 a0 3)<(y555.length:Int) then (some (rdOf ByteArray.empty y555 (Go.bits .and .i64 a0 3))) else (none)) else (none))
set_option maxHeartbeats 64000000 in
set_option maxRecDepth 100000 in
theorem florinlaw06_gap.calls (a0:Int) (r:ByteArray) (w:World) (h:florinlaw06_gap.f a0=some r) :
  Calls Tryz.prog 15 #[.int .i64 a0] w fun e w'=>e= .returned (.string r)∧Below w.heap.size w w':=by
 have HB:=Aside0.mk (Below.refl w.heap.size w)
 have H:((some (([(⟨#[]⟩:ByteArray),(⟨#[32]⟩:ByteArray),(⟨#[32,32]⟩:ByteArray),(⟨#[]⟩:ByteArray)]:List ByteArray):List ByteArray)).bind fun y555=>(if 0≤(Go.bits .and .i64 a0 3) then (if (Go.bits .and .i64 a0 3)<(y555.length:Int) then (some (rdOf ByteArray.empty y555 (Go.bits .and .i64 a0 3))) else (none)) else (none)))=some r:=h
 clear h
 obtain⟨y555,hy555⟩:∃y_:List ByteArray,y_=(([(⟨#[]⟩:ByteArray),(⟨#[32]⟩:ByteArray),(⟨#[32,32]⟩:ByteArray),(⟨#[]⟩:ByteArray)]:List ByteArray)):=⟨_,rfl⟩
 replace H:(if 0≤(Go.bits .and .i64 a0 3) then (if (Go.bits .and .i64 a0 3)<(y555.length:Int) then (some (rdOf ByteArray.empty y555 (Go.bits .and .i64 a0 3))) else (none)) else (none))=some r:=by first|(rw[hy555];with_reducible exact H)|(have H2_:=(Option.bind_some _ _).symm.trans H;rw[hy555];with_reducible exact H2_)|(have H2_:=(Option.bind_some _ _).symm.trans H;with_reducible exact H2_)|with_reducible exact H|(rw[hy555];exact H)|exact H
 have Ny555:=Aside0.mk hy555
 clear hy555
 replace H:=ifn_ H
 obtain⟨c2,H⟩:=H
 have c2b0:decide (0≤(Go.bits .and .i64 a0 3))=true:=decide_eq_true c2
 clear c2
 replace H:=ifn_ H
 obtain⟨c3,H⟩:=H
 have c3b0:decide ((Go.bits .and .i64 a0 3)<(y555.length:Int))=true:=decide_eq_true c3
 clear c3
 obtain rfl:=Option.some.inj H
 go_enter Tryz.func15,Tryz.ntmps15
 go_wp2_with (first|((with_reducible refine gate_dst (N:=3) rfl ?_);refine Kd.R_lit Kd.string _ 9 ?hg (N:=3) ?hd (xs:=([(⟨#[]⟩:ByteArray),(⟨#[32]⟩:ByteArray),(⟨#[32,32]⟩:ByteArray),(⟨#[]⟩:ByteArray)]:List ByteArray)) (inner:=[.string (⟨#[]⟩:ByteArray),.string (⟨#[32]⟩:ByteArray),.string (⟨#[32,32]⟩:ByteArray),.string (⟨#[]⟩:ByteArray)]) (ok:=fun _=>True) (okp:=fun _=>True) ?hr ?hp (fun _ hk=>hk) trivial (Below.refl _ _) (Nat.le_refl _) (by simp) ?_;(case hd=>rfl);(case hg=>rfl);(case hr=>first|(go_simp;done)|(go_simp;rfl));(case hp=>exact(Reps.one (show Kd.M Kd.string _ _ _ (⟨#[]⟩:ByteArray) [.string (⟨#[]⟩:ByteArray)] from rfl) (Reps.one (show Kd.M Kd.string _ _ _ (⟨#[32]⟩:ByteArray) [.string (⟨#[32]⟩:ByteArray)] from rfl) (Reps.one (show Kd.M Kd.string _ _ _ (⟨#[32,32]⟩:ByteArray) [.string (⟨#[32,32]⟩:ByteArray)] from rfl) (Reps.one (show Kd.M Kd.string _ _ _ (⟨#[]⟩:ByteArray) [.string (⟨#[]⟩:ByteArray)] from rfl) (Reps.none _ _))))));intro v556 w4 ho5 hb hg_ hnew_;clear hg_ hnew_;(first|rw[← Ny555.out] at ho5|(simp only[Int.reduceToNat] at ho5;rw[← Ny555.out] at ho5));have HO557:=Aside0.mk (Kd.R_lower ho5 (below_size (bl_ HB).out));replace HB:=Aside0.mk (below_step (bl_ HB).out hb);clear hb ho5;obtain⟨Ao6,co6,eo6⟩:=Kd.R_slice HO557.out;subst eo6;have p558:0≤((Go.bits .and .i64 a0 3):Int):=od_;have q558:(Go.bits .and .i64 a0 3)<(y555.length:Int):=od_;obtain⟨ad558,e558,hx558_0⟩:=Kd.at_string (Kd.R_reads' HO557.out).2.2 (Go.bits .and .i64 a0 3) p558 q558;cases e558;replace p558:=eq_true p558;replace q558:=eq_true q558))
 go_ret
 exact⟨ew_,(bl_ HB).out⟩

/-! ### num_Is: function 78 -/
def num_Is.l0:Nat→ByteArray→Int→Int→Option (Bool)
 | 0,_,_,_=>none
 | k+1,x0,x5,x6=>if x6<x5 then (if 0≤x6 then (if x6<(x0.size:Int) then (if (bt x0 x6)<48 then (some false) else (if (bt x0 x6)>57 then (some false) else (num_Is.l0 k x0 x5 (wrap64 (x6+1))))) else (none)) else (none)) else (some true)
def num_Is.f (k:Nat) (a0:ByteArray):Option (Bool):=num_Is.l0 k a0 (a0.size:Int) 0
set_option maxHeartbeats 64000000 in
set_option maxRecDepth 100000 in
theorem num_Is.calls (k:Nat) (a0:ByteArray) (r:Bool) (w:World) (h:num_Is.f k a0=some r) :
  Calls Tryz.prog 78 #[.string a0] w fun e w'=>e= .returned (.bool r)∧Drawn0 w w':=by
 have H:(num_Is.l0 k a0 (a0.size:Int) 0)=some r:=h
 clear h
 have H':=Aside0.mk H
 clear H
 go_enter Tryz.func78,Tryz.ntmps78
 go_wp2
 go_loopg [6] k (fun kq v6 w'=>∃(x6_1:Int),v6= .int .i64 x6_1∧Aside0 (num_Is.l0 kq a0 (a0.size:Int) x6_1=some r)∧Aside0 (kq≤k)∧Drawn0 w w')
 case atStart=>exact⟨(0),eq_,H',⟨Nat.le_refl _⟩,by repeat(first|exact Drawn0.refl _|apply Drawn0.step)⟩
 case round =>
  clear H'
  obtain⟨x6_1,rfl,HA,HK1,⟨m1,rfl⟩⟩:=hrel
  cases gk with
  | zero=>exact absurd HA.out (by simp[num_Is.l0])
  | succ k1 =>
   have H:=HA.out
   clear HA
   simp only[num_Is.l0] at H
   by_cases c2:x6_1<(a0.size:Int)
   ·rw[if_pos c2] at H
    have c2b0:=decide_eq_true c2
    clear c2
    replace H:=ifn_ H
    obtain⟨c3,H⟩:=H
    have c3b0:decide (0≤x6_1)=true:=decide_eq_true c3
    clear c3
    replace H:=ifn_ H
    obtain⟨c4,H⟩:=H
    have c4b0:decide (x6_1<(a0.size:Int))=true:=decide_eq_true c4
    clear c4
    by_cases c6:(bt a0 x6_1)<48
    ·rw[if_pos c6] at H
     have c6b0:=decide_eq_true c6
     clear c6
     obtain rfl:=Option.some.inj H
     have p5:0≤(x6_1:Int):=od_
     have q5:x6_1<(a0.size:Int):=od_
     have hx5:=bt_at a0 x6_1
     replace p5:=eq_true p5
     replace q5:=eq_true q5
     go_wp2
     go_ret
     exact⟨by first|rfl|(simp;done)|(simp[*];done)|(simp;first|exact given_isEmpty _|exact(given_isEmpty _).symm)|(unfold wrap64;omega)|(congr 1;unfold wrap64;omega),by repeat(first|exact Drawn0.refl _|apply Drawn0.step)⟩
    ·rw[if_neg c6] at H
     have c6b0:=decide_eq_false c6
     clear c6
     by_cases c8:(bt a0 x6_1)>57
     ·rw[if_pos c8] at H
      have c8b0:decide (57<(bt a0 x6_1))=true:=decide_eq_true c8
      clear c8
      obtain rfl:=Option.some.inj H
      have p5:0≤(x6_1:Int):=od_
      have q5:x6_1<(a0.size:Int):=od_
      have hx5:=bt_at a0 x6_1
      replace p5:=eq_true p5
      replace q5:=eq_true q5
      have p7:0≤(x6_1:Int):=od_
      have q7:x6_1<(a0.size:Int):=od_
      have hx7:=bt_at a0 x6_1
      replace p7:=eq_true p7
      replace q7:=eq_true q7
      go_wp2
      go_ret
      exact⟨by first|rfl|(simp;done)|(simp[*];done)|(simp;first|exact given_isEmpty _|exact(given_isEmpty _).symm)|(unfold wrap64;omega)|(congr 1;unfold wrap64;omega),by repeat(first|exact Drawn0.refl _|apply Drawn0.step)⟩
     ·rw[if_neg c8] at H
      have c8b0:decide (57<(bt a0 x6_1))=false:=decide_eq_false c8
      clear c8
      have H':=Aside0.mk H
      clear H
      have p5:0≤(x6_1:Int):=od_
      have q5:x6_1<(a0.size:Int):=od_
      have hx5:=bt_at a0 x6_1
      replace p5:=eq_true p5
      replace q5:=eq_true q5
      have p7:0≤(x6_1:Int):=od_
      have q7:x6_1<(a0.size:Int):=od_
      have hx7:=bt_at a0 x6_1
      replace p7:=eq_true p7
      replace q7:=eq_true q7
      go_wp2
      go_roundg k1
      case measure=>have:=HK1.out;omega
      case rel=>exact⟨(wrap64 (x6_1+1)),eq_,H',⟨by have:=HK1.out;omega⟩,by repeat(first|exact Drawn0.refl _|apply Drawn0.step)⟩
   ·rw[if_neg c2] at H
    have c2b0:=decide_eq_false c2
    clear c2
    obtain rfl:=Option.some.inj H
    go_wp2
    go_ret
    exact⟨by first|rfl|(simp;done)|(simp[*];done)|(simp;first|exact given_isEmpty _|exact(given_isEmpty _).symm)|(unfold wrap64;omega)|(congr 1;unfold wrap64;omega),by repeat(first|exact Drawn0.refl _|apply Drawn0.step)⟩

/-! ### strings_TrimLeft: function 79 -/
def strings_TrimLeft.f (a b:ByteArray):Option ByteArray:=if h:b.size=1 then (if (b[0]'(by omega)).toNat<128 then some ⟨(Lib.trimLeftB a.data.toList (b[0]'(by omega))).toArray⟩ else none) else none
theorem strings_TrimLeft.one (b:ByteArray) (h:b.size=1):b=⟨#[b[0]'(by omega)]⟩:=by
  obtain⟨d⟩:=b
  have hd:d.size=1:=h
  congr 1
  apply Array.ext
  · exact hd
  · intro i h1 h2
    have:i=0:=by omega
    subst this
    rfl
theorem strings_TrimLeft.calls (a0 a1:ByteArray) (r:ByteArray) (w:World) (h:strings_TrimLeft.f a0 a1=some r) :
    Calls Tryz.prog 79 #[.string a0,.string a1] w fun e w'=>e= .returned (.string r)∧Drawn0 w w':=by
  unfold strings_TrimLeft.f at h
  split at h
  · rename_i h1
    split at h
    · rename_i hc
      obtain rfl:=Option.some.inj h
      have c:=Tryz.strings_TrimLeft_one a0 (a1[0]'(by omega)) hc w
      rw[← strings_TrimLeft.one a1 h1] at c
      refine c.mono ?_
      rintro e w' ⟨rfl,rfl⟩
      exact⟨rfl,Drawn0.refl _⟩
    · cases h
  · cases h

/-! ### num_Trim: function 66 -/
def num_Trim.f (k:Nat) (a0:ByteArray):Option (ByteArray):=(num_Is.f k a0).bind fun t559=>(if t559=true then ((strings_TrimLeft.f a0 (⟨#[48]⟩:ByteArray)).bind fun t560=>(some t560)) else (some (⟨#[]⟩:ByteArray)))
set_option maxHeartbeats 64000000 in
set_option maxRecDepth 100000 in
theorem num_Trim.calls (k:Nat) (a0:ByteArray) (r:ByteArray) (w:World) (h:num_Trim.f k a0=some r) :
  Calls Tryz.prog 66 #[.string a0] w fun e w'=>e= .returned (.string r)∧Drawn0 w w':=by
 have H:((num_Is.f k a0).bind fun t559=>(if t559=true then ((strings_TrimLeft.f a0 (⟨#[48]⟩:ByteArray)).bind fun t560=>(some t560)) else (some (⟨#[]⟩:ByteArray))))=some r:=h
 clear h
 replace H:=Option.bind_eq_some_iff.mp H
 obtain⟨t559,A20,H⟩:=H
 replace H:(if t559=true then ((strings_TrimLeft.f a0 (⟨#[48]⟩:ByteArray)).bind fun t560=>(some t560)) else (some (⟨#[]⟩:ByteArray)))=some r:=H
 have A2:=Aside0.mk A20
 clear A20
 by_cases c3:t559=true
 ·subst c3
  have H1:((strings_TrimLeft.f a0 (⟨#[48]⟩:ByteArray)).bind fun t560=>(some t560))=some r:=by rw[if_pos rfl] at H;exact H
  clear H
  have H:=H1
  clear H1
  replace H:=Option.bind_eq_some_iff.mp H
  obtain⟨t560,A40,H⟩:=H
  replace H:(some t560)=some r:=H
  have A4:=Aside0.mk A40
  clear A40
  obtain rfl:=Option.some.inj H
  go_enter Tryz.func66,Tryz.ntmps66
  go_wp2_with (first|((with_reducible refine gate_callee (f:=78) rfl ?_);refine gl_ (some 4) Tryz.func78 #[.string a0] ?_;(with_reducible refine(num_Is.calls _ _ _ _ A2.out).mono ?_);rintro e w' ⟨rfl,⟨nd,rfl⟩⟩;refine⟨_,rfl,?_⟩)|((with_reducible refine gate_callee (f:=79) rfl ?_);refine gl_ (some 7) Tryz.func79 #[.string a0,.string (⟨#[48]⟩:ByteArray)] ?_;(with_reducible refine(strings_TrimLeft.calls _ _ _ _ A4.out).mono ?_);rintro e w' ⟨rfl,⟨nd,rfl⟩⟩;refine⟨_,rfl,?_⟩))
  go_ret
  exact⟨by first|rfl|(simp;done)|(simp[*];done)|(simp;first|exact given_isEmpty _|exact(given_isEmpty _).symm)|(unfold wrap64;omega)|(congr 1;unfold wrap64;omega),by repeat(first|exact Drawn0.refl _|apply Drawn0.step)⟩
 ·replace c3:=Bool.eq_false_iff.mpr c3
  subst c3
  have H1:(some (⟨#[]⟩:ByteArray))=some r:=by rw[if_neg (show ¬(false=true) by decide)] at H;exact H
  clear H
  have H:=H1
  clear H1
  obtain rfl:=Option.some.inj H
  go_enter Tryz.func66,Tryz.ntmps66
  go_wp2_with (first|((with_reducible refine gate_callee (f:=78) rfl ?_);refine gl_ (some 4) Tryz.func78 #[.string a0] ?_;(with_reducible refine(num_Is.calls _ _ _ _ A2.out).mono ?_);rintro e w' ⟨rfl,⟨nd,rfl⟩⟩;refine⟨_,rfl,?_⟩))
  go_ret
  exact⟨by first|rfl|(simp;done)|(simp[*];done)|(simp;first|exact given_isEmpty _|exact(given_isEmpty _).symm)|(unfold wrap64;omega)|(congr 1;unfold wrap64;omega),by repeat(first|exact Drawn0.refl _|apply Drawn0.step)⟩

/-! ### num_text: function 53 -/
def num_text.l0:Nat→List Int→List Int→List Int→Int→Int→Option (ByteArray)
 | 0,_,_,_,_,_=>none
 | k+1,x0,x3,x9,x10,x11=>if x11<x10 then (if 0≤x11 then (if x11<(x9.length:Int) then (if 0≤(wrap64 ((wrap64 ((x0.length:Int)-1))-x11)) then (if (wrap64 ((wrap64 ((x0.length:Int)-1))-x11))<(x3.length:Int) then (num_text.l0 k x0 (x3.set ((wrap64 ((wrap64 ((x0.length:Int)-1))-x11)):Int).toNat (rd x9 x11)) x9 x10 (wrap64 (x11+1))) else (none)) else (none)) else (none)) else (none)) else ((num_Trim.f k (strOfNums x3)).bind fun t566=>(some t566))
def num_text.f (k:Nat) (l0:List Int):Option (ByteArray):=if 0≤(l0.length:Int) then (if ((l0.length:Int):Int).toNat≤281474976710656 then (num_text.l0 k l0 (List.replicate ((l0.length:Int):Int).toNat 0) l0 (l0.length:Int) 0) else (none)) else (none)
set_option maxHeartbeats 64000000 in
set_option maxRecDepth 100000 in
theorem num_text.calls (k:Nat) (A0:Option Addr) (c0:Nat) (l0:List Int) (r:ByteArray) (w:World) (hr0:Kd.C (Kd.int .u8) w A0 l0.length l0) (hc0:l0.length≤c0) (h:num_text.f k l0=some r) :
  Calls Tryz.prog 53 #[.slice A0 l0.length c0] w fun e w'=>e= .returned (.string r)∧Below w.heap.size w w':=by
 have HR0:=Aside0.mk hr0
 have HC0:=Aside0.mk hc0
 clear hr0 hc0
 have HB:=Aside0.mk (Below.refl w.heap.size w)
 have H:(if 0≤(l0.length:Int) then (if ((l0.length:Int):Int).toNat≤281474976710656 then (num_text.l0 k l0 (List.replicate ((l0.length:Int):Int).toNat 0) l0 (l0.length:Int) 0) else (none)) else (none))=some r:=h
 clear h
 replace H:=ifn_ H
 obtain⟨c2,H⟩:=H
 have c2b0:=eq_true c2
 have c2b1:decide (0≤(l0.length:Int))=true:=decide_eq_true c2
 clear c2
 replace H:=ifn_ H
 obtain⟨c3,H⟩:=H
 have c3b0:=eq_true c3
 have c3b1:decide (((l0.length:Int):Int).toNat≤281474976710656)=true:=decide_eq_true c3
 clear c3
 obtain⟨y561,hy561⟩:∃y_:List Int,y_=(List.replicate ((l0.length:Int):Int).toNat 0):=⟨_,rfl⟩
 replace H:(num_text.l0 k l0 y561 l0 (l0.length:Int) 0)=some r:=by first|(rw[hy561];with_reducible exact H)|(have H2_:=(Option.bind_some _ _).symm.trans H;rw[hy561];with_reducible exact H2_)|(have H2_:=(Option.bind_some _ _).symm.trans H;with_reducible exact H2_)|with_reducible exact H|(rw[hy561];exact H)|exact H
 have Ny561:=Aside0.mk hy561
 clear hy561
 have H':=Aside0.mk H
 clear H
 go_enter Tryz.func53,Tryz.ntmps53
 go_wp2_with (first|((with_reducible refine gate_dst (N:=8) rfl ?_);refine Kd.R_make (Kd.int .u8) _ 5 rfl (N:=8) rfl 75 _ _ rfl (l0.length:Int) rfl rfl Tryz.underlying75 (.int .u8 0) 1 info5 rfl (by decide) (by omega) 0 (ok:=fun _=>True) (okp:=fun _=>True) rfl (fun _ hk=>hk) trivial (od_) (Nat.le_trans (Nat.mul_le_mul_right _ (od_:(l0.length:Int).toNat≤281474976710656)) (by omega)) (Below.refl _ _) (Nat.le_refl _) ?_;intro v562 w4 ho5 hb hg_ hnew_;clear hg_ hnew_;(first|rw[← Ny561.out] at ho5|(simp only[Int.reduceToNat] at ho5;rw[← Ny561.out] at ho5));have HO563:=Aside0.mk (Kd.R_lower ho5 (below_size (bl_ HB).out));replace HB:=Aside0.mk (below_step (bl_ HB).out hb);clear hb ho5))
 go_loopg [11] k (fun kq v11 w'=>∃(x3_1:List Int) (x11_1:Int),v11= .int .i64 x11_1∧Aside0 (num_text.l0 kq l0 x3_1 l0 (l0.length:Int) x11_1=some r)∧Aside0 (kq≤k)∧Aside0 (Kd.R (Kd.int .u8) 5 w' w.heap.size (fun _=>True) v562 x3_1)∧Aside0 (Below w.heap.size w w'))
 case atStart=>exact⟨(y561),(0),eq_,H',⟨Nat.le_refl _⟩,⟨by (with_reducible repeat(first|apply Kd.R_alloc|apply Kd.R_drewN|apply Kd.R_drew));exact HO563.out⟩,(bl_ HB)⟩
 case round =>
  clear H'
  obtain⟨x3_1,x11_1,rfl,HA,HK1,HO_3,HB⟩:=hrel
  cases gk with
  | zero=>exact absurd HA.out (by simp[num_text.l0])
  | succ k1 =>
   have H:=HA.out
   clear HA
   simp only[num_text.l0] at H
   by_cases c6:x11_1<(l0.length:Int)
   ·rw[if_pos c6] at H
    have c6b0:=decide_eq_true c6
    clear c6
    replace H:=ifn_ H
    obtain⟨c7,H⟩:=H
    have c7b0:decide (0≤x11_1)=true:=decide_eq_true c7
    clear c7
    replace H:=ifn_ H
    obtain⟨c8,H⟩:=H
    have c8b0:decide (x11_1<(l0.length:Int))=true:=decide_eq_true c8
    clear c8
    obtain⟨ji9,hji9⟩:∃j_:Int,(wrap64 ((wrap64 ((l0.length:Int)-1))-x11_1))=j_:=⟨_,rfl⟩
    replace H:(if 0≤(ji9) then (if (ji9)<(x3_1.length:Int) then (num_text.l0 k1 l0 (x3_1.set ((ji9):Int).toNat (rd l0 x11_1)) l0 (l0.length:Int) (wrap64 (x11_1+1))) else (none)) else (none))=some r:=by first|(rw[hji9] at H;exact H)|(simp only[hji9] at H ⊢;exact H)
    have hji9w:(IntKind.i64.wrap ((wrap64 ((l0.length:Int)-1))-x11_1))=ji9:=(i64_w _).trans hji9
    replace H:=ifn_ H
    obtain⟨c10,H⟩:=H
    have c10b0:decide (0≤(ji9))=true:=decide_eq_true c10
    clear c10
    replace H:=ifn_ H
    obtain⟨c11,H⟩:=H
    have c11b0:decide ((ji9)<(x3_1.length:Int))=true:=decide_eq_true c11
    clear c11
    obtain⟨y565,hy565⟩:∃y_:List Int,y_=(x3_1.set ((ji9):Int).toNat (rd l0 x11_1)):=⟨_,rfl⟩
    replace H:(num_text.l0 k1 l0 y565 l0 (l0.length:Int) (wrap64 (x11_1+1)))=some r:=by first|(rw[hy565];with_reducible exact H)|(have H2_:=(Option.bind_some _ _).symm.trans H;rw[hy565];with_reducible exact H2_)|(have H2_:=(Option.bind_some _ _).symm.trans H;with_reducible exact H2_)|with_reducible exact H|(rw[hy565];exact H)|exact H
    have Ny565:=Aside0.mk hy565
    clear hy565
    have H':=Aside0.mk H
    clear H
    have p564:0≤(x11_1:Int):=od_
    have q564:x11_1<(l0.length:Int):=od_
    obtain⟨ad564,e564,hx564_0⟩:=Kd.at_int HR0.out x11_1 p564 q564
    cases e564
    replace hx564_0:=hbc_ HB hx564_0
    replace p564:=eq_true p564
    replace q564:=eq_true q564
    have p12:0≤((ji9):Int):=od_
    have q12:((ji9):Int)<((x3_1.length:Int):Int):=od_
    obtain⟨go12,co12,eo12,gb12,gl12,cl12,HG12⟩:=Kd.R_form HO_3.out (by omega)
    (first|cases eo12|(injection eo12 with ea_ en_ ec_;(first|subst ea_|(injection ea_ with ea_;subst ea_));subst ec_;clear en_))
    have GB12:=Aside0.mk gb12
    have GG12:=Aside0.mk HG12
    clear gb12 gl12 HG12
    obtain⟨hx12_0,hf12_0⟩:=Kd.R_celln 0 HO_3.out ((ji9):Int) p12 q12
    replace p12:=eq_true p12
    replace q12:=eq_true q12
    have HP13:=Kd.R_putg HO_3.out ((ji9):Int) (rd l0 x11_1)
    go_wp2_with (first|((with_reducible refine gate_store (t:=5) (p:=23) rfl ?_);refine store_event (t:=5) (p:=23) (v:=?vo_w14) (w1:=(wr.setCell ⟨go12,((ji9):Int).toNat,none⟩ (.int .u8 (rd l0 x11_1)))) ?hg ?ho ?hn ?hr ?_;(case ho=>rfl);(case hg=>rfl);(case hn=>rfl);(case hr=>first|(go_simp;done)|(go_simp;rfl));intro w14 hw;have hg:wr.grownBy w14 (some go12):=(by rw[hw];exact HP13.2);have hp_:Kd.R (Kd.int .u8) 5 w14 w.heap.size (fun _=>True) (.slice (some ⟨go12,0,none⟩) x3_1.length co12) y565:=(by rw[hw,Ny565.out];exact HP13.1);clear HP13;have n0_:=Aside0.mk (hp_);have n1_:=Aside0.mk ((by rw[hw];exact below_set (HB.out) GB12.out:Below w.heap.size w w14));clear HO_3;clear HB;have HO_3:=n0_;have HB:=n1_;clear n0_ n1_;clear hg hw hp_))
    go_roundg k1
    case measure=>have:=HK1.out;omega
    case rel=>exact⟨(y565),(wrap64 (x11_1+1)),eq_,H',⟨by have:=HK1.out;omega⟩,⟨by (with_reducible repeat(first|apply Kd.R_alloc|apply Kd.R_drewN|apply Kd.R_drew));exact HO_3.out⟩,(bl_ HB)⟩
   ·rw[if_neg c6] at H
    have c6b0:=decide_eq_false c6
    clear c6
    replace H:=Option.bind_eq_some_iff.mp H
    obtain⟨t566,A150,H⟩:=H
    replace H:(some t566)=some r:=H
    have A15:=Aside0.mk A150
    clear A150
    obtain rfl:=Option.some.inj H
    have hcv16:=own_string (P:=Tryz.prog) Tryz.underlying75 Tryz.underlying5 Tryz.underlying9 (Kd.own_of_R HO_3.out)
    go_wp2_with (first|((with_reducible refine gate_callee (f:=66) rfl ?_);refine gl_ (some 27) Tryz.func66 #[.string (strOfNums x3_1)] ?_;(with_reducible refine(num_Trim.calls _ _ _ _ A15.out).mono ?_);rintro e w' ⟨rfl,⟨nd,rfl⟩⟩;refine⟨_,rfl,?_⟩))
    go_ret
    exact⟨ew_,(bl_ HB).out⟩

/-! ### num_Of: function 44 -/
def num_Of.l0:Nat→Int→List Int→Option (ByteArray)
 | 0,_,_=>none
 | k+1,x0,x3=>if x0>0 then (if x3.length<140737488355328 then (num_Of.l0 k (wrap64 (Int.tdiv x0 10)) (x3++[(48+(Int.tmod x0 10))%256])) else (none)) else ((num_text.f k x3).bind fun t570=>(some t570))
def num_Of.f (k:Nat) (a0:Int):Option (ByteArray):=num_Of.l0 k a0 ([]:List Int)
set_option maxHeartbeats 64000000 in
set_option maxRecDepth 100000 in
theorem num_Of.calls (k:Nat) (a0:Int) (r:ByteArray) (w:World) (h:num_Of.f k a0=some r) :
  Calls Tryz.prog 44 #[.int .i64 a0] w fun e w'=>e= .returned (.string r)∧Below w.heap.size w w':=by
 have HB:=Aside0.mk (Below.refl w.heap.size w)
 have H:(num_Of.l0 k a0 ([]:List Int))=some r:=h
 clear h
 have H':=Aside0.mk H
 clear H
 go_enter Tryz.func44,Tryz.ntmps44
 go_wp2
 go_loopg [0,3] k (fun kq v0 v3 w'=>∃(x0_1:Int) (x3_1:List Int),v0= .int .i64 x0_1∧Aside0 (num_Of.l0 kq x0_1 x3_1=some r)∧Aside0 (kq≤k)∧Aside0 (Kd.R (Kd.int .u8) 5 w' w.heap.size (fun _=>True) v3 x3_1)∧Aside0 (Below w.heap.size w w'))
 case atStart=>exact⟨(a0),(([]:List Int)),eq_,H',⟨Nat.le_refl _⟩,⟨by first|exact Kd.R_nil _ _ _ _ _|exact Kd.N_nil _ _ _ _ _|exact Kd.V_nil _ _ _ _ _|exact Kd.Q_nil _ _ _ _ _|exact Kd.S_nil _ _ _ _ _⟩,(bl_ HB)⟩
 case round =>
  clear H'
  obtain⟨x0_1,x3_1,rfl,HA,HK1,HO_3,HB⟩:=hrel
  cases gk with
  | zero=>exact absurd HA.out (by simp[num_Of.l0])
  | succ k1 =>
   have H:=HA.out
   clear HA
   simp only[num_Of.l0] at H
   by_cases c2:x0_1>0
   ·rw[if_pos c2] at H
    have c2b0:decide (0<x0_1)=true:=decide_eq_true c2
    clear c2
    replace H:=ifn_ H
    obtain⟨c3,H⟩:=H
    have LMc3:=Aside0.mk c3
    clear c3
    obtain⟨y567,hy567⟩:∃y_:List Int,y_=(x3_1++[(48+(Int.tmod x0_1 10))%256]):=⟨_,rfl⟩
    replace H:(num_Of.l0 k1 (wrap64 (Int.tdiv x0_1 10)) y567)=some r:=by first|(rw[hy567];with_reducible exact H)|(have H2_:=(Option.bind_some _ _).symm.trans H;rw[hy567];with_reducible exact H2_)|(have H2_:=(Option.bind_some _ _).symm.trans H;with_reducible exact H2_)|with_reducible exact H|(rw[hy567];exact H)|exact H
    have Ny567:=Aside0.mk hy567
    clear hy567
    have H':=Aside0.mk H
    clear H
    go_wp2_with (first|((with_reducible refine gate_builtin (b:= .append) (xs:= #[.tmp 8,.tmp 13]) rfl ?_);at_builtin;refine Kd.R_append (Kd.int .u8) (w0:=w) w.heap.size rfl (.tmp 8) (.tmp 13) 75 5 (.int .u8 0) 1 rfl Tryz.underlying75 info5 rfl (by decide) (by omega) u3 x3_1 ((48+(Int.tmod x0_1 10))%256) [.int .u8 ((48+(Int.tmod x0_1 10))%256)] (fun _=>True) (fun _=>False) rfl rfl ?aP (fun _ hk=>hk.elim) ?aF ?aO ?aB ?aS ?aL ?_;(case aP=>exact rfl);(case aB=>exact(bl_ HB).out);(case aF=>exact(fun _ _=>trivial));(case aO=>exact(kr_ HO_3));(case aS=>exact(below_size (bl_ HB).out));(case aL=>have:=LMc3.out;omega);intro v568 w4 ho hb hg hat;rw[← Ny567.out] at ho;have n0_:=Aside0.mk (hb);have n1_:=Aside0.mk (ho);clear HB;clear HO_3;have HB:=n0_;have HO569:=n1_;clear n0_ n1_;clear ho hb hg hat))
    go_roundg k1
    case measure=>have:=HK1.out;omega
    case rel=>exact⟨(wrap64 (Int.tdiv x0_1 10)),(y567),eq_,H',⟨by have:=HK1.out;omega⟩,⟨by (with_reducible repeat(first|apply Kd.R_alloc|apply Kd.R_drewN|apply Kd.R_drew));exact HO569.out⟩,(bl_ HB)⟩
   ·rw[if_neg c2] at H
    have c2b0:decide (0<x0_1)=false:=decide_eq_false c2
    clear c2
    replace H:=Option.bind_eq_some_iff.mp H
    obtain⟨t570,A50,H⟩:=H
    replace H:(some t570)=some r:=H
    have A5:=Aside0.mk A50
    clear A50
    obtain rfl:=Option.some.inj H
    obtain⟨Ao6,co6,eo6⟩:=Kd.R_slice HO_3.out
    subst eo6
    go_wp2_with (first|((with_reducible refine gate_callee (f:=53) rfl ?_);refine gl_ (some 16) Tryz.func53 #[.slice Ao6 x3_1.length co6] ?_;(with_reducible refine(num_text.calls _ _ _ _ _ _ ?side1 ?side2 A5.out).mono ?_);(case side1=>exact kc_ HO_3);(case side2=>exact kl_ HO_3);rintro e w7 ⟨rfl,hb⟩;refine⟨_,rfl,?_⟩;replace HO_3:=kb_ HO_3 hb;replace HB:=Aside0.mk (below_step (bl_ HB).out hb);(try clear hb);(try clear hi)))
    go_ret
    exact⟨ew_,(bl_ HB).out⟩

/-! ### florinlaw06_digits: function 32 -/
def florinlaw06_digits.f (k:Nat) (a0:Int):Option (ByteArray):=if a0=0 then (some (⟨#[48]⟩:ByteArray)) else ((num_Of.f k a0).bind fun t571=>(some t571))
set_option maxHeartbeats 64000000 in
set_option maxRecDepth 100000 in
theorem florinlaw06_digits.calls (k:Nat) (a0:Int) (r:ByteArray) (w:World) (h:florinlaw06_digits.f k a0=some r) :
    Calls Tryz.prog 32 #[.int .i64 a0] w fun e w'=>e= .returned (.string r)∧Below w.heap.size w w':=by
  have HB:=Aside0.mk (Below.refl w.heap.size w)
  have H:(if a0=0 then (some (⟨#[48]⟩:ByteArray)) else ((num_Of.f k a0).bind fun t571=>(some t571)))=some r:=h
  clear h
  by_cases c2:a0=0
  · rw[if_pos c2] at H
    have c2b0:(a0==0)=true:=beq_iff_eq.mpr c2
    have c2b1:(a0 !=0)=false:=bne_eq_false_iff_eq.mpr c2
    clear c2
    obtain rfl:=Option.some.inj H
    go_enter Tryz.func32,Tryz.ntmps32
    go_wp2
    go_ret
    exact⟨ew_,(bl_ HB).out⟩
  · rw[if_neg c2] at H
    have c2b0:(a0==0)=false:=beq_eq_false_iff_ne.mpr c2
    have c2b1:(a0 !=0)=true:=bne_iff_ne.mpr c2
    replace H:=Option.bind_eq_some_iff.mp H
    obtain⟨t571,A30,H⟩:=H
    replace H:(some t571)=some r:=H
    have A3:=Aside0.mk A30
    clear A30
    obtain rfl:=Option.some.inj H
    go_enter Tryz.func32,Tryz.ntmps32
    go_wp2_with (first|((with_reducible refine gate_callee (f:=44) rfl ?_);refine gl_ (some 6) Tryz.func44 #[.int .i64 a0] ?_;(with_reducible refine(num_Of.calls _ _ _ _ A3.out).mono ?_);rintro e w4 ⟨rfl,hb⟩;refine⟨_,rfl,?_⟩;replace HB:=Aside0.mk (below_step (bl_ HB).out hb);(try clear hb);(try clear hi)))
    go_ret
    exact⟨ew_,(bl_ HB).out⟩

end Go.Proofs.YtcokjmnkieakiaaGreatDoor.P
