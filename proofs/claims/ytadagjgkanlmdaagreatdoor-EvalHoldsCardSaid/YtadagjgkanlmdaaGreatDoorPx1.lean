import Derived.Test.YtadagjgkanlmdaaGreatDoorPx0
namespace Go.Proofs.YtadagjgkanlmdaaGreatDoor.P
open Go.RowKit Go.Proofs.YtadagjgkanlmdaaGreatDoorW.PrintWords Go.Proofs.YtadagjgkanlmdaaGreatDoorW.PrintLast Go.Proofs.YtadagjgkanlmdaaGreatDoorW.PrintMore
attribute [local go_sem] max2_int min2_int max_two min_two max_three min_three max_four min_four
set_option maxHeartbeats 64000000
set_option maxRecDepth 100000
set_option linter.unusedVariables false
set_option linter.unusedSimpArgs false

def num_Is.l0:Nat→ByteArray→Int→Int→Option (Bool)
 | 0,_,_,_=>none
 | k+1,x0,x5,x6=>if x6<x5 then (if 0≤x6 then (if x6<(x0.size:Int) then (if (bt x0 x6)<48 then (some false) else (if (bt x0 x6)>57 then (some false) else (num_Is.l0 k x0 x5 (wrap64 (x6+1))))) else (none)) else (none)) else (some true)
def num_Is.f (k:Nat) (a0:ByteArray):Option (Bool):=num_Is.l0 k a0 (a0.size:Int) 0
theorem num_Is.calls (k:Nat) (a0:ByteArray) (r:Bool) (w:World) (h:num_Is.f k a0=some r) :
  Calls Tryz.prog 40 #[.string a0] w fun e w'=>e= .returned (.bool r)∧Drawn0 w w':=by
 have H:=h
 clear h
 unfold num_Is.f at H
 have H':=am_ H
 clear H
 go_enter Tryz.func40,Tryz.ntmps40
 go_wp2
 go_loopg [6] k (fun kq v6 w'=>∃(x6_1:Int),v6= .int .i64 x6_1∧Aside0 (num_Is.l0 kq a0 (a0.size:Int) x6_1=some r)∧Aside0 (kq≤k)∧Drawn0 w w')
 case atStart=>exact⟨(0),eq_,H',⟨Nat.le_refl _⟩,by repeat(first|exact Drawn0.refl _|apply Drawn0.step)⟩
 clear H'
 obtain⟨x6_1,rfl,HA,HK1,⟨m1,rfl⟩⟩:=hrel
 cases gk with
 | zero=>exact absurd HA.out (by simp[num_Is.l0])
 | succ k1=>?_
 have H:=HA.out
 clear HA
 simp only[num_Is.l0] at H
 by_cases c2:x6_1<(a0.size:Int)
 ·rw[if_pos c2] at H
  have c2b0:=decide_eq_true c2
  clear c2
  replace H:=ifn_ H
  obtain⟨c3,H⟩:=H
  have c3b0:decide (0≤x6_1)=true:=decide_eq_true c3
  clear c3
  replace H:=ifn_ H
  obtain⟨c4,H⟩:=H
  have c4b0:decide (x6_1<(a0.size:Int))=true:=decide_eq_true c4
  clear c4
  by_cases c6:(bt a0 x6_1)<48
  ·rw[if_pos c6] at H
   have c6b0:=decide_eq_true c6
   clear c6
   obtain rfl:=Option.some.inj H
   have p5:0≤(x6_1:Int):=od_
   have q5:x6_1<(a0.size:Int):=od_
   have hx5:=bt_at a0 x6_1
   replace p5:=eq_true p5
   replace q5:=eq_true q5
   go_wp2
   go_ret
   exact⟨by first|rfl|(simp;done)|(simp[*];done)|(simp;first|exact given_isEmpty _|exact(given_isEmpty _).symm)|(unfold wrap64;omega)|(congr 1;unfold wrap64;omega),by repeat(first|exact Drawn0.refl _|apply Drawn0.step)⟩
  rw[if_neg c6] at H
  have c6b0:=decide_eq_false c6
  clear c6
  by_cases c8:(bt a0 x6_1)>57
  ·rw[if_pos c8] at H
   have c8b0:decide (57<(bt a0 x6_1))=true:=decide_eq_true c8
   clear c8
   obtain rfl:=Option.some.inj H
   have p5:0≤(x6_1:Int):=od_
   have q5:x6_1<(a0.size:Int):=od_
   have hx5:=bt_at a0 x6_1
   replace p5:=eq_true p5
   replace q5:=eq_true q5
   have p7:0≤(x6_1:Int):=od_
   have q7:x6_1<(a0.size:Int):=od_
   have hx7:=bt_at a0 x6_1
   replace p7:=eq_true p7
   replace q7:=eq_true q7
   go_wp2
   go_ret
   exact⟨by first|rfl|(simp;done)|(simp[*];done)|(simp;first|exact given_isEmpty _|exact(given_isEmpty _).symm)|(unfold wrap64;omega)|(congr 1;unfold wrap64;omega),by repeat(first|exact Drawn0.refl _|apply Drawn0.step)⟩
  rw[if_neg c8] at H
  have c8b0:decide (57<(bt a0 x6_1))=false:=decide_eq_false c8
  clear c8
  have H':=am_ H
  clear H
  have p5:0≤(x6_1:Int):=od_
  have q5:x6_1<(a0.size:Int):=od_
  have hx5:=bt_at a0 x6_1
  replace p5:=eq_true p5
  replace q5:=eq_true q5
  have p7:0≤(x6_1:Int):=od_
  have q7:x6_1<(a0.size:Int):=od_
  have hx7:=bt_at a0 x6_1
  replace p7:=eq_true p7
  replace q7:=eq_true q7
  go_wp2
  go_roundg k1
  case measure=>have:=HK1.out;omega
  case rel=>exact⟨(wrap64 (x6_1+1)),eq_,H',⟨by have:=HK1.out;omega⟩,by repeat(first|exact Drawn0.refl _|apply Drawn0.step)⟩
 rw[if_neg c2] at H
 have c2b0:=decide_eq_false c2
 clear c2
 obtain rfl:=Option.some.inj H
 go_wp2
 go_ret
 exact⟨by first|rfl|(simp;done)|(simp[*];done)|(simp;first|exact given_isEmpty _|exact(given_isEmpty _).symm)|(unfold wrap64;omega)|(congr 1;unfold wrap64;omega),by repeat(first|exact Drawn0.refl _|apply Drawn0.step)⟩

def strings_TrimLeft.f (a b:ByteArray):Option ByteArray:=if h:b.size=1 then (if (b[0]'(by omega)).toNat<128 then some ⟨(Lib.trimLeftB a.data.toList (b[0]'(by omega))).toArray⟩ else none) else none
theorem strings_TrimLeft.one (b:ByteArray) (h:b.size=1):b=⟨#[b[0]'(by omega)]⟩:=by
  obtain⟨d⟩:=b
  have hd:d.size=1:=h
  congr 1
  apply Array.ext
  · exact hd
  · intro i h1 h2
    have:i=0:=by omega
    subst this
    rfl
theorem strings_TrimLeft.calls (a0 a1:ByteArray) (r:ByteArray) (w:World) (h:strings_TrimLeft.f a0 a1=some r) :
    Calls Tryz.prog 48 #[.string a0,.string a1] w fun e w'=>e= .returned (.string r)∧Drawn0 w w':=by
  unfold strings_TrimLeft.f at h
  split at h
  · rename_i h1
    split at h
    · rename_i hc
      obtain rfl:=Option.some.inj h
      have c:=Tryz.strings_TrimLeft_one a0 (a1[0]'(by omega)) hc w
      rw[← strings_TrimLeft.one a1 h1] at c
      refine c.mono ?_
      rintro e w' ⟨rfl,rfl⟩
      exact⟨rfl,Drawn0.refl _⟩
    · cases h
  · cases h

def num_Trim.f (k:Nat) (a0:ByteArray):Option (ByteArray):=(num_Is.f k a0).bind fun t101=>(if t101=true then ((strings_TrimLeft.f a0 (⟨#[48]⟩:ByteArray)).bind fun t102=>(some t102)) else (some (⟨#[]⟩:ByteArray)))
theorem num_Trim.calls (k:Nat) (a0:ByteArray) (r:ByteArray) (w:World) (h:num_Trim.f k a0=some r) :
    Calls Tryz.prog 25 #[.string a0] w fun e w'=>e= .returned (.string r)∧Drawn0 w w':=by
  have H:=h
  clear h
  unfold num_Trim.f at H
  replace H:=Option.bind_eq_some_iff.mp H
  obtain⟨t101,A20,H⟩:=H
  have A2:=am_ A20
  clear A20
  by_cases c3:t101=true
  · subst c3
    rw[if_pos rfl] at H
    replace H:=Option.bind_eq_some_iff.mp H
    obtain⟨t102,A40,H⟩:=H
    have A4:=am_ A40
    clear A40
    obtain rfl:=Option.some.inj H
    go_enter Tryz.func25,Tryz.ntmps25
    go_wp2_with (first|((with_reducible refine gate_callee (f:=40) rfl ?_);refine gl_ (some 4) Tryz.func40 #[.string a0] ?_;(with_reducible refine(num_Is.calls _ _ _ _ A2.out).mono ?_);rintro e w' ⟨rfl,⟨nd,rfl⟩⟩;refine⟨_,rfl,?_⟩)|((with_reducible refine gate_callee (f:=48) rfl ?_);refine gl_ (some 7) Tryz.func48 #[.string a0,.string (⟨#[48]⟩:ByteArray)] ?_;(with_reducible refine(strings_TrimLeft.calls _ _ _ _ A4.out).mono ?_);rintro e w' ⟨rfl,⟨nd,rfl⟩⟩;refine⟨_,rfl,?_⟩))
    go_ret
    exact⟨by first|rfl|(simp;done)|(simp[*];done)|(simp;first|exact given_isEmpty _|exact(given_isEmpty _).symm)|(unfold wrap64;omega)|(congr 1;unfold wrap64;omega),by repeat(first|exact Drawn0.refl _|apply Drawn0.step)⟩
  replace c3:=Bool.eq_false_iff.mpr c3
  subst c3
  rw[if_neg (show ¬(false=true) by decide)] at H
  obtain rfl:=Option.some.inj H
  go_enter Tryz.func25,Tryz.ntmps25
  go_wp2_with (first|((with_reducible refine gate_callee (f:=40) rfl ?_);refine gl_ (some 4) Tryz.func40 #[.string a0] ?_;(with_reducible refine(num_Is.calls _ _ _ _ A2.out).mono ?_);rintro e w' ⟨rfl,⟨nd,rfl⟩⟩;refine⟨_,rfl,?_⟩))
  go_ret
  exact⟨by first|rfl|(simp;done)|(simp[*];done)|(simp;first|exact given_isEmpty _|exact(given_isEmpty _).symm)|(unfold wrap64;omega)|(congr 1;unfold wrap64;omega),by repeat(first|exact Drawn0.refl _|apply Drawn0.step)⟩

def num_text.l0:Nat→List Int→List Int→List Int→Int→Int→Option (ByteArray)
 | 0,_,_,_,_,_=>none
 | k+1,x0,x3,x9,x10,x11=>if x11<x10 then (if 0≤x11 then (if x11<(x9.length:Int) then (if 0≤(wrap64 ((wrap64 ((x0.length:Int)-1))-x11)) then (if (wrap64 ((wrap64 ((x0.length:Int)-1))-x11))<(x3.length:Int) then (num_text.l0 k x0 (x3.set ((wrap64 ((wrap64 ((x0.length:Int)-1))-x11)):Int).toNat (rd x9 x11)) x9 x10 (wrap64 (x11+1))) else (none)) else (none)) else (none)) else (none)) else ((num_Trim.f k (strOfNums x3)).bind fun t108=>(some t108))
def num_text.f (k:Nat) (l0:List Int):Option (ByteArray):=if 0≤(l0.length:Int) then (if ((l0.length:Int):Int).toNat≤281474976710656 then (num_text.l0 k l0 (List.replicate ((l0.length:Int):Int).toNat 0) l0 (l0.length:Int) 0) else (none)) else (none)
theorem num_text.calls (k:Nat) (A0:Option Addr) (c0:Nat) (l0:List Int) (r:ByteArray) (w:World) (hr0:Kd.C (Kd.int .u8) w A0 l0.length l0) (hc0:l0.length≤c0) (h:num_text.f k l0=some r) :
  Calls Tryz.prog 39 #[.slice A0 l0.length c0] w fun e w'=>e= .returned (.string r)∧Below w.heap.size w w':=by
 have HR0:=am_ hr0
 have HC0:=am_ hc0
 clear hr0 hc0
 have HB:=am_ (Below.refl w.heap.size w)
 have H:=h
 clear h
 unfold num_text.f at H
 replace H:=ifn_ H
 obtain⟨c2,H⟩:=H
 have c2b0:=eq_true c2
 have c2b1:decide (0≤(l0.length:Int))=true:=decide_eq_true c2
 clear c2
 replace H:=ifn_ H
 obtain⟨c3,H⟩:=H
 have c3b0:=eq_true c3
 have c3b1:decide (((l0.length:Int):Int).toNat≤281474976710656)=true:=decide_eq_true c3
 clear c3
 obtain⟨y103,hy103⟩:∃y_:List Int,y_=(List.replicate ((l0.length:Int):Int).toNat 0):=⟨_,rfl⟩
 replace H:(num_text.l0 k l0 y103 l0 (l0.length:Int) 0)=some r:=by first|(rw[hy103];with_reducible exact H)|(have H2_:=(Option.bind_some _ _).symm.trans H;rw[hy103];with_reducible exact H2_)|(have H2_:=(Option.bind_some _ _).symm.trans H;with_reducible exact H2_)|with_reducible exact H|(rw[hy103];exact H)|exact H
 have Ny103:=am_ hy103
 clear hy103
 have H':=am_ H
 clear H
 go_enter Tryz.func39,Tryz.ntmps39
 go_wp2_with (first|((with_reducible refine gate_dst (N:=8) rfl ?_);refine Kd.R_make (Kd.int .u8) _ 5 rfl (N:=8) rfl 23 _ _ rfl (l0.length:Int) rfl rfl Tryz.underlying23 (.int .u8 0) 1 info5 rfl (by decide) (by omega) 0 (ok:=fun _=>True) (okp:=fun _=>True) rfl (fun _ hk=>hk) trivial (od_) (Nat.le_trans (Nat.mul_le_mul_right _ (od_:(l0.length:Int).toNat≤281474976710656)) (by omega)) (Below.refl _ _) (Nat.le_refl _) ?_;intro v104 w4 ho5 hb hg_ hnew_;clear hg_ hnew_;(first|rw[← Ny103.out] at ho5|(simp only[Int.reduceToNat] at ho5;rw[← Ny103.out] at ho5));have HO105:=am_ (Kd.R_lower ho5 (below_size (bl_ HB).out));replace HB:=am_ (below_step (bl_ HB).out hb);clear hb ho5))
 go_loopg [11] k (fun kq v11 w'=>∃(x3_1:List Int) (x11_1:Int),v11= .int .i64 x11_1∧Aside0 (num_text.l0 kq l0 x3_1 l0 (l0.length:Int) x11_1=some r)∧Aside0 (kq≤k)∧Aside0 (Kd.R (Kd.int .u8) 5 w' w.heap.size (fun _=>True) v104 x3_1)∧Aside0 (Below w.heap.size w w'))
 case atStart=>exact⟨(y103),(0),eq_,H',⟨Nat.le_refl _⟩,⟨kdR_ HO105.out⟩,(bl_ HB)⟩
 clear H'
 obtain⟨x3_1,x11_1,rfl,HA,HK1,HO_3,HB⟩:=hrel
 cases gk with
 | zero=>exact absurd HA.out (by simp[num_text.l0])
 | succ k1=>?_
 have H:=HA.out
 clear HA
 simp only[num_text.l0] at H
 by_cases c6:x11_1<(l0.length:Int)
 ·rw[if_pos c6] at H
  have c6b0:=decide_eq_true c6
  clear c6
  replace H:=ifn_ H
  obtain⟨c7,H⟩:=H
  have c7b0:decide (0≤x11_1)=true:=decide_eq_true c7
  clear c7
  replace H:=ifn_ H
  obtain⟨c8,H⟩:=H
  have c8b0:decide (x11_1<(l0.length:Int))=true:=decide_eq_true c8
  clear c8
  obtain⟨ji9,hji9⟩:∃j_:Int,(wrap64 ((wrap64 ((l0.length:Int)-1))-x11_1))=j_:=⟨_,rfl⟩
  replace H:(if 0≤(ji9) then (if (ji9)<(x3_1.length:Int) then (num_text.l0 k1 l0 (x3_1.set ((ji9):Int).toNat (rd l0 x11_1)) l0 (l0.length:Int) (wrap64 (x11_1+1))) else (none)) else (none))=some r:=by first|(rw[hji9] at H;exact H)|(simp only[hji9] at H ⊢;exact H)
  have hji9w:(IntKind.i64.wrap ((wrap64 ((l0.length:Int)-1))-x11_1))=ji9:=(i64_w _).trans hji9
  replace H:=ifn_ H
  obtain⟨c10,H⟩:=H
  have c10b0:decide (0≤(ji9))=true:=decide_eq_true c10
  clear c10
  replace H:=ifn_ H
  obtain⟨c11,H⟩:=H
  have c11b0:decide ((ji9)<(x3_1.length:Int))=true:=decide_eq_true c11
  clear c11
  obtain⟨y107,hy107⟩:∃y_:List Int,y_=(x3_1.set ((ji9):Int).toNat (rd l0 x11_1)):=⟨_,rfl⟩
  replace H:(num_text.l0 k1 l0 y107 l0 (l0.length:Int) (wrap64 (x11_1+1)))=some r:=by first|(rw[hy107];with_reducible exact H)|(have H2_:=(Option.bind_some _ _).symm.trans H;rw[hy107];with_reducible exact H2_)|(have H2_:=(Option.bind_some _ _).symm.trans H;with_reducible exact H2_)|with_reducible exact H|(rw[hy107];exact H)|exact H
  have Ny107:=am_ hy107
  clear hy107
  have H':=am_ H
  clear H
  have p106:0≤(x11_1:Int):=od_
  have q106:x11_1<(l0.length:Int):=od_
  obtain⟨ad106,e106,hx106_0⟩:=Kd.at_int HR0.out x11_1 p106 q106
  cases e106
  replace hx106_0:=hbc_ HB hx106_0
  replace p106:=eq_true p106
  replace q106:=eq_true q106
  have p12:0≤((ji9):Int):=od_
  have q12:((ji9):Int)<((x3_1.length:Int):Int):=od_
  obtain⟨go12,co12,eo12,gb12,gl12,cl12,HG12⟩:=Kd.R_form HO_3.out (by omega)
  (first|cases eo12|(injection eo12 with ea_ en_ ec_;(first|subst ea_|(injection ea_ with ea_;subst ea_));subst ec_;clear en_))
  have GB12:=am_ gb12
  have GG12:=am_ HG12
  clear gb12 gl12 HG12
  obtain⟨hx12_0,hf12_0⟩:=Kd.R_celln 0 HO_3.out ((ji9):Int) p12 q12
  replace p12:=eq_true p12
  replace q12:=eq_true q12
  have HP13:=Kd.R_putg HO_3.out ((ji9):Int) (rd l0 x11_1)
  go_wp2_with (first|((with_reducible refine gate_store (t:=5) (p:=23) rfl ?_);refine store_event (t:=5) (p:=23) (v:=?vo_w14) (w1:=(wr.setCell ⟨go12,((ji9):Int).toNat,none⟩ (.int .u8 (rd l0 x11_1)))) ?hg ?ho ?hn ?hr ?_;(case ho=>rfl);(case hg=>rfl);(case hn=>rfl);(case hr=>first|(go_simp;done)|(go_simp;rfl));intro w14 hw;have hg:wr.grownBy w14 (some go12):=(by rw[hw];exact HP13.2);have hp_:Kd.R (Kd.int .u8) 5 w14 w.heap.size (fun _=>True) (.slice (some ⟨go12,0,none⟩) x3_1.length co12) y107:=(by rw[hw,Ny107.out];exact HP13.1);clear HP13;have n0_:=am_ (hp_);have n1_:=am_ ((by rw[hw];exact below_set (HB.out) GB12.out:Below w.heap.size w w14));clear HO_3;clear HB;revert n0_ n1_;intro HO_3 HB;clear hg hw hp_))
  go_roundg k1
  case measure=>have:=HK1.out;omega
  case rel=>exact⟨(y107),(wrap64 (x11_1+1)),eq_,H',⟨by have:=HK1.out;omega⟩,⟨kdR_ HO_3.out⟩,(bl_ HB)⟩
 rw[if_neg c6] at H
 have c6b0:=decide_eq_false c6
 clear c6
 replace H:=Option.bind_eq_some_iff.mp H
 obtain⟨t108,A150,H⟩:=H
 have A15:=am_ A150
 clear A150
 obtain rfl:=Option.some.inj H
 have hcv16:=own_string (P:=Tryz.prog) Tryz.underlying23 Tryz.underlying5 Tryz.underlying9 (Kd.own_of_R HO_3.out)
 go_wp2_with (first|((with_reducible refine gate_callee (f:=25) rfl ?_);refine gl_ (some 27) Tryz.func25 #[.string (strOfNums x3_1)] ?_;(with_reducible refine(num_Trim.calls _ _ _ _ A15.out).mono ?_);rintro e w' ⟨rfl,⟨nd,rfl⟩⟩;refine⟨_,rfl,?_⟩))
 go_ret
 exact⟨ew_,(bl_ HB).out⟩

def num_Of.l0:Nat→Int→List Int→Option (ByteArray)
 | 0,_,_=>none
 | k+1,x0,x3=>if x0>0 then (if x3.length<140737488355328 then (num_Of.l0 k (wrap64 (Int.tdiv x0 10)) (x3++[(48+(Int.tmod x0 10))%256])) else (none)) else ((num_text.f k x3).bind fun t112=>(some t112))
def num_Of.f (k:Nat) (a0:Int):Option (ByteArray):=num_Of.l0 k a0 ([]:List Int)
theorem num_Of.calls (k:Nat) (a0:Int) (r:ByteArray) (w:World) (h:num_Of.f k a0=some r) :
  Calls Tryz.prog 19 #[.int .i64 a0] w fun e w'=>e= .returned (.string r)∧Below w.heap.size w w':=by
 have HB:=am_ (Below.refl w.heap.size w)
 have H:=h
 clear h
 unfold num_Of.f at H
 have H':=am_ H
 clear H
 go_enter Tryz.func19,Tryz.ntmps19
 go_wp2
 go_loopg [0,3] k (fun kq v0 v3 w'=>∃(x0_1:Int) (x3_1:List Int),v0= .int .i64 x0_1∧Aside0 (num_Of.l0 kq x0_1 x3_1=some r)∧Aside0 (kq≤k)∧Aside0 (Kd.R (Kd.int .u8) 5 w' w.heap.size (fun _=>True) v3 x3_1)∧Aside0 (Below w.heap.size w w'))
 case atStart=>exact⟨(a0),(([]:List Int)),eq_,H',⟨Nat.le_refl _⟩,⟨by first|exact Kd.R_nil _ _ _ _ _|exact Kd.N_nil _ _ _ _ _|exact Kd.V_nil _ _ _ _ _|exact Kd.Q_nil _ _ _ _ _|exact Kd.S_nil _ _ _ _ _⟩,(bl_ HB)⟩
 clear H'
 obtain⟨x0_1,x3_1,rfl,HA,HK1,HO_3,HB⟩:=hrel
 cases gk with
 | zero=>exact absurd HA.out (by simp[num_Of.l0])
 | succ k1=>?_
 have H:=HA.out
 clear HA
 simp only[num_Of.l0] at H
 by_cases c2:x0_1>0
 ·rw[if_pos c2] at H
  have c2b0:decide (0<x0_1)=true:=decide_eq_true c2
  clear c2
  replace H:=ifn_ H
  obtain⟨c3,H⟩:=H
  have LMc3:=am_ c3
  clear c3
  obtain⟨y109,hy109⟩:∃y_:List Int,y_=(x3_1++[(48+(Int.tmod x0_1 10))%256]):=⟨_,rfl⟩
  replace H:(num_Of.l0 k1 (wrap64 (Int.tdiv x0_1 10)) y109)=some r:=by first|(rw[hy109];with_reducible exact H)|(have H2_:=(Option.bind_some _ _).symm.trans H;rw[hy109];with_reducible exact H2_)|(have H2_:=(Option.bind_some _ _).symm.trans H;with_reducible exact H2_)|with_reducible exact H|(rw[hy109];exact H)|exact H
  have Ny109:=am_ hy109
  clear hy109
  have H':=am_ H
  clear H
  go_wp2_with (first|((with_reducible refine gate_builtin (b:= .append) (xs:= #[.tmp 8,.tmp 13]) rfl ?_);at_builtin;refine Kd.R_append (Kd.int .u8) (w0:=w) w.heap.size rfl (.tmp 8) (.tmp 13) 23 5 (.int .u8 0) 1 rfl Tryz.underlying23 info5 rfl (by decide) (by omega) u3 x3_1 ((48+(Int.tmod x0_1 10))%256) [.int .u8 ((48+(Int.tmod x0_1 10))%256)] (fun _=>True) (fun _=>False) rfl rfl ?aP (fun _ hk=>hk.elim) ?aF ?aO ?aB ?aS ?aL ?_;(case aP=>exact rfl);(case aB=>exact(bl_ HB).out);(case aF=>exact(fun _ _=>trivial));(case aO=>exact(kr_ HO_3));(case aS=>exact(below_size (bl_ HB).out));(case aL=>have:=LMc3.out;omega);intro v110 w4 ho hb hg hat;rw[← Ny109.out] at ho;have n0_:=am_ (hb);have n1_:=am_ (ho);clear HB;clear HO_3;revert n0_ n1_;intro HB HO111;clear ho hb hg hat))
  go_roundg k1
  case measure=>have:=HK1.out;omega
  case rel=>exact⟨(wrap64 (Int.tdiv x0_1 10)),(y109),eq_,H',⟨by have:=HK1.out;omega⟩,⟨kdR_ HO111.out⟩,(bl_ HB)⟩
 rw[if_neg c2] at H
 have c2b0:decide (0<x0_1)=false:=decide_eq_false c2
 clear c2
 replace H:=Option.bind_eq_some_iff.mp H
 obtain⟨t112,A50,H⟩:=H
 have A5:=am_ A50
 clear A50
 obtain rfl:=Option.some.inj H
 obtain⟨Ao6,co6,eo6⟩:=Kd.R_slice HO_3.out
 subst eo6
 go_wp2_with (first|((with_reducible refine gate_callee (f:=39) rfl ?_);refine gl_ (some 16) Tryz.func39 #[.slice Ao6 x3_1.length co6] ?_;(with_reducible refine(num_text.calls _ _ _ _ _ _ ?side1 ?side2 A5.out).mono ?_);(case side1=>exact kc_ HO_3);(case side2=>exact kl_ HO_3);rintro e w7 ⟨rfl,hb⟩;refine⟨_,rfl,?_⟩;replace HO_3:=kb_ HO_3 hb;replace HB:=am_ (below_step (bl_ HB).out hb);(try clear hb);(try clear hi)))
 go_ret
 exact⟨ew_,(bl_ HB).out⟩

def operand_Ops_I.f (k:Nat) (a0_0:ByteArray) (a0_1:ByteArray) (a0_2:Int):Option (ByteArray):=(num_Trim.f k a0_0).bind fun t114=>(some t114)
theorem operand_Ops_I.calls (k:Nat) (a0_0:ByteArray) (a0_1:ByteArray) (a0_2:Int) (r:ByteArray) (w:World) (h:operand_Ops_I.f k a0_0 a0_1 a0_2=some r) :
    Calls Tryz.prog 51 #[.agg #[.string a0_0,.string a0_1,.int .i64 a0_2]] w fun e w'=>e= .returned (.string r)∧Below w.heap.size w w':=by
  have hu27:=Tryz.underlying27
  have HB:=am_ (Below.refl w.heap.size w)
  have H:=h
  clear h
  unfold operand_Ops_I.f at H
  replace H:=Option.bind_eq_some_iff.mp H
  obtain⟨t114,A20,H⟩:=H
  have A2:=am_ A20
  clear A20
  obtain rfl:=Option.some.inj H
  go_enter Tryz.func51,Tryz.ntmps51
  go_wp2_with (first|((with_reducible refine gate_dst (N:=1) rfl ?_);refine be_ 1 #[.string a0_0,.string a0_1,.int .i64 a0_2] 27 ?_;intro gb113 hg w3 hbox hb;have BK113:=am_ (hbox);have GW113:=sz_ HB hg;have GE113:=sz_ HB hg;replace HB:=am_ (below_step (bl_ HB).out hb);clear hb hbox hg;obtain⟨hcz4_0,hcz4_1,hcz4_2,hfz4_0,hfz4_1,hfz4_2⟩:=bo3_ BK113)|((with_reducible refine gate_callee (f:=25) rfl ?_);refine gl_ (some 5) Tryz.func25 #[.string a0_0] ?_;(with_reducible refine(num_Trim.calls _ _ _ _ A2.out).mono ?_);rintro e w' ⟨rfl,⟨nd,rfl⟩⟩;refine⟨_,rfl,?_⟩))
  go_ret
  exact⟨ew_,(bl_ HB).out⟩

def strings_TrimRight.f (a b:ByteArray):Option ByteArray:=if h:b.size=1 then (if (b[0]'(by omega)).toNat<128∧a.size≤9223372036854775807 then some ⟨(Lib.trimRightB a.data.toList (b[0]'(by omega))).toArray⟩ else none) else none
theorem strings_TrimRight.one (b:ByteArray) (h:b.size=1):b=⟨#[b[0]'(by omega)]⟩:=by
  obtain⟨d⟩:=b
  have hd:d.size=1:=h
  congr 1
  apply Array.ext
  · exact hd
  · intro i h1 h2
    have:i=0:=by omega
    subst this
    rfl
theorem strings_TrimRight.calls (a0 a1:ByteArray) (r:ByteArray) (w:World) (h:strings_TrimRight.f a0 a1=some r) :
    Calls Tryz.prog 65 #[.string a0,.string a1] w fun e w'=>e= .returned (.string r)∧Drawn0 w w':=by
  unfold strings_TrimRight.f at h
  split at h
  · rename_i h1
    split at h
    · rename_i hc
      obtain rfl:=Option.some.inj h
      have c:=Tryz.strings_TrimRight_one a0 (a1[0]'(by omega)) hc.1 w hc.2
      rw[← strings_TrimRight.one a1 h1] at c
      refine c.mono ?_
      rintro e w' ⟨rfl,rfl⟩
      exact⟨rfl,Drawn0.refl _⟩
    · cases h
  · cases h

def operand_bare.f (a0:ByteArray):Option (ByteArray):=(strings_TrimRight.f a0 (⟨#[48]⟩:ByteArray)).bind fun t115=>(some t115)
theorem operand_bare.calls (a0:ByteArray) (r:ByteArray) (w:World) (h:operand_bare.f a0=some r) :
    Calls Tryz.prog 80 #[.string a0] w fun e w'=>e= .returned (.string r)∧Drawn0 w w':=by
  have H:=h
  clear h
  unfold operand_bare.f at H
  replace H:=Option.bind_eq_some_iff.mp H
  obtain⟨t115,A20,H⟩:=H
  have A2:=am_ A20
  clear A20
  obtain rfl:=Option.some.inj H
  go_enter Tryz.func80,Tryz.ntmps80
  go_wp2_with (first|((with_reducible refine gate_callee (f:=65) rfl ?_);refine gl_ (some 4) Tryz.func65 #[.string a0,.string (⟨#[48]⟩:ByteArray)] ?_;(with_reducible refine(strings_TrimRight.calls _ _ _ _ A2.out).mono ?_);rintro e w' ⟨rfl,⟨nd,rfl⟩⟩;refine⟨_,rfl,?_⟩))
  go_ret
  exact⟨by first|rfl|(simp;done)|(simp[*];done)|(simp;first|exact given_isEmpty _|exact(given_isEmpty _).symm)|(unfold wrap64;omega)|(congr 1;unfold wrap64;omega),by repeat(first|exact Drawn0.refl _|apply Drawn0.step)⟩

def operand_Ops_T.f (k:Nat) (a0_0:ByteArray) (a0_1:ByteArray) (a0_2:Int):Option (ByteArray):=(operand_bare.f a0_1).bind fun t117=>((num_Trim.f k t117).bind fun t118=>(some t118))
theorem operand_Ops_T.calls (k:Nat) (a0_0:ByteArray) (a0_1:ByteArray) (a0_2:Int) (r:ByteArray) (w:World) (h:operand_Ops_T.f k a0_0 a0_1 a0_2=some r) :
    Calls Tryz.prog 56 #[.agg #[.string a0_0,.string a0_1,.int .i64 a0_2]] w fun e w'=>e= .returned (.string r)∧Below w.heap.size w w':=by
  have hu27:=Tryz.underlying27
  have HB:=am_ (Below.refl w.heap.size w)
  have H:=h
  clear h
  unfold operand_Ops_T.f at H
  replace H:=Option.bind_eq_some_iff.mp H
  obtain⟨t117,A20,H⟩:=H
  have A2:=am_ A20
  clear A20
  replace H:=Option.bind_eq_some_iff.mp H
  obtain⟨t118,A30,H⟩:=H
  have A3:=am_ A30
  clear A30
  obtain rfl:=Option.some.inj H
  go_enter Tryz.func56,Tryz.ntmps56
  go_wp2_with (first|((with_reducible refine gate_dst (N:=1) rfl ?_);refine be_ 1 #[.string a0_0,.string a0_1,.int .i64 a0_2] 27 ?_;intro gb116 hg w4 hbox hb;have BK116:=am_ (hbox);have GW116:=sz_ HB hg;have GE116:=sz_ HB hg;replace HB:=am_ (below_step (bl_ HB).out hb);clear hb hbox hg;obtain⟨hcz5_0,hcz5_1,hcz5_2,hfz5_0,hfz5_1,hfz5_2⟩:=bo3_ BK116)|((with_reducible refine gate_callee (f:=80) rfl ?_);refine gl_ (some 5) Tryz.func80 #[.string a0_1] ?_;(with_reducible refine(operand_bare.calls _ _ _ A2.out).mono ?_);rintro e w' ⟨rfl,⟨nd,rfl⟩⟩;refine⟨_,rfl,?_⟩)|((with_reducible refine gate_callee (f:=25) rfl ?_);refine gl_ (some 6) Tryz.func25 #[.string t117] ?_;(with_reducible refine(num_Trim.calls _ _ _ _ A3.out).mono ?_);rintro e w' ⟨rfl,⟨nd,rfl⟩⟩;refine⟨_,rfl,?_⟩))
  go_ret
  exact⟨ew_,(bl_ HB).out⟩

def operand_Ops_Whole.f (k:Nat) (a0_0:ByteArray) (a0_1:ByteArray) (a0_2:Int):Option (Bool):=(operand_Ops_T.f k a0_0 a0_1 a0_2).bind fun t120=>(some (t120.toList==([]:List UInt8)))
theorem operand_Ops_Whole.calls (k:Nat) (a0_0:ByteArray) (a0_1:ByteArray) (a0_2:Int) (r:Bool) (w:World) (h:operand_Ops_Whole.f k a0_0 a0_1 a0_2=some r) :
    Calls Tryz.prog 52 #[.agg #[.string a0_0,.string a0_1,.int .i64 a0_2]] w fun e w'=>e= .returned (.bool r)∧Below w.heap.size w w':=by
  have hu27:=Tryz.underlying27
  have HB:=am_ (Below.refl w.heap.size w)
  have H:=h
  clear h
  unfold operand_Ops_Whole.f at H
  replace H:=Option.bind_eq_some_iff.mp H
  obtain⟨t120,A20,H⟩:=H
  have A2:=am_ A20
  clear A20
  obtain rfl:=Option.some.inj H
  go_enter Tryz.func52,Tryz.ntmps52
  go_wp2_with (first|((with_reducible refine gate_dst (N:=1) rfl ?_);refine be_ 1 #[.string a0_0,.string a0_1,.int .i64 a0_2] 27 ?_;intro gb119 hg w3 hbox hb;have BK119:=am_ (hbox);have GW119:=sz_ HB hg;have GE119:=sz_ HB hg;replace HB:=am_ (below_step (bl_ HB).out hb);clear hb hbox hg;obtain⟨hcz4_0,hcz4_1,hcz4_2,hfz4_0,hfz4_1,hfz4_2⟩:=bo3_ BK119)|((with_reducible refine gate_callee (f:=56) rfl ?_);refine gl_ (some 4) Tryz.func56 #[.agg #[.string a0_0,.string a0_1,.int .i64 a0_2]] ?_;(with_reducible refine(operand_Ops_T.calls _ _ _ _ _ _ A2.out).mono ?_);rintro e w5 ⟨rfl,hb⟩;refine⟨_,rfl,?_⟩;replace BK119:=bb_ BK119 hb;replace HB:=am_ (below_step (bl_ HB).out hb);(try clear hb);(try clear hi)))
  go_ret
  exact⟨ew_,(bl_ HB).out⟩

def operand_Ops_V.f (a0_0:ByteArray) (a0_1:ByteArray) (a0_2:Int):Option (Int):=some (a0_1.size:Int)
theorem operand_Ops_V.calls (a0_0:ByteArray) (a0_1:ByteArray) (a0_2:Int) (r:Int) (w:World) (h:operand_Ops_V.f a0_0 a0_1 a0_2=some r) :
    Calls Tryz.prog 53 #[.agg #[.string a0_0,.string a0_1,.int .i64 a0_2]] w fun e w'=>e= .returned (.int .i64 r)∧Below w.heap.size w w':=by
  have hu27:=Tryz.underlying27
  have HB:=am_ (Below.refl w.heap.size w)
  have H:=h
  clear h
  unfold operand_Ops_V.f at H
  obtain rfl:=Option.some.inj H
  go_enter Tryz.func53,Tryz.ntmps53
  go_wp2_with (first|((with_reducible refine gate_dst (N:=1) rfl ?_);refine be_ 1 #[.string a0_0,.string a0_1,.int .i64 a0_2] 27 ?_;intro gb121 hg w2 hbox hb;have BK121:=am_ (hbox);have GW121:=sz_ HB hg;have GE121:=sz_ HB hg;replace HB:=am_ (below_step (bl_ HB).out hb);clear hb hbox hg;obtain⟨hcz3_0,hcz3_1,hcz3_2,hfz3_0,hfz3_1,hfz3_2⟩:=bo3_ BK121))
  go_ret
  exact⟨ew_,(bl_ HB).out⟩

def operand_Ops_W.f (a0_0:ByteArray) (a0_1:ByteArray) (a0_2:Int):Option (Int):=(operand_bare.f a0_1).bind fun t123=>(some (t123.size:Int))
theorem operand_Ops_W.calls (a0_0:ByteArray) (a0_1:ByteArray) (a0_2:Int) (r:Int) (w:World) (h:operand_Ops_W.f a0_0 a0_1 a0_2=some r) :
    Calls Tryz.prog 54 #[.agg #[.string a0_0,.string a0_1,.int .i64 a0_2]] w fun e w'=>e= .returned (.int .i64 r)∧Below w.heap.size w w':=by
  have hu27:=Tryz.underlying27
  have HB:=am_ (Below.refl w.heap.size w)
  have H:=h
  clear h
  unfold operand_Ops_W.f at H
  replace H:=Option.bind_eq_some_iff.mp H
  obtain⟨t123,A20,H⟩:=H
  have A2:=am_ A20
  clear A20
  obtain rfl:=Option.some.inj H
  go_enter Tryz.func54,Tryz.ntmps54
  go_wp2_with (first|((with_reducible refine gate_dst (N:=1) rfl ?_);refine be_ 1 #[.string a0_0,.string a0_1,.int .i64 a0_2] 27 ?_;intro gb122 hg w3 hbox hb;have BK122:=am_ (hbox);have GW122:=sz_ HB hg;have GE122:=sz_ HB hg;replace HB:=am_ (below_step (bl_ HB).out hb);clear hb hbox hg;obtain⟨hcz4_0,hcz4_1,hcz4_2,hfz4_0,hfz4_1,hfz4_2⟩:=bo3_ BK122)|((with_reducible refine gate_callee (f:=80) rfl ?_);refine gl_ (some 5) Tryz.func80 #[.string a0_1] ?_;(with_reducible refine(operand_bare.calls _ _ _ A2.out).mono ?_);rintro e w' ⟨rfl,⟨nd,rfl⟩⟩;refine⟨_,rfl,?_⟩))
  go_ret
  exact⟨ew_,(bl_ HB).out⟩

def operand_Ops_F.f (k:Nat) (a0_0:ByteArray) (a0_1:ByteArray) (a0_2:Int):Option (ByteArray):=(num_Trim.f k a0_1).bind fun t125=>(some t125)
theorem operand_Ops_F.calls (k:Nat) (a0_0:ByteArray) (a0_1:ByteArray) (a0_2:Int) (r:ByteArray) (w:World) (h:operand_Ops_F.f k a0_0 a0_1 a0_2=some r) :
    Calls Tryz.prog 55 #[.agg #[.string a0_0,.string a0_1,.int .i64 a0_2]] w fun e w'=>e= .returned (.string r)∧Below w.heap.size w w':=by
  have hu27:=Tryz.underlying27
  have HB:=am_ (Below.refl w.heap.size w)
  have H:=h
  clear h
  unfold operand_Ops_F.f at H
  replace H:=Option.bind_eq_some_iff.mp H
  obtain⟨t125,A20,H⟩:=H
  have A2:=am_ A20
  clear A20
  obtain rfl:=Option.some.inj H
  go_enter Tryz.func55,Tryz.ntmps55
  go_wp2_with (first|((with_reducible refine gate_dst (N:=1) rfl ?_);refine be_ 1 #[.string a0_0,.string a0_1,.int .i64 a0_2] 27 ?_;intro gb124 hg w3 hbox hb;have BK124:=am_ (hbox);have GW124:=sz_ HB hg;have GE124:=sz_ HB hg;replace HB:=am_ (below_step (bl_ HB).out hb);clear hb hbox hg;obtain⟨hcz4_0,hcz4_1,hcz4_2,hfz4_0,hfz4_1,hfz4_2⟩:=bo3_ BK124)|((with_reducible refine gate_callee (f:=25) rfl ?_);refine gl_ (some 5) Tryz.func25 #[.string a0_1] ?_;(with_reducible refine(num_Trim.calls _ _ _ _ A2.out).mono ?_);rintro e w' ⟨rfl,⟨nd,rfl⟩⟩;refine⟨_,rfl,?_⟩))
  go_ret
  exact⟨ew_,(bl_ HB).out⟩

def eval_value.f (k:Nat) (a0:Int) (a1_0:ByteArray) (a1_1:ByteArray) (a1_2:Int):Option (ByteArray × Bool):=if a0=110 then ((operand_Ops_I.f k a1_0 a1_1 a1_2).bind fun t127=>((operand_Ops_Whole.f k a1_0 a1_1 a1_2).bind fun t128=>(some (t127,t128)))) else (if a0=105 then ((operand_Ops_I.f k a1_0 a1_1 a1_2).bind fun t129=>(some (t129,true))) else (if a0=118 then ((operand_Ops_V.f a1_0 a1_1 a1_2).bind fun t130=>((num_Of.f k t130).bind fun t131=>(some (t131,true)))) else (if a0=119 then ((operand_Ops_W.f a1_0 a1_1 a1_2).bind fun t132=>((num_Of.f k t132).bind fun t133=>(some (t133,true)))) else (if a0=102 then ((operand_Ops_F.f k a1_0 a1_1 a1_2).bind fun t134=>(some (t134,true))) else (if a0=116 then ((operand_Ops_T.f k a1_0 a1_1 a1_2).bind fun t135=>(some (t135,true))) else (if a0=99 then ((num_Of.f k a1_2).bind fun t136=>(some (t136,true))) else (if a0=101 then ((num_Of.f k a1_2).bind fun t137=>(some (t137,true))) else (some ((⟨#[]⟩:ByteArray),false)))))))))
theorem eval_value.calls (k:Nat) (a0:Int) (a1_0:ByteArray) (a1_1:ByteArray) (a1_2:Int) (r1:ByteArray) (r2:Bool) (w:World) (h:eval_value.f k a0 a1_0 a1_1 a1_2=some (r1,r2)) :
  Calls Tryz.prog 31 #[.int .u8 a0,.agg #[.string a1_0,.string a1_1,.int .i64 a1_2]] w fun e w'=>e= .returned (.tuple #[.string r1,.bool r2])∧Below w.heap.size w w':=by
 have hu27:=Tryz.underlying27
 have HB:=am_ (Below.refl w.heap.size w)
 have H:=h
 clear h
 unfold eval_value.f at H
 by_cases c3:a0=110
 ·rw[if_pos c3] at H
  have c3b0:(a0==110)=true:=beq_iff_eq.mpr c3
  have c3b1:(a0 !=110)=false:=bne_eq_false_iff_eq.mpr c3
  clear c3
  replace H:=Option.bind_eq_some_iff.mp H
  obtain⟨t127,A40,H⟩:=H
  have A4:=am_ A40
  clear A40
  replace H:=Option.bind_eq_some_iff.mp H
  obtain⟨t128,A50,H⟩:=H
  have A5:=am_ A50
  clear A50
  simp only[Option.some.injEq,Prod.mk.injEq] at H
  obtain⟨rfl,rfl⟩:=H
  go_enter Tryz.func31,Tryz.ntmps31
  try go_wp2_with (first|((with_reducible refine gate_dst (N:=3) rfl ?_);refine be_ 3 #[.string a1_0,.string a1_1,.int .i64 a1_2] 27 ?_;intro gb126 hg w6 hbox hb;have BK126:=am_ (hbox);have GW126:=sz_ HB hg;have GE126:=sz_ HB hg;replace HB:=am_ (below_step (bl_ HB).out hb);clear hb hbox hg))
  replace BK126:=am_ (blk_drew BK126.out)
  replace HB:=am_ (below_drew1 HB.out)
  refine start_ (n:=6) (S:=fun w'=>w'.cell? ⟨gb126,0,none⟩=some (.string a1_0)∧w'.cell? ⟨gb126,1,none⟩=some (.string a1_1)∧w'.cell? ⟨gb126,2,none⟩=some (.int .i64 a1_2)) (ds:=[]) #[false,false,false,false,false,false] (by kernel_rfl) rfl rfl ⟨bc_ BK126 0,bc_ BK126 1,bc_ BK126 2⟩ (fun hHeld=>?_)
  generalize w6.drew=w7 at BK126 HB hHeld ⊢
  refine tk0_ 0 9 #[true,false,false,false,false,false] hHeld rfl (by rintro w' ⟨s0,s1,s2⟩;go_simp;with_reducible rfl) ?_
  refine tk0_ 2 11 #[true,false,true,false,false,false] hHeld rfl (by rintro w' ⟨s0,s1,s2⟩;go_simp;with_reducible rfl) ?_
  refine one_ (i:=1) (N:=some 10) #[true,true,true,false,false,false] rfl rfl (by kernel_rfl) (by decide) (fun K hK=>?_)
  refine gs_ Tryz.func51 #[.agg #[.string a1_0,.string a1_1,.int .i64 a1_2]] ?_
  with_reducible refine(operand_Ops_I.calls _ _ _ _ _ _ A4.out).mono ?_
  rintro e w8 ⟨rfl,hb⟩
  refine⟨_,rfl,?_⟩
  replace BK126:=bb_ BK126 hb
  replace HB:=am_ (below_step (bl_ HB).out hb)
  (try clear hb)
  (try clear hb2)
  (try clear hk)
  (try clear hi)
  refine hK.out _ _ ⟨bc_ BK126 0,bc_ BK126 1,bc_ BK126 2⟩ (fun hHeld=>?_)
  clear hK K
  refine nm_ 10 ?_
  refine one_ (i:=3) (N:=some 12) #[true,true,true,true,false,false] rfl rfl (by kernel_rfl) (by decide) (fun K hK=>?_)
  refine gs_ Tryz.func52 #[.agg #[.string a1_0,.string a1_1,.int .i64 a1_2]] ?_
  with_reducible refine(operand_Ops_Whole.calls _ _ _ _ _ _ A5.out).mono ?_
  rintro e w9 ⟨rfl,hb⟩
  refine⟨_,rfl,?_⟩
  replace BK126:=bb_ BK126 hb
  replace HB:=am_ (below_step (bl_ HB).out hb)
  (try clear hb)
  (try clear hb2)
  (try clear hk)
  (try clear hi)
  refine hK.out _ _ ⟨bc_ BK126 0,bc_ BK126 1,bc_ BK126 2⟩ (fun hHeld=>?_)
  clear hK K
  refine nm_ 12 ?_
  refine pu0_ 4 4 #[true,true,true,true,true,false] ?_
  refine pu0_ 5 5 #[true,true,true,true,true,true] ?_
  refine done_ (by kernel_rfl) ?_
  try go_wp2
  go_ret2
  exact⟨ew_,(bl_ HB).out⟩
 rw[if_neg c3] at H
 have c3b0:(a0==110)=false:=beq_eq_false_iff_ne.mpr c3
 have c3b1:(a0 !=110)=true:=bne_iff_ne.mpr c3
 by_cases c10:a0=105
 ·rw[if_pos c10] at H
  have c10b0:(a0==105)=true:=beq_iff_eq.mpr c10
  have c10b1:(a0 !=105)=false:=bne_eq_false_iff_eq.mpr c10
  clear c10
  replace H:=Option.bind_eq_some_iff.mp H
  obtain⟨t129,A110,H⟩:=H
  have A11:=am_ A110
  clear A110
  simp only[Option.some.injEq,Prod.mk.injEq] at H
  obtain⟨rfl,rfl⟩:=H
  go_enter Tryz.func31,Tryz.ntmps31
  go_wp2_with (first|((with_reducible refine gate_dst (N:=3) rfl ?_);refine be_ 3 #[.string a1_0,.string a1_1,.int .i64 a1_2] 27 ?_;intro gb126 hg w12 hbox hb;have BK126:=am_ (hbox);have GW126:=sz_ HB hg;have GE126:=sz_ HB hg;replace HB:=am_ (below_step (bl_ HB).out hb);clear hb hbox hg;obtain⟨hcz13_0,hcz13_1,hcz13_2,hfz13_0,hfz13_1,hfz13_2⟩:=bo3_ BK126)|((with_reducible refine gate_callee (f:=51) rfl ?_);refine gl_ (some 16) Tryz.func51 #[.agg #[.string a1_0,.string a1_1,.int .i64 a1_2]] ?_;(with_reducible refine(operand_Ops_I.calls _ _ _ _ _ _ A11.out).mono ?_);rintro e w14 ⟨rfl,hb⟩;refine⟨_,rfl,?_⟩;replace BK126:=bb_ BK126 hb;replace HB:=am_ (below_step (bl_ HB).out hb);(try clear hb);(try clear hi)))
  go_ret2
  exact⟨ew_,(bl_ HB).out⟩
 rw[if_neg c10] at H
 have c10b0:(a0==105)=false:=beq_eq_false_iff_ne.mpr c10
 have c10b1:(a0 !=105)=true:=bne_iff_ne.mpr c10
 by_cases c15:a0=118
 ·rw[if_pos c15] at H
  have c15b0:(a0==118)=true:=beq_iff_eq.mpr c15
  have c15b1:(a0 !=118)=false:=bne_eq_false_iff_eq.mpr c15
  clear c15
  replace H:=Option.bind_eq_some_iff.mp H
  obtain⟨t130,A160,H⟩:=H
  have A16:=am_ A160
  clear A160
  replace H:=Option.bind_eq_some_iff.mp H
  obtain⟨t131,A170,H⟩:=H
  have A17:=am_ A170
  clear A170
  simp only[Option.some.injEq,Prod.mk.injEq] at H
  obtain⟨rfl,rfl⟩:=H
  go_enter Tryz.func31,Tryz.ntmps31
  go_wp2_with (first|((with_reducible refine gate_dst (N:=3) rfl ?_);refine be_ 3 #[.string a1_0,.string a1_1,.int .i64 a1_2] 27 ?_;intro gb126 hg w18 hbox hb;have BK126:=am_ (hbox);have GW126:=sz_ HB hg;have GE126:=sz_ HB hg;replace HB:=am_ (below_step (bl_ HB).out hb);clear hb hbox hg;obtain⟨hcz19_0,hcz19_1,hcz19_2,hfz19_0,hfz19_1,hfz19_2⟩:=bo3_ BK126)|((with_reducible refine gate_callee (f:=53) rfl ?_);refine gl_ (some 20) Tryz.func53 #[.agg #[.string a1_0,.string a1_1,.int .i64 a1_2]] ?_;(with_reducible refine(operand_Ops_V.calls _ _ _ _ _ A16.out).mono ?_);rintro e w20 ⟨rfl,hb⟩;refine⟨_,rfl,?_⟩;replace BK126:=bb_ BK126 hb;replace HB:=am_ (below_step (bl_ HB).out hb);(try clear hb);(try clear hi))|((with_reducible refine gate_callee (f:=19) rfl ?_);refine gl_ (some 21) Tryz.func19 #[.int .i64 t130] ?_;(with_reducible refine(num_Of.calls _ _ _ _ A17.out).mono ?_);rintro e w21 ⟨rfl,hb⟩;refine⟨_,rfl,?_⟩;replace BK126:=bb_ BK126 hb;replace HB:=am_ (below_step (bl_ HB).out hb);(try clear hb);(try clear hi)))
  go_ret2
  exact⟨ew_,(bl_ HB).out⟩
 rw[if_neg c15] at H
 have c15b0:(a0==118)=false:=beq_eq_false_iff_ne.mpr c15
 have c15b1:(a0 !=118)=true:=bne_iff_ne.mpr c15
 by_cases c22:a0=119
 ·rw[if_pos c22] at H
  have c22b0:(a0==119)=true:=beq_iff_eq.mpr c22
  have c22b1:(a0 !=119)=false:=bne_eq_false_iff_eq.mpr c22
  clear c22
  replace H:=Option.bind_eq_some_iff.mp H
  obtain⟨t132,A230,H⟩:=H
  have A23:=am_ A230
  clear A230
  replace H:=Option.bind_eq_some_iff.mp H
  obtain⟨t133,A240,H⟩:=H
  have A24:=am_ A240
  clear A240
  simp only[Option.some.injEq,Prod.mk.injEq] at H
  obtain⟨rfl,rfl⟩:=H
  go_enter Tryz.func31,Tryz.ntmps31
  go_wp2_with (first|((with_reducible refine gate_dst (N:=3) rfl ?_);refine be_ 3 #[.string a1_0,.string a1_1,.int .i64 a1_2] 27 ?_;intro gb126 hg w25 hbox hb;have BK126:=am_ (hbox);have GW126:=sz_ HB hg;have GE126:=sz_ HB hg;replace HB:=am_ (below_step (bl_ HB).out hb);clear hb hbox hg;obtain⟨hcz26_0,hcz26_1,hcz26_2,hfz26_0,hfz26_1,hfz26_2⟩:=bo3_ BK126)|((with_reducible refine gate_callee (f:=54) rfl ?_);refine gl_ (some 25) Tryz.func54 #[.agg #[.string a1_0,.string a1_1,.int .i64 a1_2]] ?_;(with_reducible refine(operand_Ops_W.calls _ _ _ _ _ A23.out).mono ?_);rintro e w27 ⟨rfl,hb⟩;refine⟨_,rfl,?_⟩;replace BK126:=bb_ BK126 hb;replace HB:=am_ (below_step (bl_ HB).out hb);(try clear hb);(try clear hi))|((with_reducible refine gate_callee (f:=19) rfl ?_);refine gl_ (some 26) Tryz.func19 #[.int .i64 t132] ?_;(with_reducible refine(num_Of.calls _ _ _ _ A24.out).mono ?_);rintro e w28 ⟨rfl,hb⟩;refine⟨_,rfl,?_⟩;replace BK126:=bb_ BK126 hb;replace HB:=am_ (below_step (bl_ HB).out hb);(try clear hb);(try clear hi)))
  go_ret2
  exact⟨ew_,(bl_ HB).out⟩
 rw[if_neg c22] at H
 have c22b0:(a0==119)=false:=beq_eq_false_iff_ne.mpr c22
 have c22b1:(a0 !=119)=true:=bne_iff_ne.mpr c22
 by_cases c29:a0=102
 ·rw[if_pos c29] at H
  have c29b0:(a0==102)=true:=beq_iff_eq.mpr c29
  have c29b1:(a0 !=102)=false:=bne_eq_false_iff_eq.mpr c29
  clear c29
  replace H:=Option.bind_eq_some_iff.mp H
  obtain⟨t134,A300,H⟩:=H
  have A30:=am_ A300
  clear A300
  simp only[Option.some.injEq,Prod.mk.injEq] at H
  obtain⟨rfl,rfl⟩:=H
  go_enter Tryz.func31,Tryz.ntmps31
  go_wp2_with (first|((with_reducible refine gate_dst (N:=3) rfl ?_);refine be_ 3 #[.string a1_0,.string a1_1,.int .i64 a1_2] 27 ?_;intro gb126 hg w31 hbox hb;have BK126:=am_ (hbox);have GW126:=sz_ HB hg;have GE126:=sz_ HB hg;replace HB:=am_ (below_step (bl_ HB).out hb);clear hb hbox hg;obtain⟨hcz32_0,hcz32_1,hcz32_2,hfz32_0,hfz32_1,hfz32_2⟩:=bo3_ BK126)|((with_reducible refine gate_callee (f:=55) rfl ?_);refine gl_ (some 30) Tryz.func55 #[.agg #[.string a1_0,.string a1_1,.int .i64 a1_2]] ?_;(with_reducible refine(operand_Ops_F.calls _ _ _ _ _ _ A30.out).mono ?_);rintro e w33 ⟨rfl,hb⟩;refine⟨_,rfl,?_⟩;replace BK126:=bb_ BK126 hb;replace HB:=am_ (below_step (bl_ HB).out hb);(try clear hb);(try clear hi)))
  go_ret2
  exact⟨ew_,(bl_ HB).out⟩
 rw[if_neg c29] at H
 have c29b0:(a0==102)=false:=beq_eq_false_iff_ne.mpr c29
 have c29b1:(a0 !=102)=true:=bne_iff_ne.mpr c29
 by_cases c34:a0=116
 ·rw[if_pos c34] at H
  have c34b0:(a0==116)=true:=beq_iff_eq.mpr c34
  have c34b1:(a0 !=116)=false:=bne_eq_false_iff_eq.mpr c34
  clear c34
  replace H:=Option.bind_eq_some_iff.mp H
  obtain⟨t135,A350,H⟩:=H
  have A35:=am_ A350
  clear A350
  simp only[Option.some.injEq,Prod.mk.injEq] at H
  obtain⟨rfl,rfl⟩:=H
  go_enter Tryz.func31,Tryz.ntmps31
  go_wp2_with (first|((with_reducible refine gate_dst (N:=3) rfl ?_);refine be_ 3 #[.string a1_0,.string a1_1,.int .i64 a1_2] 27 ?_;intro gb126 hg w36 hbox hb;have BK126:=am_ (hbox);have GW126:=sz_ HB hg;have GE126:=sz_ HB hg;replace HB:=am_ (below_step (bl_ HB).out hb);clear hb hbox hg;obtain⟨hcz37_0,hcz37_1,hcz37_2,hfz37_0,hfz37_1,hfz37_2⟩:=bo3_ BK126)|((with_reducible refine gate_callee (f:=56) rfl ?_);refine gl_ (some 34) Tryz.func56 #[.agg #[.string a1_0,.string a1_1,.int .i64 a1_2]] ?_;(with_reducible refine(operand_Ops_T.calls _ _ _ _ _ _ A35.out).mono ?_);rintro e w38 ⟨rfl,hb⟩;refine⟨_,rfl,?_⟩;replace BK126:=bb_ BK126 hb;replace HB:=am_ (below_step (bl_ HB).out hb);(try clear hb);(try clear hi)))
  go_ret2
  exact⟨ew_,(bl_ HB).out⟩
 rw[if_neg c34] at H
 have c34b0:(a0==116)=false:=beq_eq_false_iff_ne.mpr c34
 have c34b1:(a0 !=116)=true:=bne_iff_ne.mpr c34
 by_cases c39:a0=99
 ·rw[if_pos c39] at H
  have c39b0:(a0==99)=true:=beq_iff_eq.mpr c39
  have c39b1:(a0 !=99)=false:=bne_eq_false_iff_eq.mpr c39
  clear c39
  replace H:=Option.bind_eq_some_iff.mp H
  obtain⟨t136,A400,H⟩:=H
  have A40:=am_ A400
  clear A400
  simp only[Option.some.injEq,Prod.mk.injEq] at H
  obtain⟨rfl,rfl⟩:=H
  go_enter Tryz.func31,Tryz.ntmps31
  go_wp2_with (first|((with_reducible refine gate_dst (N:=3) rfl ?_);refine be_ 3 #[.string a1_0,.string a1_1,.int .i64 a1_2] 27 ?_;intro gb126 hg w41 hbox hb;have BK126:=am_ (hbox);have GW126:=sz_ HB hg;have GE126:=sz_ HB hg;replace HB:=am_ (below_step (bl_ HB).out hb);clear hb hbox hg;obtain⟨hcz42_0,hcz42_1,hcz42_2,hfz42_0,hfz42_1,hfz42_2⟩:=bo3_ BK126)|((with_reducible refine gate_callee (f:=19) rfl ?_);refine gl_ (some 40) Tryz.func19 #[.int .i64 a1_2] ?_;(with_reducible refine(num_Of.calls _ _ _ _ A40.out).mono ?_);rintro e w43 ⟨rfl,hb⟩;refine⟨_,rfl,?_⟩;replace BK126:=bb_ BK126 hb;replace HB:=am_ (below_step (bl_ HB).out hb);(try clear hb);(try clear hi)))
  go_ret2
  exact⟨ew_,(bl_ HB).out⟩
 rw[if_neg c39] at H
 have c39b0:(a0==99)=false:=beq_eq_false_iff_ne.mpr c39
 have c39b1:(a0 !=99)=true:=bne_iff_ne.mpr c39
 by_cases c44:a0=101
 ·rw[if_pos c44] at H
  have c44b0:(a0==101)=true:=beq_iff_eq.mpr c44
  have c44b1:(a0 !=101)=false:=bne_eq_false_iff_eq.mpr c44
  clear c44
  replace H:=Option.bind_eq_some_iff.mp H
  obtain⟨t137,A450,H⟩:=H
  have A45:=am_ A450
  clear A450
  simp only[Option.some.injEq,Prod.mk.injEq] at H
  obtain⟨rfl,rfl⟩:=H
  go_enter Tryz.func31,Tryz.ntmps31
  go_wp2_with (first|((with_reducible refine gate_dst (N:=3) rfl ?_);refine be_ 3 #[.string a1_0,.string a1_1,.int .i64 a1_2] 27 ?_;intro gb126 hg w46 hbox hb;have BK126:=am_ (hbox);have GW126:=sz_ HB hg;have GE126:=sz_ HB hg;replace HB:=am_ (below_step (bl_ HB).out hb);clear hb hbox hg;obtain⟨hcz47_0,hcz47_1,hcz47_2,hfz47_0,hfz47_1,hfz47_2⟩:=bo3_ BK126)|((with_reducible refine gate_callee (f:=19) rfl ?_);refine gl_ (some 40) Tryz.func19 #[.int .i64 a1_2] ?_;(with_reducible refine(num_Of.calls _ _ _ _ A45.out).mono ?_);rintro e w48 ⟨rfl,hb⟩;refine⟨_,rfl,?_⟩;replace BK126:=bb_ BK126 hb;replace HB:=am_ (below_step (bl_ HB).out hb);(try clear hb);(try clear hi)))
  go_ret2
  exact⟨ew_,(bl_ HB).out⟩
 rw[if_neg c44] at H
 have c44b0:(a0==101)=false:=beq_eq_false_iff_ne.mpr c44
 have c44b1:(a0 !=101)=true:=bne_iff_ne.mpr c44
 simp only[Option.some.injEq,Prod.mk.injEq] at H
 obtain⟨rfl,rfl⟩:=H
 go_enter Tryz.func31,Tryz.ntmps31
 go_wp2_with (first|((with_reducible refine gate_dst (N:=3) rfl ?_);refine be_ 3 #[.string a1_0,.string a1_1,.int .i64 a1_2] 27 ?_;intro gb126 hg w49 hbox hb;have BK126:=am_ (hbox);have GW126:=sz_ HB hg;have GE126:=sz_ HB hg;replace HB:=am_ (below_step (bl_ HB).out hb);clear hb hbox hg))
 go_ret2
 exact⟨ew_,(bl_ HB).out⟩

def num_Div.renWB:Go.Shelf.Ren:=⟨fun|167=>57|n=>Tryz.lays105_ren.f n,Tryz.lays105_ren.t,Tryz.lays105_ren.g⟩
theorem num_Div.laysWB:Go.Proofs.Lays.n167 Tryz.prog num_Div.renWB:=by
  have L:=Tryz.lays105
  exact { mixed:=L.mixed,f167:=Tryz.func57.trans (congrArg some (by kernel_rfl)),f240:=L.f240,f276:=L.f276,
          t0:=L.t0,a0:=L.a0,z0:=L.z0,v0:=L.v0,t4:=L.t4,a4:=L.a4,z4:=L.z4,v4:=L.v4,t5:=L.t5,a5:=L.a5,z5:=L.z5,v5:=L.v5,
          t9:=L.t9,a9:=L.a9,z9:=L.z9,v9:=L.v9,t20:=L.t20,a20:=L.a20,z20:=L.z20,v20:=L.v20,t37:=L.t37,a37:=L.a37,z37:=L.z37,v37:=L.v37,
          t70:=L.t70,a70:=L.a70,z70:=L.z70,v70:=L.v70,t72:=L.t72,a72:=L.a72,z72:=L.z72,v72:=L.v72,t75:=L.t75,a75:=L.a75,z75:=L.z75,v75:=L.v75,t164:=L.t164,a164:=L.a164,z164:=L.z164,v164:=L.v164}
theorem num_Div.extraWB:Builder.Extra Tryz.prog num_Div.renWB:=by
  have X:=Tryz.Builder_Extra_105
  exact { sizeBuilder:=X.sizeBuilder,liesBuilder:=X.liesBuilder,t5:=X.t5,a5:=X.a5,z5:=X.z5,v5:=X.v5,infoByte:=X.infoByte,cellsByte:=X.cellsByte,sizeByte:=X.sizeByte,neB5:=X.neB5}
theorem num_Div.WriteByte (B b:Nat) (bs:List Value) (c:Int) (w:World) (h:Lib.IsBuilder 113 5 B b bs w) (hlen:bs.length+1≤140737488355328) (hBw:B≤w.heap.size) :
    Calls Tryz.prog 57 #[.pointer (some ⟨b,0,none⟩),.int .u8 c] w fun e w'=>e= .returned .nilIface∧(Lib.BuilderAt 113 5 B b (.pointer (some ⟨b,0,none⟩)) (bs++[.int .u8 c]) w'∧Below B w w'):=Any.Builder_WriteByte num_Div.laysWB num_Div.extraWB B b bs c w h hlen hBw

def num_Div.rest (m r:Int) (c:UInt8):Int:=10*r+((c.toNat:Int)-48)%256
def num_Div.step (m:Int) (p:List UInt8 × Int) (c:UInt8):List UInt8 × Int :=
  (p.1++[UInt8.ofNat ((48+num_Div.rest m p.2 c/m)%256).toNat],num_Div.rest m p.2 c%m)
def num_Div.go (m:Int) (l:List UInt8):List UInt8 × Int:=l.foldl (num_Div.step m) ([],0)
theorem num_Div.go_take (m:Int) (s:ByteArray) (k:Nat) (h:k<s.size):num_Div.go m (s.data.toList.take (k+1))=num_Div.step m (num_Div.go m (s.data.toList.take k)) (s.data.toList.getD k 0):=by
  unfold num_Div.go
  have h':k<s.data.toList.length:=by simpa using h
  rw[List.take_succ_eq_append_getElem h',List.foldl_append]
  simp only[List.foldl_cons,List.foldl_nil,List.getD_eq_getElem?_getD,List.getElem?_eq_getElem h',Option.getD_some]
theorem num_Div.go_inv (m:Int) (hm:1≤m) (l:List UInt8):(num_Div.go m l).1.length=l.length∧0≤(num_Div.go m l).2∧(num_Div.go m l).2<m:=by
  unfold num_Div.go
  suffices H:∀(l:List UInt8) (p:List UInt8 × Int),0≤p.2→p.2<m→(l.foldl (num_Div.step m) p).1.length=p.1.length+l.length∧0≤(l.foldl (num_Div.step m) p).2∧(l.foldl (num_Div.step m) p).2<m by
    have:=H l ([],0) (by simp) (by simp;omega)
    simpa using this
  intro l
  induction l with
  | nil=>intro p h1 h2;exact⟨rfl,h1,h2⟩
  | cons c l ih =>
    intro p h1 h2
    rw[List.foldl_cons]
    have h3:=ih (num_Div.step m p c) (Int.emod_nonneg _ (by omega)) (Int.emod_lt_of_pos _ (by omega))
    refine⟨?_,h3.2⟩
    rw[h3.1];simp[num_Div.step];omega
def num_Div.f (k:Nat) (a0:ByteArray) (a1:Int):Option (ByteArray × Int):=(num_Is.f k a0).bind fun t=>if t=true then (if a1<1 then some (⟨#[]⟩,0) else if 1000000000<a1 then some (⟨#[]⟩,0) else if a0.size<140737488355328 then (num_Trim.f k ⟨(num_Div.go a1 a0.data.toList).1.toArray⟩).bind fun u=>some (u,(num_Div.go a1 a0.data.toList).2) else none) else some (⟨#[]⟩,0)
theorem num_Div.getD_ (s:ByteArray) (j:Nat) (h:j<s.size):s.data.toList.getD j 0=s[j]:=by
  have h':j<s.data.toList.length:=by simpa using h
  simp only[List.getD_eq_getElem?_getD,List.getElem?_eq_getElem h',Option.getD_some]
  rfl
theorem num_Div.cells_snoc {T e B b:Nat} {p:Value} {l:List UInt8} {x:Int} {w:World} (h:Lib.BuilderAt T e B b p (Lib.byteCells l++[.int .u8 (x%256)]) w):Lib.BuilderAt T e B b p (Lib.byteCells (l++[UInt8.ofNat (x%256).toNat])) w:=by
  have e1:Lib.byteCells (l++[UInt8.ofNat (x%256).toNat])=Lib.byteCells l++[.int .u8 (x%256)]:=by
    unfold Lib.byteCells
    rw[List.map_append,List.map_cons,List.map_nil]
    have h1:(x%256).toNat<256:=by omega
    have h2:((UInt8.ofNat (x%256).toNat).toNat:Int)=x%256:=by
      rw[UInt8.toNat_ofNat_of_lt' (by simpa using h1)];omega
    rw[h2]
  rw[e1];exact h
set_option maxHeartbeats 1000000 in
theorem num_Div.calls (k:Nat) (a0:ByteArray) (a1:Int) (r1:ByteArray) (r2:Int) (w:World) (h:num_Div.f k a0 a1=some (r1,r2)) :
    Calls Tryz.prog 32 #[.string a0,.int .i64 a1] w fun e w'=>e= .returned (.tuple #[.string r1,.int .i64 r2])∧Below w.heap.size w w':=by
  unfold num_Div.f at h
  replace h:=Option.bind_eq_some_iff.mp h
  obtain⟨t,h1,h⟩:=h
  have h1':=am_ h1
  clear h1
  cases t with
  | false =>
    rw[if_neg (by decide)] at h
    simp only[Option.some.injEq,Prod.mk.injEq] at h
    obtain⟨rfl,rfl⟩:=h
    go_enter Tryz.func32,Tryz.ntmps32
    go_wp2_with (go_at_call 40;refine(num_Is.calls k a0 _ _ h1'.out).mono ?_;rintro e w' ⟨rfl,⟨m,rfl⟩⟩)
    go_ret2
    exact⟨rfl,pw_below_drewN (Below.refl _ _) m⟩
  | true =>
    rw[if_pos rfl] at h
    by_cases hlo:a1<1
    · rw[if_pos hlo] at h
      simp only[Option.some.injEq,Prod.mk.injEq] at h
      obtain⟨rfl,rfl⟩:=h
      have d1:decide (a1<1)=true:=decide_eq_true hlo
      clear hlo
      go_enter Tryz.func32,Tryz.ntmps32
      go_wp2_with (go_at_call 40;refine(num_Is.calls k a0 _ _ h1'.out).mono ?_;rintro e w' ⟨rfl,⟨m,rfl⟩⟩)
      go_ret2
      exact⟨rfl,by repeat(first|exact Below.refl _ _|apply pw_below_drewN)⟩
    · rw[if_neg hlo] at h
      by_cases hhi:1000000000<a1
      · rw[if_pos hhi] at h
        simp only[Option.some.injEq,Prod.mk.injEq] at h
        obtain⟨rfl,rfl⟩:=h
        have d1:decide (a1<1)=false:=decide_eq_false hlo
        have d2:decide (1000000000<a1)=true:=decide_eq_true hhi
        clear hlo hhi
        go_enter Tryz.func32,Tryz.ntmps32
        go_wp2_with (go_at_call 40;refine(num_Is.calls k a0 _ _ h1'.out).mono ?_;rintro e w' ⟨rfl,⟨m,rfl⟩⟩)
        go_ret2
        exact⟨rfl,by repeat(first|exact Below.refl _ _|apply pw_below_drewN)⟩
      · rw[if_neg hhi] at h
        by_cases hsz:a0.size<140737488355328
        · rw[if_pos hsz] at h
          replace h:=Option.bind_eq_some_iff.mp h
          obtain⟨u,h2,h⟩:=h
          have h2':=am_ h2
          clear h2
          simp only[Option.some.injEq,Prod.mk.injEq] at h
          obtain⟨rfl,rfl⟩:=h
          have d1:decide (a1<1)=false:=decide_eq_false hlo
          have d2:decide (1000000000<a1)=false:=decide_eq_false hhi
          have hlo':=am_ (show 1≤a1 by omega)
          have hhi':=am_ (show a1≤1000000000 by omega)
          clear hlo hhi
          go_enter Tryz.func32,Tryz.ntmps32
          go_wp2_with (go_at_call 40;refine(num_Is.calls k a0 _ _ h1'.out).mono ?_;rintro e w' ⟨rfl,⟨m,rfl⟩⟩)
          have hB0:Lib.IsBuilder 113 5 w.heap.size w.heap.size (Lib.byteCells (num_Div.go a1 (a0.data.toList.take 0)).1) ((w.drewN m).alloc (.cells #[.pointer none,.slice none 0 0] 113)):=Lib.fresh_isBuilder 113 5 (w.drewN m)
          have hW0:Below w.heap.size w ((w.drewN m).alloc (.cells #[.pointer none,.slice none 0 0] 113)):=(pw_below_drewN (Below.refl _ _) m).alloc (Nat.le_refl _) _
          have hB0':=am_ hB0
          have hW0':=am_ hW0
          clear hB0 hW0 d1 d2
          go_loopw [7,22] (fun r i wr=>∃j:Nat,j≤a0.size∧i= .int .i64 j∧r= .int .i64 (num_Div.go a1 (a0.data.toList.take j)).2∧Aside0 (Lib.IsBuilder 113 5 w.heap.size w.heap.size (Lib.byteCells (num_Div.go a1 (a0.data.toList.take j)).1) wr)∧Aside0 (Below w.heap.size w wr)) (fun _ i _=>a0.size-(intOf i).toNat)
          case atStart=>exact⟨0,Nat.zero_le _,rfl,rfl,hB0',hW0'⟩
          case round =>
            clear hB0' hW0'
            obtain⟨j,hj,rfl,rfl,hb,hbel⟩:=hrel
            by_cases hlt:j<a0.size
            · have inv:=num_Div.go_inv a1 hlo'.out (a0.data.toList.take j)
              obtain⟨R,hR⟩:∃R,(num_Div.go a1 (a0.data.toList.take j)).2=R:=⟨_,rfl⟩
              rw[hR] at inv ⊢
              have hR':=am_ hR
              clear hR
              have i1:=inv.2.1
              have i2:=Int.lt_of_lt_of_le inv.2.2 hhi'.out
              have hg:=am_ (num_Div.go_take a1 a0 j hlt)
              have inv':=am_ inv
              clear inv
              have hlo:=hlo'.out
              go_wp2_with fail
              refine(num_Div.WriteByte w.heap.size w.heap.size _ _ wr hb.out (by rw[Lib.byteCells_length,inv'.out.1];simp;omega) hbel.out.size).mono ?_
              rintro e W1 ⟨rfl,hb1,hbel1⟩
              have hb1':=am_ (num_Div.cells_snoc hb1)
              have hbel1':=am_ (hbel.out.trans hbel1)
              clear hb1 hbel1 hb hbel
              go_wp2
              go_roundw
              case rel=>exact⟨j+1,by omega,by go_num,by rw[hg.out,num_Div.step,hR'.out,num_Div.getD_ a0 j hlt];rfl,by rw[hg.out,num_Div.step,hR'.out,num_Div.getD_ a0 j hlt];exact⟨.inr hb1'.out⟩,hbel1'⟩
              case measure=>simp[intOf];omega
            · have hfull:a0.data.toList.take j=a0.data.toList:=List.take_of_length_le (by simp;omega)
              rw[hfull] at hb ⊢
              go_wp2_with (first|(go_at_call 58;refine(Tryz.Builder_String_any w.heap.size w.heap.size _ wr hb.out hbel.out.size).mono ?_;rintro e W1 ⟨rfl,hbel1⟩)|(go_at_call 25;refine(num_Trim.calls k _ _ _ h2'.out).mono ?_;rintro e w' ⟨rfl,⟨m',rfl⟩⟩))
              go_ret2
              exact⟨rfl,pw_below_drewN (hbel.out.trans hbel1) _⟩
        · rw[if_neg hsz] at h
          cases h

end Go.Proofs.YtadagjgkanlmdaaGreatDoor.P
