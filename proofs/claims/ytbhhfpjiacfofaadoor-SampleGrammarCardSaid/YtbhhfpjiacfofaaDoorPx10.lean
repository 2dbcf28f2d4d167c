-- written by a program of this session (wip/p2)
import Derived.Test.YtbhhfpjiacfofaaDoorPx0
import Derived.Test.YtbhhfpjiacfofaaDoorPx7
namespace Go.Proofs.YtbhhfpjiacfofaaDoor.P
open Go.RowKit Go.Proofs.YtbhhfpjiacfofaaDoorW.PrintWords Go.Proofs.YtbhhfpjiacfofaaDoorW.PrintLast Go.Proofs.YtbhhfpjiacfofaaDoorW.PrintMore
attribute [local go_sem] max2_int min2_int max_two min_two max_three min_three max_four min_four   -- for this text's walks alone
set_option linter.unusedVariables false
set_option linter.unusedSimpArgs false

/-! ### florinlaw08_pad: function 37 -/
def florinlaw08_pad.l0:Nat→ByteArray→Int→Option (ByteArray)
  | 0,_,_=>none
  | k+1,x0,x1=>if (x0.size:Int)<x1 then (if 1+x0.size≤9223372036854775807 then (florinlaw08_pad.l0 k ((⟨#[48]⟩:ByteArray)++x0) x1) else (none)) else (some x0)
def florinlaw08_pad.f (k:Nat) (a0:ByteArray) (a1:Int):Option (ByteArray):=florinlaw08_pad.l0 k a0 a1
set_option maxHeartbeats 64000000 in
set_option maxRecDepth 100000 in
theorem florinlaw08_pad.calls (k:Nat) (a0:ByteArray) (a1:Int) (r:ByteArray) (w:World) (h:florinlaw08_pad.f k a0 a1=some r) :
    Calls Tryd.prog 37 #[.string a0,.int .i64 a1] w fun e w'=>e= .returned (.string r)∧Drawn0 w w':=by
  have H:=h
  clear h
  unfold florinlaw08_pad.f at H
  have H':=Aside0.mk H
  clear H
  go_enter Tryd.func37,Tryd.ntmps37
  go_wp2
  go_loopg [0] k (fun kq v0 w'=>∃(x0_1:ByteArray),v0= .string x0_1∧Aside0 (florinlaw08_pad.l0 kq x0_1 a1=some r)∧Aside0 (kq≤k)∧Drawn0 w w')
  case atStart=>exact⟨(a0),eq_,H',⟨Nat.le_refl _⟩,by repeat(first|exact Drawn0.refl _|apply Drawn0.step)⟩
  clear H'
  obtain⟨x0_1,rfl,HA,HK1,⟨m1,rfl⟩⟩:=hrel
  cases gk with
  | zero=>exact absurd HA.out (by simp[florinlaw08_pad.l0])
  | succ k1=>?_
  have H:=HA.out
  clear HA
  simp only[florinlaw08_pad.l0] at H
  by_cases c3:(x0_1.size:Int)<a1
  · rw[if_pos c3] at H
    have c3b0:=decide_eq_true c3
    clear c3
    replace H:=ifn_ H
    obtain⟨c4,H⟩:=H
    have c4b0:=eq_true c4
    have c4b1:decide (1+x0_1.size≤9223372036854775807)=true:=decide_eq_true c4
    try have c4b2:=eq_false (Nat.not_lt.2 c4)
    have H':=Aside0.mk H
    clear H
    go_wp2
    go_roundg k1
    case measure=>have:=HK1.out;omega
    case rel=>exact⟨((⟨#[48]⟩:ByteArray)++x0_1),eq_,H',⟨by have:=HK1.out;omega⟩,by repeat(first|exact Drawn0.refl _|apply Drawn0.step)⟩
  rw[if_neg c3] at H
  have c3b0:=decide_eq_false c3
  clear c3
  obtain rfl:=Option.some.inj H
  go_wp2
  go_ret
  exact⟨by first|rfl|(simp;done)|(simp[*];done)|(simp;first|exact given_isEmpty _|exact(given_isEmpty _).symm)|(unfold wrap64;omega)|(congr 1;unfold wrap64;omega),by repeat(first|exact Drawn0.refl _|apply Drawn0.step)⟩

/-! ### florinlaw08_number: function 24 -/
def florinlaw08_number.f (k:Nat) (a0:Int) (a1:Int):Option (ByteArray):=(num_Of.f k a0).bind fun t347=>((florinlaw08_pad.f k t347 (wrap64 (a1+1))).bind fun t348=>(if a1=0 then (some t348) else (if 0≤(wrap64 ((t348.size:Int)-a1)) then (if (wrap64 ((t348.size:Int)-a1))≤(t348.size:Int) then (if (t348.extract 0 ((wrap64 ((t348.size:Int)-a1)):Int).toNat).size+1≤9223372036854775807 then (if ((t348.extract 0 ((wrap64 ((t348.size:Int)-a1)):Int).toNat)++(⟨#[46]⟩:ByteArray)).size+(t348.extract ((wrap64 ((t348.size:Int)-a1)):Int).toNat t348.size).size≤9223372036854775807 then (some (((t348.extract 0 ((wrap64 ((t348.size:Int)-a1)):Int).toNat)++(⟨#[46]⟩:ByteArray))++(t348.extract ((wrap64 ((t348.size:Int)-a1)):Int).toNat t348.size))) else (none)) else (none)) else (none)) else (none))))
set_option maxHeartbeats 64000000 in
set_option maxRecDepth 100000 in
theorem florinlaw08_number.calls (k:Nat) (a0:Int) (a1:Int) (r:ByteArray) (w:World) (h:florinlaw08_number.f k a0 a1=some r) :
  Calls Tryd.prog 24 #[.int .i64 a0,.int .i64 a1] w fun e w'=>e= .returned (.string r)∧Below w.heap.size w w':=by
 have HB:=Aside0.mk (Below.refl w.heap.size w)
 have H:=h
 clear h
 unfold florinlaw08_number.f at H
 replace H:=Option.bind_eq_some_iff.mp H
 obtain⟨t347,A30,H⟩:=H
 have A3:=Aside0.mk A30
 clear A30
 replace H:=Option.bind_eq_some_iff.mp H
 obtain⟨t348,A40,H⟩:=H
 have A4:=Aside0.mk A40
 clear A40
 by_cases c5:a1=0
 ·rw[if_pos c5] at H
  have c5b0:(a1==0)=true:=beq_iff_eq.mpr c5
  have c5b1:(a1 !=0)=false:=bne_eq_false_iff_eq.mpr c5
  clear c5
  obtain rfl:=Option.some.inj H
  go_enter Tryd.func24,Tryd.ntmps24
  go_wp2_with (first|(go_at_call 25;(with_reducible refine(num_Of.calls _ _ _ _ A3.out).mono ?_);rintro e w6 ⟨rfl,hb⟩;replace HB:=Aside0.mk (below_step (bl_ HB).out hb);(try clear hb);(try clear hi))|(go_at_call 37;(with_reducible refine(florinlaw08_pad.calls _ _ _ _ _ A4.out).mono ?_);rintro e w' ⟨rfl,⟨nd,rfl⟩⟩;(try first|exact⟨rfl,_,World.drewN_drewN _ _ _⟩|exact⟨rfl,_,Eq.trans (World.drewN_drewN _ _ _) (congrArg (World.drewN _) (Nat.add_assoc _ _ _))⟩)))
  repeat(go_quiet (first|(go_at_call 25;(with_reducible refine(num_Of.calls _ _ _ _ A3.out).mono ?_);rintro e w6 ⟨rfl,hb⟩;replace HB:=Aside0.mk (below_step (bl_ HB).out hb);(try clear hb);(try clear hi))|(go_at_call 37;(with_reducible refine(florinlaw08_pad.calls _ _ _ _ _ A4.out).mono ?_);rintro e w' ⟨rfl,⟨nd,rfl⟩⟩;(try first|exact⟨rfl,_,World.drewN_drewN _ _ _⟩|exact⟨rfl,_,Eq.trans (World.drewN_drewN _ _ _) (congrArg (World.drewN _) (Nat.add_assoc _ _ _))⟩)));try go_wp2_with (first|(go_at_call 25;(with_reducible refine(num_Of.calls _ _ _ _ A3.out).mono ?_);rintro e w6 ⟨rfl,hb⟩;replace HB:=Aside0.mk (below_step (bl_ HB).out hb);(try clear hb);(try clear hi))|(go_at_call 37;(with_reducible refine(florinlaw08_pad.calls _ _ _ _ _ A4.out).mono ?_);rintro e w' ⟨rfl,⟨nd,rfl⟩⟩;(try first|exact⟨rfl,_,World.drewN_drewN _ _ _⟩|exact⟨rfl,_,Eq.trans (World.drewN_drewN _ _ _) (congrArg (World.drewN _) (Nat.add_assoc _ _ _))⟩))))
  go_ret
  exact⟨ew_,(bl_ HB).out⟩
 rw[if_neg c5] at H
 have c5b0:(a1==0)=false:=beq_eq_false_iff_ne.mpr c5
 have c5b1:(a1 !=0)=true:=bne_iff_ne.mpr c5
 obtain⟨ji7,hji7⟩:∃j_:Int,(wrap64 ((t348.size:Int)-a1))=j_:=⟨_,rfl⟩
 replace H:(if 0≤(ji7) then (if (ji7)≤(t348.size:Int) then (if (t348.extract 0 ((ji7):Int).toNat).size+1≤9223372036854775807 then (if ((t348.extract 0 ((ji7):Int).toNat)++(⟨#[46]⟩:ByteArray)).size+(t348.extract ((ji7):Int).toNat t348.size).size≤9223372036854775807 then (some (((t348.extract 0 ((ji7):Int).toNat)++(⟨#[46]⟩:ByteArray))++(t348.extract ((ji7):Int).toNat t348.size))) else (none)) else (none)) else (none)) else (none))=some r:=by first|(rw[hji7] at H;exact H)|(simp only[hji7] at H ⊢;exact H)
 (try rw[hji7] at A3)
 (try rw[hji7] at A4)
 have hji7w:(IntKind.i64.wrap ((t348.size:Int)-a1))=ji7:=(i64_w _).trans hji7
 replace H:=ifn_ H
 obtain⟨c8,H⟩:=H
 have c8b0:=eq_true c8
 have c8b1:decide (0≤(ji7))=true:=decide_eq_true c8
 clear c8
 replace H:=ifn_ H
 obtain⟨c9,H⟩:=H
 have c9b0:=eq_true c9
 have c9b1:decide ((ji7)≤(t348.size:Int))=true:=decide_eq_true c9
 clear c9
 replace H:=ifn_ H
 obtain⟨c10,H⟩:=H
 have c10b0:=eq_true c10
 have c10b1:decide ((t348.extract 0 ((ji7):Int).toNat).size+1≤9223372036854775807)=true:=decide_eq_true c10
 (try (have c10y:(9223372036854775807<ji7.toNat+1)=False:=eq_false (by have h_:=c10;simp only[ByteArray.size_append,ByteArray.size_extract] at h_;(try have h0a_:=(od_:0≤(ji7)));(try have h0b_:=(od_:(ji7)≤(t348.size:Int)));omega)))
 try have c10b2:=eq_false (Nat.not_lt.2 c10)
 (try (have c10x0:=c10b0;simp only[ByteArray.size_extract,Nat.min_self,Nat.sub_zero] at c10x0))
 (try (have c10x1:=c10b1;simp only[ByteArray.size_extract,Nat.min_self,Nat.sub_zero] at c10x1))
 have c11b0:=eq_true (od_:0≤(ji7))
 have c12b0:=eq_true (od_:(ji7)≤(t348.size:Int))
 replace H:=ifn_ H
 obtain⟨c13,H⟩:=H
 have c13b0:=eq_true c13
 have c13b1:decide (((t348.extract 0 ((ji7):Int).toNat)++(⟨#[46]⟩:ByteArray)).size+(t348.extract ((ji7):Int).toNat t348.size).size≤9223372036854775807)=true:=decide_eq_true c13
 (try (have c13y:(9223372036854775807<ji7.toNat+1+(t348.size-ji7.toNat))=False:=eq_false (by have h_:=c13;simp only[ByteArray.size_append,ByteArray.size_extract,show(⟨#[46]⟩:ByteArray).size=1 from rfl] at h_;(try have h0a_:=(od_:0≤(ji7)));(try have h0b_:=(od_:(ji7)≤(t348.size:Int)));omega)))
 try (have c13b5:=c13b0;simp only[ByteArray.size_append,Int.natCast_add] at c13b5)
 try have c13b2:=eq_false (Nat.not_lt.2 c13)
 try have c13b3:(9223372036854775807<(t348.extract 0 ((ji7):Int).toNat).size+1+(t348.extract ((ji7):Int).toNat t348.size).size)=False:=eq_false (Nat.not_lt.2 (by have h_:=c13;simp only[ByteArray.size_append] at h_;exact h_))
 try have c13b4:((t348.extract 0 ((ji7):Int).toNat).size+1+(t348.extract ((ji7):Int).toNat t348.size).size≤9223372036854775807)=True:=eq_true (by have h_:=c13;simp only[ByteArray.size_append] at h_;exact h_)
 (try (have c13x0:=c13b0;simp only[ByteArray.size_extract,Nat.min_self,Nat.sub_zero] at c13x0))
 (try (have c13x1:=c13b1;simp only[ByteArray.size_extract,Nat.min_self,Nat.sub_zero] at c13x1))
 obtain rfl:=Option.some.inj H
 go_enter Tryd.func24,Tryd.ntmps24
 go_wp2_with (first|(go_at_call 25;(with_reducible refine(num_Of.calls _ _ _ _ A3.out).mono ?_);rintro e w14 ⟨rfl,hb⟩;replace HB:=Aside0.mk (below_step (bl_ HB).out hb);(try clear hb);(try clear hi))|(go_at_call 37;(with_reducible refine(florinlaw08_pad.calls _ _ _ _ _ A4.out).mono ?_);rintro e w' ⟨rfl,⟨nd,rfl⟩⟩;(try first|exact⟨rfl,_,World.drewN_drewN _ _ _⟩|exact⟨rfl,_,Eq.trans (World.drewN_drewN _ _ _) (congrArg (World.drewN _) (Nat.add_assoc _ _ _))⟩)))
 repeat(go_quiet (first|(go_at_call 25;(with_reducible refine(num_Of.calls _ _ _ _ A3.out).mono ?_);rintro e w14 ⟨rfl,hb⟩;replace HB:=Aside0.mk (below_step (bl_ HB).out hb);(try clear hb);(try clear hi))|(go_at_call 37;(with_reducible refine(florinlaw08_pad.calls _ _ _ _ _ A4.out).mono ?_);rintro e w' ⟨rfl,⟨nd,rfl⟩⟩;(try first|exact⟨rfl,_,World.drewN_drewN _ _ _⟩|exact⟨rfl,_,Eq.trans (World.drewN_drewN _ _ _) (congrArg (World.drewN _) (Nat.add_assoc _ _ _))⟩)));try go_wp2_with (first|(go_at_call 25;(with_reducible refine(num_Of.calls _ _ _ _ A3.out).mono ?_);rintro e w14 ⟨rfl,hb⟩;replace HB:=Aside0.mk (below_step (bl_ HB).out hb);(try clear hb);(try clear hi))|(go_at_call 37;(with_reducible refine(florinlaw08_pad.calls _ _ _ _ _ A4.out).mono ?_);rintro e w' ⟨rfl,⟨nd,rfl⟩⟩;(try first|exact⟨rfl,_,World.drewN_drewN _ _ _⟩|exact⟨rfl,_,Eq.trans (World.drewN_drewN _ _ _) (congrArg (World.drewN _) (Nat.add_assoc _ _ _))⟩))))
 go_ret
 exact⟨by first|rfl|(simp[errW_none,errW_some] <;> rfl)|(simp only[← hji7];first|rfl|(simp[errW_none,errW_some] <;> rfl))|(simp[*,errW_none,errW_some] <;> first|rfl|exact given_isEmpty _|exact(given_isEmpty _).symm),by repeat(first|(with_reducible first|exact HB.out|apply below_alloc|apply pw_below_drewN|apply below_drew1)|exact HB.out)⟩

/-! ### florinlaw08_One_item: function 15 -/
mutual
def florinlaw08_One_item.j0:Nat→ByteArray→Int→Int→Int→Int→Int→Int→Option (ByteArray × ByteArray × ByteArray × List ByteArray)
 | 0,_,_,_,_,_,_,_=>none
 | k+1,x2,x9,x10,x350000,x350001,x350002,x350003=>(florinlaw08_number.f k x9 x10).bind fun t351=>(if (Go.bits .and .i64 x350002 7)>4 then ((some (([(⟨#[99]⟩:ByteArray),(⟨#[101]⟩:ByteArray)]:List ByteArray):List ByteArray)).bind fun y352=>(if 0≤(Go.bits .and .i64 x350002 1) then (if (Go.bits .and .i64 x350002 1)<(y352.length:Int) then (if t351.size+(rdOf ByteArray.empty y352 (Go.bits .and .i64 x350002 1)).size≤9223372036854775807 then ((num_Of.f k (wrap64 (3+(Go.bits .and .i64 x350002 4)))).bind fun t356=>(if (t351++(rdOf ByteArray.empty y352 (Go.bits .and .i64 x350002 1))).size+t356.size≤9223372036854775807 then (some ((t351++(rdOf ByteArray.empty y352 (Go.bits .and .i64 x350002 1)))++t356,(⟨#[]⟩:ByteArray),(t351++(rdOf ByteArray.empty y352 (Go.bits .and .i64 x350002 1)))++t356,(([(t351++(rdOf ByteArray.empty y352 (Go.bits .and .i64 x350002 1)))++t356]:List ByteArray)))) else (none))) else (none)) else (none)) else (none))) else (if (Go.bits .and .i64 x350003 31)=0 then (some (t351,(⟨#[]⟩:ByteArray),t351,(([t351]:List ByteArray)))) else (florinlaw08_One_item.l0 k x2 x9 x10 t351 (Go.bits .and .i64 x350003 31) (([]:List ByteArray)) 0)))
def florinlaw08_One_item.l0:Nat→ByteArray→Int→Int→ByteArray→Int→List ByteArray→Int→Option (ByteArray × ByteArray × ByteArray × List ByteArray)
 | 0,_,_,_,_,_,_,_=>none
 | k+1,x2,x9,x10,x11,x12,x13,x14=>if x14≤x12 then ((florinlaw08_number.f k (wrap64 (x9+x14)) x10).bind fun t366=>(if x13.length<8796093022208 then (florinlaw08_One_item.l0 k x2 x9 x10 x11 x12 (x13++[t366]) (wrap64 (x14+1))) else (none))) else (if 0≤x12 then (if x12<(x13.length:Int) then (if x11.size+x2.size≤9223372036854775807 then (if (x11++x2).size+1≤9223372036854775807 then (if ((x11++x2)++(⟨#[126]⟩:ByteArray)).size+x2.size≤9223372036854775807 then (if (((x11++x2)++(⟨#[126]⟩:ByteArray))++x2).size+(rdOf ByteArray.empty x13 x12).size≤9223372036854775807 then (some (x11,rdOf ByteArray.empty x13 x12,(((x11++x2)++(⟨#[126]⟩:ByteArray))++x2)++(rdOf ByteArray.empty x13 x12),x13)) else (none)) else (none)) else (none)) else (none)) else (none)) else (none))
end
def florinlaw08_One_item.f (k:Nat) (a0_0:Int) (a0_1:Int) (a0_2:Int) (a0_3:Int) (a1:Bool) (a2:ByteArray):Option (ByteArray × ByteArray × ByteArray × List ByteArray):=if a1=true then (florinlaw08_One_item.j0 k a2 (Go.bits .and .i64 a0_0 65535) (Go.bits .and .i64 a0_1 3) a0_0 a0_1 a0_2 a0_3) else (florinlaw08_One_item.j0 k a2 (Go.bits .and .i64 a0_0 65535) 0 a0_0 a0_1 a0_2 a0_3)
def florinlaw08_One_item.T7:Bool × List (List Nat × List Nat):=(true,[([],[]),([],[]),([],[]),([2],[2]),([3],[3]),([1,4],[1,4]),([5],[5]),([0,6],[0,6]),([],[]),([8],[8]),([9],[9]),([10],[10]),([11],[11]),([7,12],[7,12]),([13,12,0,1,2,3,4,5,6,7,8,9,10,11,12,13],[0,13])])
def florinlaw08_One_item.B7:List Nat:=[0,0,0,4,12,30,62,127,0,256,768,1792,3840,8191,16383]
theorem florinlaw08_One_item.tab7:rtab .any (opsOf Tryd.f15 7)=florinlaw08_One_item.T7:=by kernel_rfl
theorem florinlaw08_One_item.bits7:waitsOk florinlaw08_One_item.T7.2 florinlaw08_One_item.B7=true:=by kernel_rfl
def florinlaw08_One_item.T17:Bool × List (List Nat × List Nat):=(true,[([],[]),([],[]),([],[]),([1,2],[1,2]),([3],[3]),([0,4],[0,4]),([],[]),([],[]),([6,7],[6,7]),([8],[8]),([],[]),([9,10],[9,10]),([],[]),([],[]),([12,13],[12,13]),([14],[14]),([11,15],[11,15]),([],[]),([5,0,1,2,3,4,5],[5]),([16,18,0,1,2,3,4,5,6,7,8,9,10,11,12,13,14,15,16,18],[16]),([17,19,0,1,2,3,4,5,6,7,8,9,10,11,12,13,14,15,16,17,18,19],[17])])
def florinlaw08_One_item.B17:List Nat:=[0,0,0,6,14,31,0,0,192,448,0,1984,0,0,12288,28672,65472,0,63,393215,1048575]
theorem florinlaw08_One_item.tab17:rtab .any (opsOf Tryd.f15 17)=florinlaw08_One_item.T17:=by kernel_rfl
theorem florinlaw08_One_item.bits17:waitsOk florinlaw08_One_item.T17.2 florinlaw08_One_item.B17=true:=by kernel_rfl
set_option maxHeartbeats 64000000 in
set_option maxRecDepth 100000 in
theorem florinlaw08_One_item.calls (k:Nat) (a0_0:Int) (a0_1:Int) (a0_2:Int) (a0_3:Int) (a1:Bool) (a2:ByteArray) (r1:ByteArray) (r2:ByteArray) (r3:ByteArray) (r4:List ByteArray) (w:World) (h:florinlaw08_One_item.f k a0_0 a0_1 a0_2 a0_3 a1 a2=some (r1,r2,r3,r4)) :
  Calls Tryd.prog 15 #[.agg #[.int .i64 a0_0,.int .i64 a0_1,.int .i64 a0_2,.int .i64 a0_3],.bool a1,.string a2] w fun e w'=>∃v3_:Value,e= .returned (.tuple #[.agg #[.string r1,.string r2],.string r3,v3_])∧Kd.R Kd.string 9 w' w.heap.size (fun _=>True) v3_ r4∧Below w.heap.size w w':=by
 have hu55:=Tryd.underlying55
 have hu37:=Tryd.underlying37
 have HB:=Aside0.mk (Below.refl w.heap.size w)
 have H:=h
 clear h
 unfold florinlaw08_One_item.f at H
 have HC4:=Aside0.mk H
 clear H
 go_enter Tryd.func15,Tryd.ntmps15
 go_upto_if 18 with (first|((with_reducible refine gate_dst (N:=3) rfl ?_);refine be_ 3 #[.int .i64 a0_0,.int .i64 a0_1,.int .i64 a0_2,.int .i64 a0_3] 55 ?_;intro gb349 hg w5 hbox hb;have BK349:=Aside0.mk (hbox);have GW349:=sz_ HB hg;have GE349:=sz_ HB hg;replace HB:=Aside0.mk (below_step (bl_ HB).out hb);clear hb hbox hg)|((with_reducible refine gate_dst (N:=6) rfl ?_);refine be_ 6 #[.string (⟨#[]⟩:ByteArray),.string (⟨#[]⟩:ByteArray)] 37 ?_;intro gb350 hg w6 hbox hb;have BK350:=Aside0.mk (hbox);have GW350:=sz_ HB hg;have GE350:=sz_ HB hg;have NB349_350:=na_ BK349 hg;have NB350_349:=nb_ BK349 hg;replace BK349:=bb_ BK349 hb;replace HB:=Aside0.mk (below_step (bl_ HB).out hb);clear hb hbox hg;have hnb7:=NB349_350.out;have hnc7:=NB350_349.out;obtain⟨hcz8_0,hcz8_1,hcz8_2,hcz8_3,hfz8_0,hfz8_1,hfz8_2,hfz8_3⟩:=bo4_ BK349))
 (try simp only[Act.put,List.setIfInBounds_toArray,List.set_cons_zero,List.set_cons_succ])
 go_cut [10] (fun v10 wc=>∃(kq:Nat) (x10_3:Int),v10= .int .i64 x10_3∧Aside0 (florinlaw08_One_item.j0 kq a2 (Go.bits .and .i64 a0_0 65535) x10_3 a0_0 a0_1 a0_2 a0_3=some (r1,r2,r3,r4))∧Aside0 (kq≤k)∧Aside0 (wc.heap[gb349]? = some (.cells #[.int .i64 a0_0,.int .i64 a0_1,.int .i64 a0_2,.int .i64 a0_3] 55 (0,0)))∧Aside0 (wc.heap[gb350]? = some (.cells #[.string (⟨#[]⟩:ByteArray),.string (⟨#[]⟩:ByteArray)] 37 (0,0)))∧Aside0 (Below w.heap.size w wc))
 case first =>
  have H:=HC4.out
  clear HC4
  by_cases c9:a1=true
  ·subst c9
   rw[if_pos rfl] at H
   have H':=Aside0.mk H
   clear H
   have hnb10:=NB349_350.out
   have hnc10:=NB350_349.out
   obtain⟨hcz11_0,hcz11_1,hcz11_2,hcz11_3,hfz11_0,hfz11_1,hfz11_2,hfz11_3⟩:=bo4_ BK349
   go_wp2
   go_meet
   case rel=>exact⟨_,(Go.bits .and .i64 a0_1 3),eq_,H',⟨by first|omega|exact Nat.le_refl _⟩,(bk_ BK349),(bk_ BK350),(bl_ HB)⟩
  replace c9:=Bool.eq_false_iff.mpr c9
  subst c9
  rw[if_neg (show ¬(false=true) by decide)] at H
  have H':=Aside0.mk H
  clear H
  go_wp2
  go_meet
  case rel=>exact⟨_,(0),eq_,H',⟨by first|omega|exact Nat.le_refl _⟩,(bk_ BK349),(bk_ BK350),(bl_ HB)⟩
 clear HC4
 obtain⟨kq,x10_3,rfl,HA,HJ3,BK349,BK350,HB⟩:=hcut
 cases kq with
 | zero=>exact absurd HA.out (by simp[florinlaw08_One_item.j0])
 | succ kj3=>?_
 have H:=HA.out
 clear HA
 simp only[florinlaw08_One_item.j0] at H
 replace H:=Option.bind_eq_some_iff.mp H
 obtain⟨t351,A120,H⟩:=H
 have A12:=Aside0.mk A120
 clear A120
 by_cases c13:(Go.bits .and .i64 a0_2 7)>4
 ·rw[if_pos c13] at H
  have c13b0:decide (4<(Go.bits .and .i64 a0_2 7))=true:=decide_eq_true c13
  clear c13
  obtain⟨y352,hy352⟩:∃y_:List ByteArray,y_=(([(⟨#[99]⟩:ByteArray),(⟨#[101]⟩:ByteArray)]:List ByteArray)):=⟨_,rfl⟩
  replace H:(if 0≤(Go.bits .and .i64 a0_2 1) then (if (Go.bits .and .i64 a0_2 1)<(y352.length:Int) then (if t351.size+(rdOf ByteArray.empty y352 (Go.bits .and .i64 a0_2 1)).size≤9223372036854775807 then ((num_Of.f kj3 (wrap64 (3+(Go.bits .and .i64 a0_2 4)))).bind fun t356=>(if (t351++(rdOf ByteArray.empty y352 (Go.bits .and .i64 a0_2 1))).size+t356.size≤9223372036854775807 then (some ((t351++(rdOf ByteArray.empty y352 (Go.bits .and .i64 a0_2 1)))++t356,(⟨#[]⟩:ByteArray),(t351++(rdOf ByteArray.empty y352 (Go.bits .and .i64 a0_2 1)))++t356,(([(t351++(rdOf ByteArray.empty y352 (Go.bits .and .i64 a0_2 1)))++t356]:List ByteArray)))) else (none))) else (none)) else (none)) else (none))=some (r1,r2,r3,r4):=by first|(rw[hy352];with_reducible exact H)|(have H2_:=(Option.bind_some _ _).symm.trans H;rw[hy352];with_reducible exact H2_)|(have H2_:=(Option.bind_some _ _).symm.trans H;with_reducible exact H2_)|with_reducible exact H|(rw[hy352];exact H)|exact H
  have Ny352:=Aside0.mk hy352
  clear hy352
  replace H:=ifn_ H
  obtain⟨c14,H⟩:=H
  have c14b0:decide (0≤(Go.bits .and .i64 a0_2 1))=true:=decide_eq_true c14
  clear c14
  replace H:=ifn_ H
  obtain⟨c15,H⟩:=H
  have c15b0:decide ((Go.bits .and .i64 a0_2 1)<(y352.length:Int))=true:=decide_eq_true c15
  clear c15
  replace H:=ifn_ H
  obtain⟨c16,H⟩:=H
  have c16b0:=eq_true c16
  have c16b1:decide (t351.size+(rdOf ByteArray.empty y352 (Go.bits .and .i64 a0_2 1)).size≤9223372036854775807)=true:=decide_eq_true c16
  try have c16b2:=eq_false (Nat.not_lt.2 c16)
  replace H:=Option.bind_eq_some_iff.mp H
  obtain⟨t356,A170,H⟩:=H
  have A17:=Aside0.mk A170
  clear A170
  replace H:=ifn_ H
  obtain⟨c18,H⟩:=H
  have c18b0:=eq_true c18
  have c18b1:decide ((t351++(rdOf ByteArray.empty y352 (Go.bits .and .i64 a0_2 1))).size+t356.size≤9223372036854775807)=true:=decide_eq_true c18
  try (have c18b5:=c18b0;simp only[ByteArray.size_append,Int.natCast_add] at c18b5)
  try have c18b2:=eq_false (Nat.not_lt.2 c18)
  try have c18b3:(9223372036854775807<t351.size+(rdOf ByteArray.empty y352 (Go.bits .and .i64 a0_2 1)).size+t356.size)=False:=eq_false (Nat.not_lt.2 (by have h_:=c18;simp only[ByteArray.size_append] at h_;exact h_))
  try have c18b4:(t351.size+(rdOf ByteArray.empty y352 (Go.bits .and .i64 a0_2 1)).size+t356.size≤9223372036854775807)=True:=eq_true (by have h_:=c18;simp only[ByteArray.size_append] at h_;exact h_)
  obtain⟨y357,hy357⟩:∃y_:List ByteArray,y_=(([(t351++(rdOf ByteArray.empty y352 (Go.bits .and .i64 a0_2 1)))++t356]:List ByteArray)):=⟨_,rfl⟩
  replace H:(some ((t351++(rdOf ByteArray.empty y352 (Go.bits .and .i64 a0_2 1)))++t356,(⟨#[]⟩:ByteArray),(t351++(rdOf ByteArray.empty y352 (Go.bits .and .i64 a0_2 1)))++t356,y357))=some (r1,r2,r3,r4):=by first|(rw[hy357];with_reducible exact H)|(have H2_:=(Option.bind_some _ _).symm.trans H;rw[hy357];with_reducible exact H2_)|(have H2_:=(Option.bind_some _ _).symm.trans H;with_reducible exact H2_)|with_reducible exact H|(rw[hy357];exact H)|exact H
  have Ny357:=Aside0.mk hy357
  clear hy357
  simp only[Option.some.injEq,Prod.mk.injEq] at H
  obtain⟨rfl,rfl,rfl,rfl⟩:=H
  try go_wp2_with (first|((with_reducible refine gate_callee (f:=24) rfl ?_);refine gl_ (some 24) Tryd.func24 #[.int .i64 (Go.bits .and .i64 a0_0 65535),.int .i64 x10_3] ?_;(with_reducible refine(florinlaw08_number.calls _ _ _ _ _ A12.out).mono ?_);rintro e w19 ⟨rfl,hb⟩;refine⟨_,rfl,?_⟩;replace BK349:=bb_ BK349 hb;replace BK350:=bb_ BK350 hb;replace HB:=Aside0.mk (below_step (bl_ HB).out hb);(try clear hb);have hnb20:=NB349_350.out;have hnc20:=NB350_349.out;obtain⟨hcz21_0,hcz21_1,hcz21_2,hcz21_3,hfz21_0,hfz21_1,hfz21_2,hfz21_3⟩:=bo4_ BK349))
  have pi355:(0≤((Go.bits .and .i64 a0_2 1):Int))=True:=eq_true (od_)
  have qi355:((Go.bits .and .i64 a0_2 1)<(y352.length:Int))=True:=eq_true (od_)
  replace BK349:=Aside0.mk (blk_drew BK349.out)
  replace BK350:=Aside0.mk (blk_drew BK350.out)
  replace HB:=Aside0.mk (below_drew1 HB.out)
  refine start_ (n:=15) (S:=fun w'=>True) (ds:=[]) #[false,false,false,false,false,false,false,false,false,false,false,false,false,false,false] (by kernel_rfl) rfl rfl trivial (fun hHeld=>?_);refine with_tabW florinlaw08_One_item.tab7 florinlaw08_One_item.bits7 (fun HT_ HW_=>?_)
  generalize w19.drew=w22 at BK349 BK350 HB hHeld ⊢
  refine pu_ 0 29 (bm_ 15 1) HT_ ?_
  refine pu_ 2 31 (bm_ 15 5) HT_ ?_
  refine pu_ 8 37 (bm_ 15 261) HT_ ?_
  refine inv_at [1,3,4,5,6,7,9,10,11,12,13,14] (fun a0_ b a w'=>∃(v353:Value) (adz_v353:Addr) (m5_:Value),a=putSel a0_ b [(1,30,v353),(3,32,.int .i64 a0_2),(4,33,.int .i64 (Go.bits .and .i64 a0_2 1)),(5,34,m5_),(6,35,.string (rdOf ByteArray.empty y352 (Go.bits .and .i64 a0_2 1))),(7,36,.string (t351++(rdOf ByteArray.empty y352 (Go.bits .and .i64 a0_2 1)))),(9,38,.int .i64 a0_2),(10,39,.int .i64 (Go.bits .and .i64 a0_2 4)),(11,40,.int .i64 (wrap64 (3+(Go.bits .and .i64 a0_2 4)))),(12,41,.string t356),(13,42,.string ((t351++(rdOf ByteArray.empty y352 (Go.bits .and .i64 a0_2 1)))++t356)),(14,11,.string ((t351++(rdOf ByteArray.empty y352 (Go.bits .and .i64 a0_2 1)))++t356))]∧(w'.heap[gb349]? = some (.cells #[.int .i64 a0_0,.int .i64 a0_1,.int .i64 a0_2,.int .i64 a0_3] 55 (0,0)))∧(w'.heap[gb350]? = some (.cells #[.string (⟨#[]⟩:ByteArray),.string (⟨#[]⟩:ByteArray)] 37 (0,0)))∧(Below w.heap.size w w')∧(b 1=true→Kd.R Kd.string 9 w' w.heap.size (fun _=>True) v353 y352)∧(b 1=true→∃c_,(v353:Value)= .slice (some adz_v353) y352.length c_)∧(b 5=true→(m5_:Value)= .pointer (some (adz_v353.add ((Go.bits .and .i64 a0_2 1)).toNat)))) HT_.out HW_.out (by kernel_rfl) (by kernel_rfl) ?_ ?_ ?_
  ·exact⟨.bool false,⟨0,0,none⟩,.bool false,by simp only[putSel,Bool.false_eq_true,if_false],BK349.out,BK350.out,HB.out,fun h_=>absurd h_ (by decide),fun h_=>absurd h_ (by decide),fun h_=>absurd h_ (by decide)⟩
  ·skip
   clear BK349 BK350 HB
   refine steps_cons ?_ ?_
   ·rintro b a w' ⟨v353,adz_v353,m5_,ha,Q_BK349,Q_BK350,Q_HB,Q_HO354,Q_HA_HO354,Q_X5_⟩ hb_ hon hoff
    refine⟨_,rfl,fun K hK=>?_⟩
    replace ha:=Aside0.mk ha
    have BK349:=Aside0.mk Q_BK349
    have BK350:=Aside0.mk Q_BK350
    have HB:=Aside0.mk Q_HB
    refine Kd.R_lit_step Kd.string _ 9 ?hg (N:=30) ?hd (xs:=([(⟨#[99]⟩:ByteArray),(⟨#[101]⟩:ByteArray)]:List ByteArray)) (inner:=[.string (⟨#[99]⟩:ByteArray),.string (⟨#[101]⟩:ByteArray)]) (ok:=fun _=>True) (okp:=fun _=>True) ?hr ?hp (fun _ hk=>hk) trivial (Below.refl _ _) (Nat.le_refl _) (by simp) ?_;(case hd=>rfl);(case hg=>rfl);(case hr=>first|(go_simp;done)|(go_simp;rfl));(case hp=>exact(Reps.one (show Kd.M Kd.string _ _ _ (⟨#[99]⟩:ByteArray) [.string (⟨#[99]⟩:ByteArray)] from rfl) (Reps.one (show Kd.M Kd.string _ _ _ (⟨#[101]⟩:ByteArray) [.string (⟨#[101]⟩:ByteArray)] from rfl) (Reps.none _ _))))
    intro v353 w23 ho24 hb hg_ hnew_
    clear hg_ hnew_
    (first|rw[← Ny352.out] at ho24|(simp only[Int.reduceToNat] at ho24;rw[← Ny352.out] at ho24))
    have n0_:=Aside0.mk (Kd.R_lower ho24 (below_size (bl_ HB).out))
    have n1_:=bb_ BK349 hb
    have n2_:=bb_ BK350 hb
    have n3_:=Aside0.mk (below_step (bl_ HB).out hb)
    clear BK349
    clear BK350
    clear HB
    revert n0_ n1_ n2_ n3_
    intro HO354 BK349 BK350 HB
    clear hb ho24
    obtain⟨Ao25,co25,eo25⟩:=Kd.R_slice HO354.out
    subst eo25
    obtain⟨ado25,fo25,_⟩:=Kd.at_string (Kd.R_reads' HO354.out).2.2 0 (by decide) (by rw[Ny352.out];simp)
    cases fo25
    refine hK.out _ _ ⟨.slice (some ado25) y352.length co25,ado25,m5_,(by rw[ha.out];exact putSel_upk 0 hb_ rfl rfl rfl),(bk_ BK349).out,(bk_ BK350).out,(bl_ HB).out,fun _=>(kr_ HO354),fun _=>⟨_,rfl⟩,fun h0_=>absurd ((hoff 5 (by kernel_rfl)).symm.trans h0_) (by decide)⟩
   refine steps_cons ?_ ?_
   ·rintro b a w' ⟨v353,adz_v353,m5_,ha,Q_BK349,Q_BK350,Q_HB,Q_HO354,Q_HA_HO354,Q_X5_⟩ hb_ hon hoff
    refine⟨_,rfl,fun K hK=>?_⟩
    have e31:a.tmps[31]? = some (.pointer (some ⟨gb349,2,none⟩)):=by rw[ha];exact(putSel_off rfl).trans rfl
    replace ha:=Aside0.mk ha
    have BK349:=Aside0.mk Q_BK349
    have BK350:=Aside0.mk Q_BK350
    have HB:=Aside0.mk Q_HB
    have hc0_:w'.cell? ⟨gb349,0,none⟩=some (.int .i64 a0_0):=bc_ BK349 0
    have hc1_:w'.cell? ⟨gb349,1,none⟩=some (.int .i64 a0_1):=bc_ BK349 1
    have hc2_:w'.cell? ⟨gb349,2,none⟩=some (.int .i64 a0_2):=bc_ BK349 2
    have hc3_:w'.cell? ⟨gb349,3,none⟩=some (.int .i64 a0_3):=bc_ BK349 3
    refine value_ (w1:=w') (v:= .int .i64 a0_2) (by rfl) rfl ?_ ?_
    ·go_simp
     (try simp only[i64_w])
     try rfl
    refine hK.out _ _ ⟨v353,adz_v353,m5_,(by rw[ha.out];exact putSel_upk 1 hb_ rfl rfl rfl),Q_BK349,Q_BK350,Q_HB,Q_HO354,Q_HA_HO354,fun h0_=>absurd ((hoff 5 (by kernel_rfl)).symm.trans h0_) (by decide)⟩
   refine steps_cons ?_ ?_
   ·rintro b a w' ⟨v353,adz_v353,m5_,ha,Q_BK349,Q_BK350,Q_HB,Q_HO354,Q_HA_HO354,Q_X5_⟩ hb_ hon hoff
    refine⟨_,rfl,fun K hK=>?_⟩
    have e32:a.tmps[32]? = some (.int .i64 a0_2):=by rw[ha];exact putSel_on (e:=(3,32,.int .i64 a0_2)) 1 rfl rfl (hon 3 (by kernel_rfl)) rfl
    replace ha:=Aside0.mk ha
    have BK349:=Aside0.mk Q_BK349
    have BK350:=Aside0.mk Q_BK350
    have HB:=Aside0.mk Q_HB
    refine value_ (w1:=w') (v:= .int .i64 (Go.bits .and .i64 a0_2 1)) (by rfl) rfl ?_ ?_
    ·go_simp
     (try simp only[i64_w])
     try rfl
    refine hK.out _ _ ⟨v353,adz_v353,m5_,(by rw[ha.out];exact putSel_upk 2 hb_ rfl rfl rfl),Q_BK349,Q_BK350,Q_HB,Q_HO354,Q_HA_HO354,fun h0_=>absurd ((hoff 5 (by kernel_rfl)).symm.trans h0_) (by decide)⟩
   refine steps_cons ?_ ?_
   ·rintro b a w' ⟨v353,adz_v353,m5_,ha,Q_BK349,Q_BK350,Q_HB,Q_HO354,Q_HA_HO354,Q_X5_⟩ hb_ hon hoff
    refine⟨_,rfl,fun K hK=>?_⟩
    have e30:a.tmps[30]? = some (v353):=by rw[ha];exact putSel_on (e:=(1,30,v353)) 0 rfl rfl (hon 1 (by kernel_rfl)) rfl
    have e33:a.tmps[33]? = some (.int .i64 (Go.bits .and .i64 a0_2 1)):=by rw[ha];exact putSel_on (e:=(4,33,.int .i64 (Go.bits .and .i64 a0_2 1))) 2 rfl rfl (hon 4 (by kernel_rfl)) rfl
    replace ha:=Aside0.mk ha
    have BK349:=Aside0.mk Q_BK349
    have BK350:=Aside0.mk Q_BK350
    have HB:=Aside0.mk Q_HB
    have HO354:=Aside0.mk (Q_HO354 (hon 1 (by kernel_rfl)))
    have HA_HO354:=Aside0.mk (Q_HA_HO354 (hon 1 (by kernel_rfl)))
    obtain⟨c_,hv_⟩:=HA_HO354.out
    rw[hv_] at e30
    refine value_ (w1:=w') (v:= .pointer (some (adz_v353.add ((Go.bits .and .i64 a0_2 1)).toNat))) (by rfl) rfl ?_ ?_
    ·go_simp
     (try simp only[i64_w])
     try rfl
    refine hK.out _ _ ⟨v353,adz_v353,(.pointer (some (adz_v353.add ((Go.bits .and .i64 a0_2 1)).toNat))),(by rw[ha.out];exact putSel_upk 3 hb_ rfl rfl rfl),Q_BK349,Q_BK350,Q_HB,Q_HO354,Q_HA_HO354,fun _=>rfl⟩
   refine steps_cons ?_ ?_
   ·rintro b a w' ⟨v353,adz_v353,m5_,ha,Q_BK349,Q_BK350,Q_HB,Q_HO354,Q_HA_HO354,Q_X5_⟩ hb_ hon hoff
    refine⟨_,rfl,fun K hK=>?_⟩
    have e34:a.tmps[34]? = some (m5_):=by rw[ha];exact putSel_on (e:=(5,34,m5_)) 3 rfl rfl (hon 5 (by kernel_rfl)) rfl
    rw[Q_X5_ (hon 5 (by kernel_rfl))] at e34
    replace ha:=Aside0.mk ha
    have BK349:=Aside0.mk Q_BK349
    have BK350:=Aside0.mk Q_BK350
    have HB:=Aside0.mk Q_HB
    have HO354:=Aside0.mk (Q_HO354 (hon 1 (by kernel_rfl)))
    have HA_HO354:=Aside0.mk (Q_HA_HO354 (hon 1 (by kernel_rfl)))
    obtain⟨c_,hv_⟩:=HA_HO354.out
    have hF_:=HO354.out
    rw[hv_] at hF_
    obtain⟨ad_,ea_,hx_⟩:=Kd.at_string (Kd.R_reads' hF_).2.2 (Go.bits .and .i64 a0_2 1) (of_eq_true pi355) (of_eq_true qi355)
    cases ea_
    refine value_ (w1:=w') (v:= .string (rdOf ByteArray.empty y352 (Go.bits .and .i64 a0_2 1))) (by rfl) rfl ?_ ?_
    ·go_simp
     (try simp only[i64_w])
     try rfl
    refine hK.out _ _ ⟨v353,adz_v353,m5_,(by rw[ha.out];exact putSel_upk 4 hb_ rfl rfl rfl),Q_BK349,Q_BK350,Q_HB,Q_HO354,Q_HA_HO354,Q_X5_⟩
   refine steps_cons ?_ ?_
   ·rintro b a w' ⟨v353,adz_v353,m5_,ha,Q_BK349,Q_BK350,Q_HB,Q_HO354,Q_HA_HO354,Q_X5_⟩ hb_ hon hoff
    refine⟨_,rfl,fun K hK=>?_⟩
    have e29:a.tmps[29]? = some (.string t351):=by rw[ha];exact(putSel_off rfl).trans rfl
    have e35:a.tmps[35]? = some (.string (rdOf ByteArray.empty y352 (Go.bits .and .i64 a0_2 1))):=by rw[ha];exact putSel_on (e:=(6,35,.string (rdOf ByteArray.empty y352 (Go.bits .and .i64 a0_2 1)))) 4 rfl rfl (hon 6 (by kernel_rfl)) rfl
    replace ha:=Aside0.mk ha
    have BK349:=Aside0.mk Q_BK349
    have BK350:=Aside0.mk Q_BK350
    have HB:=Aside0.mk Q_HB
    have HO354:=Aside0.mk (Q_HO354 (hon 1 (by kernel_rfl)))
    have HA_HO354:=Aside0.mk (Q_HA_HO354 (hon 1 (by kernel_rfl)))
    refine value_ (w1:=w') (v:= .string (t351++(rdOf ByteArray.empty y352 (Go.bits .and .i64 a0_2 1)))) (by rfl) rfl ?_ ?_
    ·go_simp
     (try simp only[i64_w])
     try rfl
    refine hK.out _ _ ⟨v353,adz_v353,m5_,(by rw[ha.out];exact putSel_upk 5 hb_ rfl rfl rfl),Q_BK349,Q_BK350,Q_HB,Q_HO354,Q_HA_HO354,Q_X5_⟩
   refine steps_cons ?_ ?_
   ·rintro b a w' ⟨v353,adz_v353,m5_,ha,Q_BK349,Q_BK350,Q_HB,Q_HO354,Q_HA_HO354,Q_X5_⟩ hb_ hon hoff
    refine⟨_,rfl,fun K hK=>?_⟩
    have e37:a.tmps[37]? = some (.pointer (some ⟨gb349,2,none⟩)):=by rw[ha];exact(putSel_off rfl).trans rfl
    replace ha:=Aside0.mk ha
    have BK349:=Aside0.mk Q_BK349
    have BK350:=Aside0.mk Q_BK350
    have HB:=Aside0.mk Q_HB
    have hc0_:w'.cell? ⟨gb349,0,none⟩=some (.int .i64 a0_0):=bc_ BK349 0
    have hc1_:w'.cell? ⟨gb349,1,none⟩=some (.int .i64 a0_1):=bc_ BK349 1
    have hc2_:w'.cell? ⟨gb349,2,none⟩=some (.int .i64 a0_2):=bc_ BK349 2
    have hc3_:w'.cell? ⟨gb349,3,none⟩=some (.int .i64 a0_3):=bc_ BK349 3
    refine value_ (w1:=w') (v:= .int .i64 a0_2) (by rfl) rfl ?_ ?_
    ·go_simp
     (try simp only[i64_w])
     try rfl
    refine hK.out _ _ ⟨v353,adz_v353,m5_,(by rw[ha.out];exact putSel_upk 6 hb_ rfl rfl rfl),Q_BK349,Q_BK350,Q_HB,Q_HO354,Q_HA_HO354,Q_X5_⟩
   refine steps_cons ?_ ?_
   ·rintro b a w' ⟨v353,adz_v353,m5_,ha,Q_BK349,Q_BK350,Q_HB,Q_HO354,Q_HA_HO354,Q_X5_⟩ hb_ hon hoff
    refine⟨_,rfl,fun K hK=>?_⟩
    have e38:a.tmps[38]? = some (.int .i64 a0_2):=by rw[ha];exact putSel_on (e:=(9,38,.int .i64 a0_2)) 6 rfl rfl (hon 9 (by kernel_rfl)) rfl
    replace ha:=Aside0.mk ha
    have BK349:=Aside0.mk Q_BK349
    have BK350:=Aside0.mk Q_BK350
    have HB:=Aside0.mk Q_HB
    refine value_ (w1:=w') (v:= .int .i64 (Go.bits .and .i64 a0_2 4)) (by rfl) rfl ?_ ?_
    ·go_simp
     (try simp only[i64_w])
     try rfl
    refine hK.out _ _ ⟨v353,adz_v353,m5_,(by rw[ha.out];exact putSel_upk 7 hb_ rfl rfl rfl),Q_BK349,Q_BK350,Q_HB,Q_HO354,Q_HA_HO354,Q_X5_⟩
   refine steps_cons ?_ ?_
   ·rintro b a w' ⟨v353,adz_v353,m5_,ha,Q_BK349,Q_BK350,Q_HB,Q_HO354,Q_HA_HO354,Q_X5_⟩ hb_ hon hoff
    refine⟨_,rfl,fun K hK=>?_⟩
    have e39:a.tmps[39]? = some (.int .i64 (Go.bits .and .i64 a0_2 4)):=by rw[ha];exact putSel_on (e:=(10,39,.int .i64 (Go.bits .and .i64 a0_2 4))) 7 rfl rfl (hon 10 (by kernel_rfl)) rfl
    replace ha:=Aside0.mk ha
    have BK349:=Aside0.mk Q_BK349
    have BK350:=Aside0.mk Q_BK350
    have HB:=Aside0.mk Q_HB
    refine value_ (w1:=w') (v:= .int .i64 (wrap64 (3+(Go.bits .and .i64 a0_2 4)))) (by rfl) rfl ?_ ?_
    ·go_simp
     (try simp only[i64_w])
     try rfl
    refine hK.out _ _ ⟨v353,adz_v353,m5_,(by rw[ha.out];exact putSel_upk 8 hb_ rfl rfl rfl),Q_BK349,Q_BK350,Q_HB,Q_HO354,Q_HA_HO354,Q_X5_⟩
   refine steps_cons ?_ ?_
   ·rintro b a w' ⟨v353,adz_v353,m5_,ha,Q_BK349,Q_BK350,Q_HB,Q_HO354,Q_HA_HO354,Q_X5_⟩ hb_ hon hoff
    refine⟨_,rfl,fun K hK=>?_⟩
    have e40:a.tmps[40]? = some (.int .i64 (wrap64 (3+(Go.bits .and .i64 a0_2 4)))):=by rw[ha];exact putSel_on (e:=(11,40,.int .i64 (wrap64 (3+(Go.bits .and .i64 a0_2 4))))) 8 rfl rfl (hon 11 (by kernel_rfl)) rfl
    replace ha:=Aside0.mk ha
    have BK349:=Aside0.mk Q_BK349
    have BK350:=Aside0.mk Q_BK350
    have HB:=Aside0.mk Q_HB
    refine goes_ Tryd.func25 (by kernel_rfl) rfl #[.int .i64 (wrap64 (3+(Go.bits .and .i64 a0_2 4)))] (by rfl) rfl rfl (by first|(simp only[List.map_toArray,List.map_cons,List.map_nil,Act.eval,Array.getD_eq_getD_getElem?,Option.getD_some,e40];done)|(simp only[List.map_toArray,List.map_cons,List.map_nil,Act.eval,Array.getD_eq_getD_getElem?,Option.getD_some,e40];rfl)) ?_
    with_reducible refine(num_Of.calls _ _ _ _ A17.out).mono ?_
    rintro e w23 ⟨rfl,hb⟩
    refine⟨_,rfl,?_⟩
    have n0_:=bb_ BK349 hb
    have n1_:=bb_ BK350 hb
    have n2_:=Aside0.mk (below_step (bl_ HB).out hb)
    have z_HO354:=fun (h0_:b 1=true)=>(show Kd.R Kd.string 9 w23 w.heap.size (fun _=>True) v353 y352 from by first|exact(Kd.R_below (kdR_ (Q_HO354 h0_)) hb)|exact Kd.R_mono (Kd.R_below (kdR_ (Q_HO354 h0_)) hb) (fun _ h_=>by first|trivial|exact h_|exact h_.1))
    clear BK349
    clear BK350
    clear HB
    revert n0_ n1_ n2_
    intro BK349 BK350 HB
    (try clear hb)
    (try clear hb2)
    (try clear hk)
    (try clear hi)
    refine hK.out _ _ ⟨v353,adz_v353,m5_,(by rw[ha.out];exact putSel_upk 9 hb_ rfl rfl rfl),(bk_ BK349).out,(bk_ BK350).out,(bl_ HB).out,z_HO354,Q_HA_HO354,Q_X5_⟩
   refine steps_cons ?_ ?_
   ·rintro b a w' ⟨v353,adz_v353,m5_,ha,Q_BK349,Q_BK350,Q_HB,Q_HO354,Q_HA_HO354,Q_X5_⟩ hb_ hon hoff
    refine⟨_,rfl,fun K hK=>?_⟩
    have e36:a.tmps[36]? = some (.string (t351++(rdOf ByteArray.empty y352 (Go.bits .and .i64 a0_2 1)))):=by rw[ha];exact putSel_on (e:=(7,36,.string (t351++(rdOf ByteArray.empty y352 (Go.bits .and .i64 a0_2 1))))) 5 rfl rfl (hon 7 (by kernel_rfl)) rfl
    have e41:a.tmps[41]? = some (.string t356):=by rw[ha];exact putSel_on (e:=(12,41,.string t356)) 9 rfl rfl (hon 12 (by kernel_rfl)) rfl
    replace ha:=Aside0.mk ha
    have BK349:=Aside0.mk Q_BK349
    have BK350:=Aside0.mk Q_BK350
    have HB:=Aside0.mk Q_HB
    have HO354:=Aside0.mk (Q_HO354 (hon 1 (by kernel_rfl)))
    have HA_HO354:=Aside0.mk (Q_HA_HO354 (hon 1 (by kernel_rfl)))
    refine value_ (w1:=w') (v:= .string ((t351++(rdOf ByteArray.empty y352 (Go.bits .and .i64 a0_2 1)))++t356)) (by rfl) rfl ?_ ?_
    ·go_simp
     (try simp only[i64_w])
     try rfl
    refine hK.out _ _ ⟨v353,adz_v353,m5_,(by rw[ha.out];exact putSel_upk 10 hb_ rfl rfl rfl),Q_BK349,Q_BK350,Q_HB,Q_HO354,Q_HA_HO354,Q_X5_⟩
   refine steps_cons ?_ ?_
   ·rintro b a w' ⟨v353,adz_v353,m5_,ha,Q_BK349,Q_BK350,Q_HB,Q_HO354,Q_HA_HO354,Q_X5_⟩ hb_ hon hoff
    refine⟨_,rfl,fun K hK=>?_⟩
    have e42:a.tmps[42]? = some (.string ((t351++(rdOf ByteArray.empty y352 (Go.bits .and .i64 a0_2 1)))++t356)):=by rw[ha];exact putSel_on (e:=(13,42,.string ((t351++(rdOf ByteArray.empty y352 (Go.bits .and .i64 a0_2 1)))++t356))) 10 rfl rfl (hon 13 (by kernel_rfl)) rfl
    replace ha:=Aside0.mk ha
    have BK349:=Aside0.mk Q_BK349
    have BK350:=Aside0.mk Q_BK350
    have HB:=Aside0.mk Q_HB
    have HO354:=Aside0.mk (Q_HO354 (hon 1 (by kernel_rfl)))
    have HA_HO354:=Aside0.mk (Q_HA_HO354 (hon 1 (by kernel_rfl)))
    refine value_ (w1:=w') (v:= .string ((t351++(rdOf ByteArray.empty y352 (Go.bits .and .i64 a0_2 1)))++t356)) (by rfl) rfl ?_ ?_
    ·go_simp
     (try simp only[i64_w])
     try rfl
    refine hK.out _ _ ⟨v353,adz_v353,m5_,(by rw[ha.out];exact putSel_upk 11 hb_ rfl rfl rfl),Q_BK349,Q_BK350,Q_HB,Q_HO354,Q_HA_HO354,Q_X5_⟩
   exact steps_nil
  rintro b a w27 hall ⟨v353,adz_v353,m5_,ha,Q_BK349,Q_BK350,Q_HB,Q_HO354,Q_HA_HO354,Q_X5_⟩
  clear BK349 BK350 HB
  have hb1_:=hall 1 (by kernel_rfl)
  have hb3_:=hall 3 (by kernel_rfl)
  have hb4_:=hall 4 (by kernel_rfl)
  have hb5_:=hall 5 (by kernel_rfl)
  have hb6_:=hall 6 (by kernel_rfl)
  have hb7_:=hall 7 (by kernel_rfl)
  have hb9_:=hall 9 (by kernel_rfl)
  have hb10_:=hall 10 (by kernel_rfl)
  have hb11_:=hall 11 (by kernel_rfl)
  have hb12_:=hall 12 (by kernel_rfl)
  have hb13_:=hall 13 (by kernel_rfl)
  have hb14_:=hall 14 (by kernel_rfl)
  subst ha
  obtain rfl:=Q_X5_ hb5_
  simp only[putSel,hb1_,hb3_,hb4_,hb5_,hb6_,hb7_,hb9_,hb10_,hb11_,hb12_,hb13_,hb14_,if_true,Act.put,List.setIfInBounds_toArray,List.set_cons_zero,List.set_cons_succ]
  have BK349:=Aside0.mk Q_BK349
  clear Q_BK349
  have BK350:=Aside0.mk Q_BK350
  clear Q_BK350
  have HB:=Aside0.mk Q_HB
  clear Q_HB
  have HO354:=Aside0.mk (Q_HO354 hb1_)
  clear Q_HO354
  have HA_HO354:=Aside0.mk (Q_HA_HO354 hb1_)
  clear Q_HA_HO354
  clear hall hb1_ hb3_ hb4_ hb5_ hb6_ hb7_ hb9_ hb10_ hb11_ hb12_ hb13_ hb14_
  obtain⟨co28,eo28⟩:=HA_HO354.out
  clear HA_HO354
  subst eo28
  try go_wp2_with (first|((with_reducible refine gate_dst (N:=47) rfl ?_);refine Kd.R_lit Kd.string _ 9 ?hg (N:=47) ?hd (xs:=([(t351++(rdOf ByteArray.empty y352 (Go.bits .and .i64 a0_2 1)))++t356]:List ByteArray)) (inner:=[.string ((t351++(rdOf ByteArray.empty y352 (Go.bits .and .i64 a0_2 1)))++t356)]) (ok:=fun _=>True) (okp:=fun _=>True) ?hr ?hp (fun _ hk=>hk) trivial (Below.refl _ _) (Nat.le_refl _) (by simp) ?_;(case hd=>rfl);(case hg=>rfl);(case hr=>first|(go_simp;done)|(go_simp;rfl));(case hp=>exact(Reps.one (show Kd.M Kd.string _ _ _ ((t351++(rdOf ByteArray.empty y352 (Go.bits .and .i64 a0_2 1)))++t356) [.string ((t351++(rdOf ByteArray.empty y352 (Go.bits .and .i64 a0_2 1)))++t356)] from rfl) (Reps.none _ _)));intro v358 w29 ho30 hb hg_ hnew_;clear hg_ hnew_;(first|rw[← Ny357.out] at ho30|(simp only[Int.reduceToNat] at ho30;rw[← Ny357.out] at ho30));have HO359:=Aside0.mk (Kd.R_lower (Kd.R_new' ho30 (kx_ HO354)) (below_size (bl_ HB).out));replace HO354:=ke_ HO354 ho30 hb;replace BK349:=bb_ BK349 hb;replace BK350:=bb_ BK350 hb;replace HB:=Aside0.mk (below_step (bl_ HB).out hb);clear hb ho30;obtain⟨hcz31_0,hcz31_1,hfz31_0,hfz31_1⟩:=bo2_ BK350))
  refine bodyPost_ret (results_ctt rfl _ _ gb350 37 #[.string ((t351++(rdOf ByteArray.empty y352 (Go.bits .and .i64 a0_2 1)))++t356),.string (⟨#[]⟩:ByteArray)] (0,0) _ rfl ((bp_ BK350).out) Tryd.underlying37 rfl (by kernel_rfl)) rfl ?_
  exact⟨_,by first|rfl|(simp[errW_none,errW_some] <;> rfl)|(simp[*,errW_none,errW_some] <;> first|rfl|exact given_isEmpty _|exact(given_isEmpty _).symm),kdR_ (Kd.R_mono (Kd.R_far (Kd.R_far (Kd.R_types HO359.out BK350.out (by decide)) (fun _ hk=>hk.2) _) (fun _ hk=>hk.2) _) (fun _ hk=>trivial)),by repeat(first|(with_reducible first|exact HB.out|apply below_alloc|apply pw_below_drewN|apply below_drew1|refine below_set ?_ GE349.out|refine below_set ?_ GE350.out)|exact HB.out)⟩
 rw[if_neg c13] at H
 have c13b0:decide (4<(Go.bits .and .i64 a0_2 7))=false:=decide_eq_false c13
 clear c13
 by_cases c32:(Go.bits .and .i64 a0_3 31)=0
 ·rw[if_pos c32] at H
  have c32b0:((Go.bits .and .i64 a0_3 31)==0)=true:=beq_iff_eq.mpr c32
  have c32b1:((Go.bits .and .i64 a0_3 31) !=0)=false:=bne_eq_false_iff_eq.mpr c32
  clear c32
  obtain⟨y360,hy360⟩:∃y_:List ByteArray,y_=(([t351]:List ByteArray)):=⟨_,rfl⟩
  replace H:(some (t351,(⟨#[]⟩:ByteArray),t351,y360))=some (r1,r2,r3,r4):=by first|(rw[hy360];with_reducible exact H)|(have H2_:=(Option.bind_some _ _).symm.trans H;rw[hy360];with_reducible exact H2_)|(have H2_:=(Option.bind_some _ _).symm.trans H;with_reducible exact H2_)|with_reducible exact H|(rw[hy360];exact H)|exact H
  have Ny360:=Aside0.mk hy360
  clear hy360
  simp only[Option.some.injEq,Prod.mk.injEq] at H
  obtain⟨rfl,rfl,rfl,rfl⟩:=H
  go_wp2_with (first|((with_reducible refine gate_callee (f:=24) rfl ?_);refine gl_ (some 24) Tryd.func24 #[.int .i64 (Go.bits .and .i64 a0_0 65535),.int .i64 x10_3] ?_;(with_reducible refine(florinlaw08_number.calls _ _ _ _ _ A12.out).mono ?_);rintro e w33 ⟨rfl,hb⟩;refine⟨_,rfl,?_⟩;replace BK349:=bb_ BK349 hb;replace BK350:=bb_ BK350 hb;replace HB:=Aside0.mk (below_step (bl_ HB).out hb);(try clear hb);have hnb34:=NB349_350.out;have hnc34:=NB350_349.out;obtain⟨hcz35_0,hcz35_1,hcz35_2,hcz35_3,hfz35_0,hfz35_1,hfz35_2,hfz35_3⟩:=bo4_ BK349)|((with_reducible refine gate_dst (N:=57) rfl ?_);refine Kd.R_lit Kd.string _ 9 ?hg (N:=57) ?hd (xs:=([t351]:List ByteArray)) (inner:=[.string t351]) (ok:=fun _=>True) (okp:=fun _=>True) ?hr ?hp (fun _ hk=>hk) trivial (Below.refl _ _) (Nat.le_refl _) (by simp) ?_;(case hd=>rfl);(case hg=>rfl);(case hr=>first|(go_simp;done)|(go_simp;rfl));(case hp=>exact(Reps.one (show Kd.M Kd.string _ _ _ t351 [.string t351] from rfl) (Reps.none _ _)));intro v361 w36 ho37 hb hg_ hnew_;clear hg_ hnew_;(first|rw[← Ny360.out] at ho37|(simp only[Int.reduceToNat] at ho37;rw[← Ny360.out] at ho37));have HO362:=Aside0.mk (Kd.R_lower ho37 (below_size (bl_ HB).out));replace BK349:=bb_ BK349 hb;replace BK350:=bb_ BK350 hb;replace HB:=Aside0.mk (below_step (bl_ HB).out hb);clear hb ho37;obtain⟨hcz38_0,hcz38_1,hfz38_0,hfz38_1⟩:=bo2_ BK350))
  refine bodyPost_ret (results_ctt rfl _ _ gb350 37 #[.string t351,.string (⟨#[]⟩:ByteArray)] (0,0) _ rfl ((bp_ BK350).out) Tryd.underlying37 rfl (by kernel_rfl)) rfl ?_
  exact⟨_,by first|rfl|(simp[errW_none,errW_some] <;> rfl)|(simp[*,errW_none,errW_some] <;> first|rfl|exact given_isEmpty _|exact(given_isEmpty _).symm),kdR_ (Kd.R_mono (Kd.R_far (Kd.R_far (Kd.R_types HO362.out BK350.out (by decide)) (fun _ hk=>hk.2) _) (fun _ hk=>hk.2) _) (fun _ hk=>trivial)),by repeat(first|(with_reducible first|exact HB.out|apply below_alloc|apply pw_below_drewN|apply below_drew1|refine below_set ?_ GE349.out|refine below_set ?_ GE350.out)|exact HB.out)⟩
 rw[if_neg c32] at H
 have c32b0:((Go.bits .and .i64 a0_3 31)==0)=false:=beq_eq_false_iff_ne.mpr c32
 have c32b1:((Go.bits .and .i64 a0_3 31) !=0)=true:=bne_iff_ne.mpr c32
 obtain⟨y363,hy363⟩:∃y_:List ByteArray,y_=(([]:List ByteArray)):=⟨_,rfl⟩
 replace H:(florinlaw08_One_item.l0 kj3 a2 (Go.bits .and .i64 a0_0 65535) x10_3 t351 (Go.bits .and .i64 a0_3 31) y363 0)=some (r1,r2,r3,r4):=by first|(rw[hy363];with_reducible exact H)|(have H2_:=(Option.bind_some _ _).symm.trans H;rw[hy363];with_reducible exact H2_)|(have H2_:=(Option.bind_some _ _).symm.trans H;with_reducible exact H2_)|with_reducible exact H|(rw[hy363];exact H)|exact H
 have Ny363:=Aside0.mk hy363
 clear hy363
 have H':=Aside0.mk H
 clear H
 go_wp2_with (first|((with_reducible refine gate_callee (f:=24) rfl ?_);refine gl_ (some 24) Tryd.func24 #[.int .i64 (Go.bits .and .i64 a0_0 65535),.int .i64 x10_3] ?_;(with_reducible refine(florinlaw08_number.calls _ _ _ _ _ A12.out).mono ?_);rintro e w39 ⟨rfl,hb⟩;refine⟨_,rfl,?_⟩;replace BK349:=bb_ BK349 hb;replace BK350:=bb_ BK350 hb;replace HB:=Aside0.mk (below_step (bl_ HB).out hb);(try clear hb);have hnb40:=NB349_350.out;have hnc40:=NB350_349.out;obtain⟨hcz41_0,hcz41_1,hcz41_2,hcz41_3,hfz41_0,hfz41_1,hfz41_2,hfz41_3⟩:=bo4_ BK349)|((with_reducible refine gate_dst (N:=58) rfl ?_);refine Kd.R_lit Kd.string _ 9 ?hg (N:=58) ?hd (xs:=([]:List ByteArray)) (inner:=[]) (ok:=fun _=>True) (okp:=fun _=>True) ?hr ?hp (fun _ hk=>hk) trivial (Below.refl _ _) (Nat.le_refl _) (by simp) ?_;(case hd=>rfl);(case hg=>rfl);(case hr=>first|(go_simp;done)|(go_simp;rfl));(case hp=>exact(Reps.none _ _));intro v364 w42 ho43 hb hg_ hnew_;clear hg_ hnew_;(first|rw[← Ny363.out] at ho43|(simp only[Int.reduceToNat] at ho43;rw[← Ny363.out] at ho43));have HO365:=Aside0.mk (Kd.R_lower ho43 (below_size (bl_ HB).out));replace BK349:=bb_ BK349 hb;replace BK350:=bb_ BK350 hb;replace HB:=Aside0.mk (below_step (bl_ HB).out hb);clear hb ho43))
 go_loopg [13,14] kj3 (fun kq v13 v14 w'=>∃(x13_2:List ByteArray) (x14_2:Int),v14= .int .i64 x14_2∧Aside0 (florinlaw08_One_item.l0 kq a2 (Go.bits .and .i64 a0_0 65535) x10_3 t351 (Go.bits .and .i64 a0_3 31) x13_2 x14_2=some (r1,r2,r3,r4))∧Aside0 (kq≤kj3)∧Aside0 (Kd.R Kd.string 9 w' w.heap.size (fun _=>True) v13 x13_2)∧Aside0 (w'.heap[gb349]? = some (.cells #[.int .i64 a0_0,.int .i64 a0_1,.int .i64 a0_2,.int .i64 a0_3] 55 (0,0)))∧Aside0 (w'.heap[gb350]? = some (.cells #[.string (⟨#[]⟩:ByteArray),.string (⟨#[]⟩:ByteArray)] 37 (0,0)))∧Aside0 (Below w.heap.size w w'))
 case atStart=>exact⟨(y363),(0),eq_,H',⟨Nat.le_refl _⟩,⟨kdR_ HO365.out⟩,(bk_ BK349),(bk_ BK350),(bl_ HB)⟩
 clear H'
 obtain⟨x13_2,x14_2,rfl,HA,HK2,HO_13,BK349,BK350,HB⟩:=hrel
 cases gk with
 | zero=>exact absurd HA.out (by simp[florinlaw08_One_item.l0])
 | succ k2=>?_
 have H:=HA.out
 clear HA
 simp only[florinlaw08_One_item.l0] at H
 by_cases c44:x14_2≤(Go.bits .and .i64 a0_3 31)
 ·rw[if_pos c44] at H
  have c44b0:=decide_eq_true c44
  clear c44
  replace H:=Option.bind_eq_some_iff.mp H
  obtain⟨t366,A450,H⟩:=H
  have A45:=Aside0.mk A450
  clear A450
  replace H:=ifn_ H
  obtain⟨c46,H⟩:=H
  have LMc46:=Aside0.mk c46
  clear c46
  obtain⟨y367,hy367⟩:∃y_:List ByteArray,y_=(x13_2++[t366]):=⟨_,rfl⟩
  replace H:(florinlaw08_One_item.l0 k2 a2 (Go.bits .and .i64 a0_0 65535) x10_3 t351 (Go.bits .and .i64 a0_3 31) y367 (wrap64 (x14_2+1)))=some (r1,r2,r3,r4):=by first|(rw[hy367];with_reducible exact H)|(have H2_:=(Option.bind_some _ _).symm.trans H;rw[hy367];with_reducible exact H2_)|(have H2_:=(Option.bind_some _ _).symm.trans H;with_reducible exact H2_)|with_reducible exact H|(rw[hy367];exact H)|exact H
  have Ny367:=Aside0.mk hy367
  clear hy367
  have H':=Aside0.mk H
  clear H
  go_wp2_with (first|((with_reducible refine gate_callee (f:=24) rfl ?_);refine gl_ (some 69) Tryd.func24 #[.int .i64 (wrap64 ((Go.bits .and .i64 a0_0 65535)+x14_2)),.int .i64 x10_3] ?_;(with_reducible refine(florinlaw08_number.calls _ _ _ _ _ A45.out).mono ?_);rintro e w47 ⟨rfl,hb⟩;refine⟨_,rfl,?_⟩;replace HO_13:=kb_ HO_13 hb;replace BK349:=bb_ BK349 hb;replace BK350:=bb_ BK350 hb;replace HB:=Aside0.mk (below_step (bl_ HB).out hb);(try clear hb);(try clear hi))|((with_reducible refine gate_builtin (b:= .append) (xs:= #[.tmp 64,.tmp 70]) rfl ?_);at_builtin;refine Kd.R_append Kd.string (w0:=w) w.heap.size rfl (.tmp 64) (.tmp 70) 38 9 (.string ⟨#[]⟩) 16 rfl Tryd.underlying38 info9 rfl (by decide) (by omega) u13 x13_2 t366 [.string t366] (fun _=>True) (fun _=>False) rfl rfl ?aP (fun _ hk=>hk.elim) ?aF ?aO ?aB ?aS ?aL ?_;(case aP=>exact rfl);(case aB=>exact(bl_ HB).out);(case aF=>exact(fun _ _=>trivial));(case aO=>exact(kr_ HO_13));(case aS=>exact(below_size (bl_ HB).out));(case aL=>have:=LMc46.out;omega);intro v368 w48 ho hb hg hat;rw[← Ny367.out] at ho;have n0_:=Aside0.mk (blk_grown (bk_ BK349).out hg (Kd.R_ne HO_13.out BK349.out (by decide)));have n1_:=Aside0.mk (blk_grown (bk_ BK350).out hg (Kd.R_ne HO_13.out BK350.out (by decide)));have n2_:=Aside0.mk (hb);have n3_:=Aside0.mk (ho);clear BK349;clear BK350;clear HB;clear HO_13;revert n0_ n1_ n2_ n3_;intro BK349 BK350 HB HO369;clear ho hb hg hat))
  go_roundg k2
  case measure=>have:=HJ3.out;have:=HK2.out;omega
  case rel=>exact⟨(y367),(wrap64 (x14_2+1)),eq_,H',⟨by have:=HJ3.out;have:=HK2.out;omega⟩,⟨kdR_ HO369.out⟩,(bk_ BK349),(bk_ BK350),(bl_ HB)⟩
 rw[if_neg c44] at H
 have c44b0:=decide_eq_false c44
 clear c44
 replace H:=ifn_ H
 obtain⟨c49,H⟩:=H
 have c49b0:decide (0≤(Go.bits .and .i64 a0_3 31))=true:=decide_eq_true c49
 clear c49
 replace H:=ifn_ H
 obtain⟨c50,H⟩:=H
 have c50b0:decide ((Go.bits .and .i64 a0_3 31)<(x13_2.length:Int))=true:=decide_eq_true c50
 clear c50
 replace H:=ifn_ H
 obtain⟨c51,H⟩:=H
 have c51b0:=eq_true c51
 have c51b1:decide (t351.size+a2.size≤9223372036854775807)=true:=decide_eq_true c51
 try have c51b2:=eq_false (Nat.not_lt.2 c51)
 replace H:=ifn_ H
 obtain⟨c52,H⟩:=H
 have c52b0:=eq_true c52
 have c52b1:decide ((t351++a2).size+1≤9223372036854775807)=true:=decide_eq_true c52
 try (have c52b5:=c52b0;simp only[ByteArray.size_append,Int.natCast_add] at c52b5)
 try have c52b2:=eq_false (Nat.not_lt.2 c52)
 try have c52b3:(9223372036854775807<t351.size+a2.size+1)=False:=eq_false (Nat.not_lt.2 (by have h_:=c52;simp only[ByteArray.size_append] at h_;exact h_))
 try have c52b4:(t351.size+a2.size+1≤9223372036854775807)=True:=eq_true (by have h_:=c52;simp only[ByteArray.size_append] at h_;exact h_)
 replace H:=ifn_ H
 obtain⟨c53,H⟩:=H
 have c53b0:=eq_true c53
 have c53b1:decide (((t351++a2)++(⟨#[126]⟩:ByteArray)).size+a2.size≤9223372036854775807)=true:=decide_eq_true c53
 try (have c53b5:=c53b0;simp only[ByteArray.size_append,Int.natCast_add] at c53b5)
 try have c53b2:=eq_false (Nat.not_lt.2 c53)
 try have c53b3:(9223372036854775807<t351.size+a2.size+1+a2.size)=False:=eq_false (Nat.not_lt.2 (by have h_:=c53;simp only[ByteArray.size_append] at h_;exact h_))
 try have c53b4:(t351.size+a2.size+1+a2.size≤9223372036854775807)=True:=eq_true (by have h_:=c53;simp only[ByteArray.size_append] at h_;exact h_)
 replace H:=ifn_ H
 obtain⟨c54,H⟩:=H
 have c54b0:=eq_true c54
 have c54b1:decide ((((t351++a2)++(⟨#[126]⟩:ByteArray))++a2).size+(rdOf ByteArray.empty x13_2 (Go.bits .and .i64 a0_3 31)).size≤9223372036854775807)=true:=decide_eq_true c54
 try (have c54b5:=c54b0;simp only[ByteArray.size_append,Int.natCast_add] at c54b5)
 try have c54b2:=eq_false (Nat.not_lt.2 c54)
 try have c54b3:(9223372036854775807<t351.size+a2.size+1+a2.size+(rdOf ByteArray.empty x13_2 (Go.bits .and .i64 a0_3 31)).size)=False:=eq_false (Nat.not_lt.2 (by have h_:=c54;simp only[ByteArray.size_append] at h_;exact h_))
 try have c54b4:(t351.size+a2.size+1+a2.size+(rdOf ByteArray.empty x13_2 (Go.bits .and .i64 a0_3 31)).size≤9223372036854775807)=True:=eq_true (by have h_:=c54;simp only[ByteArray.size_append] at h_;exact h_)
 simp only[Option.some.injEq,Prod.mk.injEq] at H
 obtain⟨rfl,rfl,rfl,rfl⟩:=H
 try go_wp2
 replace HO_13:=Aside0.mk (Kd.R_drew HO_13.out)
 replace BK349:=Aside0.mk (blk_drew BK349.out)
 replace BK350:=Aside0.mk (blk_drew BK350.out)
 replace HB:=Aside0.mk (below_drew1 HB.out)
 obtain⟨Ao56,co56,eo56⟩:=Kd.R_slice HO_13.out
 (first|subst eo56|(injection eo56 with f1_ f2_ f3_;have f4_:=f1_.symm;have f5_:=f3_.symm;clear f1_ f2_ f3_;subst f4_;subst f5_))
 have p370:0≤((Go.bits .and .i64 a0_3 31):Int):=od_
 have q370:(Go.bits .and .i64 a0_3 31)<(x13_2.length:Int):=od_
 obtain⟨ad370,e370,hx370_0⟩:=Kd.at_string (Kd.R_reads' HO_13.out).2.2 (Go.bits .and .i64 a0_3 31) p370 q370
 cases e370
 replace p370:=eq_true p370
 replace q370:=eq_true q370
 have p371:0≤((Go.bits .and .i64 a0_3 31):Int):=od_
 have q371:(Go.bits .and .i64 a0_3 31)<(x13_2.length:Int):=od_
 obtain⟨ad371,e371,hx371_0⟩:=Kd.at_string (Kd.R_reads' HO_13.out).2.2 (Go.bits .and .i64 a0_3 31) p371 q371
 obtain rfl:ad370=ad371:=(by injection e371)
 replace p371:=eq_true p371
 replace q371:=eq_true q371
 refine start_ (n:=21) (S:=fun w'=>w'.cell? (ad370.add ((Go.bits .and .i64 a0_3 31)).toNat)=some (.string (rdOf ByteArray.empty x13_2 (Go.bits .and .i64 a0_3 31)))∧w'.cell? (ad370.add ((Go.bits .and .i64 a0_3 31)).toNat)=some (.string (rdOf ByteArray.empty x13_2 (Go.bits .and .i64 a0_3 31)))) (ds:=[]) #[false,false,false,false,false,false,false,false,false,false,false,false,false,false,false,false,false,false,false,false,false] (by kernel_rfl) rfl rfl ⟨hx370_0,hx371_0⟩ (fun hHeld=>?_);refine with_tabW florinlaw08_One_item.tab17 florinlaw08_One_item.bits17 (fun HT_ HW_=>?_)
 generalize wr.drew=w55 at HO_13 BK349 BK350 HB hx370_0 hx371_0 hHeld ⊢
 refine pu_ 0 72 (bm_ 21 1) HT_ ?_
 refine pu_ 1 73 (bm_ 21 3) HT_ ?_
 refine pu_ 2 74 (bm_ 21 7) HT_ ?_
 refine pu_ 3 75 (bm_ 21 15) HT_ ?_
 refine pu_ 6 78 (bm_ 21 79) HT_ ?_
 refine pu_ 7 79 (bm_ 21 207) HT_ ?_
 refine pu_ 8 80 (bm_ 21 463) HT_ ?_
 refine pu_ 9 81 (bm_ 21 975) HT_ ?_
 refine pu_ 10 82 (bm_ 21 1999) HT_ ?_
 refine pu_ 11 83 (bm_ 21 4047) HT_ ?_
 refine pu_ 12 84 (bm_ 21 8143) HT_ ?_
 refine pu_ 13 85 (bm_ 21 16335) HT_ ?_
 refine pu_ 14 86 (bm_ 21 32719) HT_ ?_
 refine pu_ 17 89 (bm_ 21 163791) HT_ ?_
 refine tk_ 4 76 (bm_ 21 163807) HT_ HW_ hHeld rfl (by rintro w' ⟨s0,s1⟩;go_simp;with_reducible rfl) ?_
 refine pu_ 5 77 (bm_ 21 163839) HT_ ?_
 refine tk_ 15 87 (bm_ 21 196607) HT_ HW_ hHeld rfl (by rintro w' ⟨s0,s1⟩;go_simp;with_reducible rfl) ?_
 refine pu_ 16 88 (bm_ 21 262143) HT_ ?_
 refine one_ (i:=18) (N:=none) (bm_ 21 524287) rfl rfl (one_of HT_.out (by kernel_rfl)) (by decide) (fun K hK=>?_)
 have hs57:w55.cell? ⟨gb350,0,none⟩=some (.string (⟨#[]⟩:ByteArray)):=bc_ BK350 0
 have hfs57:=blk_frozen BK350.out 0
 have hns57_0:=NB349_350.out
 have hms57_0:=NB350_349.out
 have hs58:w55.cell? ⟨gb350,1,none⟩=some (.string (⟨#[]⟩:ByteArray)):=bc_ BK350 1
 have hfs58:=blk_frozen BK350.out 1
 have hns58_0:=NB349_350.out
 have hms58_0:=NB350_349.out
 refine skip_ (w1:=?_) (by rfl) rfl ?_ ?_
 rotate_left
 ·go_simp
  rfl
 refine hK.out _ _ ⟨((cell_far (p:=⟨gb350,_,none⟩) (by first|exact Kd.own_blk (Kd.R_ne HO_13.out BK350.out (by decide))|(rw[add_block];exact Kd.own_blk (Kd.R_ne HO_13.out BK350.out (by decide)))|(show(Addr.add _ _).block≠_;rw[add_block];exact Kd.own_blk (Kd.R_ne HO_13.out BK350.out (by decide)))|(dsimp only;exact Kd.own_blk (Kd.R_ne HO_13.out BK350.out (by decide)))) _).trans (((cell_far (p:=⟨gb350,_,none⟩) (by first|exact Kd.own_blk (Kd.R_ne HO_13.out BK350.out (by decide))|(rw[add_block];exact Kd.own_blk (Kd.R_ne HO_13.out BK350.out (by decide)))|(show(Addr.add _ _).block≠_;rw[add_block];exact Kd.own_blk (Kd.R_ne HO_13.out BK350.out (by decide)))|(dsimp only;exact Kd.own_blk (Kd.R_ne HO_13.out BK350.out (by decide)))) _).trans (hHeld.1)))),((cell_far (p:=⟨gb350,_,none⟩) (by first|exact Kd.own_blk (Kd.R_ne HO_13.out BK350.out (by decide))|(rw[add_block];exact Kd.own_blk (Kd.R_ne HO_13.out BK350.out (by decide)))|(show(Addr.add _ _).block≠_;rw[add_block];exact Kd.own_blk (Kd.R_ne HO_13.out BK350.out (by decide)))|(dsimp only;exact Kd.own_blk (Kd.R_ne HO_13.out BK350.out (by decide)))) _).trans (((cell_far (p:=⟨gb350,_,none⟩) (by first|exact Kd.own_blk (Kd.R_ne HO_13.out BK350.out (by decide))|(rw[add_block];exact Kd.own_blk (Kd.R_ne HO_13.out BK350.out (by decide)))|(show(Addr.add _ _).block≠_;rw[add_block];exact Kd.own_blk (Kd.R_ne HO_13.out BK350.out (by decide)))|(dsimp only;exact Kd.own_blk (Kd.R_ne HO_13.out BK350.out (by decide)))) _).trans (hHeld.2))))⟩ (fun hHeld=>?_)
 clear hK K
 refine pu_ 19 7 (bm_ 21 1048575) HT_ ?_
 refine pu_ 20 8 (bm_ 21 2097151) HT_ ?_
 refine done_ (done_of HT_.out (by kernel_rfl)) ?_
 try go_wp2
 refine bodyPost_ret (results_ctt rfl _ _ gb350 37 #[.string t351,.string (rdOf ByteArray.empty x13_2 (Go.bits .and .i64 a0_3 31))] (0,0) _ rfl ((bp_ BK350).out) Tryd.underlying37 rfl (by kernel_rfl)) rfl ?_
 exact⟨_,by first|rfl|(simp[errW_none,errW_some] <;> rfl)|(simp[*,errW_none,errW_some] <;> first|rfl|exact given_isEmpty _|exact(given_isEmpty _).symm),kdR_ (Kd.R_mono (Kd.R_far (Kd.R_far (Kd.R_types HO_13.out BK350.out (by decide)) (fun _ hk=>hk.2) _) (fun _ hk=>hk.2) _) (fun _ hk=>trivial)),by repeat(first|(with_reducible first|exact HB.out|apply below_alloc|apply pw_below_drewN|apply below_drew1|refine below_set ?_ GE349.out|refine below_set ?_ GE350.out)|exact HB.out)⟩

end Go.Proofs.YtbhhfpjiacfofaaDoor.P
