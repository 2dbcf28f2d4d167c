import Derived.Test.YtadagjgkanlmdaaGreatDoorPx0
import Derived.Test.YtadagjgkanlmdaaGreatDoorPx1
namespace Go.Proofs.YtadagjgkanlmdaaGreatDoor.P
open Go.RowKit Go.Proofs.YtadagjgkanlmdaaGreatDoorW.PrintWords Go.Proofs.YtadagjgkanlmdaaGreatDoorW.PrintLast Go.Proofs.YtadagjgkanlmdaaGreatDoorW.PrintMore
attribute [local go_sem] max2_int min2_int max_two min_two max_three min_three max_four min_four
set_option maxHeartbeats 64000000
set_option maxRecDepth 100000
set_option linter.unusedVariables false
set_option linter.unusedSimpArgs false

def florinlaw06_Made_cat.f (a0_0:Int) (a0_1:Int) (a0_2:Int) (l0_3:List (List (S46))):Option (Int):=some (wrap64 (Int.tmod (IntKind.u64.wrap (a0_0)) 6))
theorem florinlaw06_Made_cat.calls (a0_0:Int) (a0_1:Int) (a0_2:Int) (A0_3:Option Addr) (c0_3:Nat) (l0_3:List (List (S46))) (r:Int) (w:World) (hr0_3:Kd.C (Kd.slice 46 k46) w A0_3 l0_3.length l0_3) (hc0_3:l0_3.length≤c0_3) (h:florinlaw06_Made_cat.f a0_0 a0_1 a0_2 l0_3=some r) :
    Calls Tryz.prog 27 #[.agg #[.int .i64 a0_0,.int .i64 a0_1,.int .i64 a0_2,.slice A0_3 l0_3.length c0_3]] w fun e w'=>e= .returned (.int .i64 r)∧Below w.heap.size w w':=by
  have hu50:=Tryz.underlying50
  have HR0_3:=am_ hr0_3
  have HC0_3:=am_ hc0_3
  clear hr0_3 hc0_3
  have HB:=am_ (Below.refl w.heap.size w)
  have H:=h
  clear h
  unfold florinlaw06_Made_cat.f at H
  obtain rfl:=Option.some.inj H
  go_enter Tryz.func27,Tryz.ntmps27
  go_wp2_with (first|((with_reducible refine gate_dst (N:=1) rfl ?_);refine be_ 1 #[.int .i64 a0_0,.int .i64 a0_1,.int .i64 a0_2,.slice A0_3 l0_3.length c0_3] 50 ?_;intro gb630 hg w2 hbox hb;have BK630:=am_ (hbox);have GW630:=sz_ HB hg;have GE630:=sz_ HB hg;replace HB:=am_ (below_step (bl_ HB).out hb);clear hb hbox hg;obtain⟨hcz3_0,hcz3_1,hcz3_2,hcz3_3,hfz3_0,hfz3_1,hfz3_2,hfz3_3⟩:=bo4_ BK630))
  go_ret
  exact⟨ew_,(bl_ HB).out⟩

def florinlaw06_gap.f (a0:Int):Option (ByteArray):=(some (([(⟨#[]⟩:ByteArray),(⟨#[32]⟩:ByteArray),(⟨#[32,32]⟩:ByteArray),(⟨#[]⟩:ByteArray)]:List ByteArray):List ByteArray)).bind fun y631=>(if 0≤(Go.bits .and .i64 a0 3) then (if (Go.bits .and .i64 a0 3)<(y631.length:Int) then (some (rdOf ByteArray.empty y631 (Go.bits .and .i64 a0 3))) else (none)) else (none))
theorem florinlaw06_gap.calls (a0:Int) (r:ByteArray) (w:World) (h:florinlaw06_gap.f a0=some r) :
  Calls Tryz.prog 29 #[.int .i64 a0] w fun e w'=>e= .returned (.string r)∧Below w.heap.size w w':=by
 have HB:=am_ (Below.refl w.heap.size w)
 have H:=h
 clear h
 unfold florinlaw06_gap.f at H
 obtain⟨y631,hy631⟩:∃y_:List ByteArray,y_=(([(⟨#[]⟩:ByteArray),(⟨#[32]⟩:ByteArray),(⟨#[32,32]⟩:ByteArray),(⟨#[]⟩:ByteArray)]:List ByteArray)):=⟨_,rfl⟩
 replace H:(if 0≤(Go.bits .and .i64 a0 3) then (if (Go.bits .and .i64 a0 3)<(y631.length:Int) then (some (rdOf ByteArray.empty y631 (Go.bits .and .i64 a0 3))) else (none)) else (none))=some r:=by first|(rw[hy631];with_reducible exact H)|(have H2_:=(Option.bind_some _ _).symm.trans H;rw[hy631];with_reducible exact H2_)|(have H2_:=(Option.bind_some _ _).symm.trans H;with_reducible exact H2_)|with_reducible exact H|(rw[hy631];exact H)|exact H
 have Ny631:=am_ hy631
 clear hy631
 replace H:=ifn_ H
 obtain⟨c2,H⟩:=H
 have c2b0:decide (0≤(Go.bits .and .i64 a0 3))=true:=decide_eq_true c2
 clear c2
 replace H:=ifn_ H
 obtain⟨c3,H⟩:=H
 have c3b0:decide ((Go.bits .and .i64 a0 3)<(y631.length:Int))=true:=decide_eq_true c3
 clear c3
 obtain rfl:=Option.some.inj H
 go_enter Tryz.func29,Tryz.ntmps29
 go_wp2_with (first|((with_reducible refine gate_dst (N:=3) rfl ?_);refine Kd.R_lit Kd.string _ 9 ?hg (N:=3) ?hd (xs:=([(⟨#[]⟩:ByteArray),(⟨#[32]⟩:ByteArray),(⟨#[32,32]⟩:ByteArray),(⟨#[]⟩:ByteArray)]:List ByteArray)) (inner:=[.string (⟨#[]⟩:ByteArray),.string (⟨#[32]⟩:ByteArray),.string (⟨#[32,32]⟩:ByteArray),.string (⟨#[]⟩:ByteArray)]) (ok:=fun _=>True) (okp:=fun _=>True) ?hr ?hp (fun _ hk=>hk) trivial (Below.refl _ _) (Nat.le_refl _) (by simp) ?_;(case hd=>rfl);(case hg=>rfl);(case hr=>first|(go_simp;done)|(go_simp;rfl));(case hp=>exact(Reps.one (show Kd.M Kd.string _ _ _ (⟨#[]⟩:ByteArray) [.string (⟨#[]⟩:ByteArray)] from rfl) (Reps.one (show Kd.M Kd.string _ _ _ (⟨#[32]⟩:ByteArray) [.string (⟨#[32]⟩:ByteArray)] from rfl) (Reps.one (show Kd.M Kd.string _ _ _ (⟨#[32,32]⟩:ByteArray) [.string (⟨#[32,32]⟩:ByteArray)] from rfl) (Reps.one (show Kd.M Kd.string _ _ _ (⟨#[]⟩:ByteArray) [.string (⟨#[]⟩:ByteArray)] from rfl) (Reps.none _ _))))));intro v632 w4 ho5 hb hg_ hnew_;clear hg_ hnew_;(first|rw[← Ny631.out] at ho5|(simp only[Int.reduceToNat] at ho5;rw[← Ny631.out] at ho5));have HO633:=am_ (Kd.R_lower ho5 (below_size (bl_ HB).out));replace HB:=am_ (below_step (bl_ HB).out hb);clear hb ho5;obtain⟨Ao6,co6,eo6⟩:=Kd.R_slice HO633.out;subst eo6;have p634:0≤((Go.bits .and .i64 a0 3):Int):=od_;have q634:(Go.bits .and .i64 a0 3)<(y631.length:Int):=od_;obtain⟨ad634,e634,hx634_0⟩:=Kd.at_string (Kd.R_reads' HO633.out).2.2 (Go.bits .and .i64 a0 3) p634 q634;cases e634;replace p634:=eq_true p634;replace q634:=eq_true q634))
 go_ret
 exact⟨ew_,(bl_ HB).out⟩

def florinlaw06_digits.f (k:Nat) (a0:Int):Option (ByteArray):=if a0=0 then (some (⟨#[48]⟩:ByteArray)) else ((num_Of.f k a0).bind fun t635=>(some t635))
theorem florinlaw06_digits.calls (k:Nat) (a0:Int) (r:ByteArray) (w:World) (h:florinlaw06_digits.f k a0=some r) :
    Calls Tryz.prog 79 #[.int .i64 a0] w fun e w'=>e= .returned (.string r)∧Below w.heap.size w w':=by
  have HB:=am_ (Below.refl w.heap.size w)
  have H:=h
  clear h
  unfold florinlaw06_digits.f at H
  by_cases c2:a0=0
  · rw[if_pos c2] at H
    have c2b0:(a0==0)=true:=beq_iff_eq.mpr c2
    have c2b1:(a0 !=0)=false:=bne_eq_false_iff_eq.mpr c2
    clear c2
    obtain rfl:=Option.some.inj H
    go_enter Tryz.func79,Tryz.ntmps79
    go_wp2
    go_ret
    exact⟨ew_,(bl_ HB).out⟩
  rw[if_neg c2] at H
  have c2b0:(a0==0)=false:=beq_eq_false_iff_ne.mpr c2
  have c2b1:(a0 !=0)=true:=bne_iff_ne.mpr c2
  replace H:=Option.bind_eq_some_iff.mp H
  obtain⟨t635,A30,H⟩:=H
  have A3:=am_ A30
  clear A30
  obtain rfl:=Option.some.inj H
  go_enter Tryz.func79,Tryz.ntmps79
  go_wp2_with (first|((with_reducible refine gate_callee (f:=19) rfl ?_);refine gl_ (some 6) Tryz.func19 #[.int .i64 a0] ?_;(with_reducible refine(num_Of.calls _ _ _ _ A3.out).mono ?_);rintro e w4 ⟨rfl,hb⟩;refine⟨_,rfl,?_⟩;replace HB:=am_ (below_step (bl_ HB).out hb);(try clear hb);(try clear hi)))
  go_ret
  exact⟨ew_,(bl_ HB).out⟩

mutual
def florinlaw06_Relation_relation.j0:Nat→ByteArray→ByteArray→Int→Int→Int→Bool→List (S139)→Int→Int→Bool→Option (Int × Int × Bool × (List (S57)) × ByteArray)
 | 0,_,_,_,_,_,_,_,_,_,_=>none
 | k+1,x5,x6,x637000,x637001,x637002,x637003,x637004,x639000,x639001,x639002=>if x639002=true then (if x6.size+1≤9223372036854775807 then (florinlaw06_Relation_relation.j1 k x5 (x6++(⟨#[33]⟩:ByteArray)) x637000 x637001 x637002 x637003 x637004 x639000 x639001 x639002) else (none)) else (florinlaw06_Relation_relation.j1 k x5 x6 x637000 x637001 x637002 x637003 x637004 x639000 x639001 x639002)
def florinlaw06_Relation_relation.j1:Nat→ByteArray→ByteArray→Int→Int→Int→Bool→List (S139)→Int→Int→Bool→Option (Int × Int × Bool × (List (S57)) × ByteArray)
 | 0,_,_,_,_,_,_,_,_,_,_=>none
 | k+1,x5,x6,x637000,x637001,x637002,x637003,x637004,x639000,x639001,x639002=>if x6.size+1≤9223372036854775807 then (if (x6++(⟨#[61]⟩:ByteArray)).size+x5.size≤9223372036854775807 then ((some (([]:List (S139)):List (S139))).bind fun y644=>(if y644.length+x637004.length<8796093022208 then ((some (y644++x637004:List (S139))).bind fun y647=>(if (y647.length:Int)=0 then (if y647.length<8796093022208 then (florinlaw06_Relation_relation.j2 k x5 ((x6++(⟨#[61]⟩:ByteArray))++x5) (y647++[(⟨0,0⟩:S139)]) x639000 x639001 x639002) else (none)) else (florinlaw06_Relation_relation.j2 k x5 ((x6++(⟨#[61]⟩:ByteArray))++x5) y647 x639000 x639001 x639002))) else (none))) else (none)) else (none)
def florinlaw06_Relation_relation.j2:Nat→ByteArray→ByteArray→List (S139)→Int→Int→Bool→Option (Int × Int × Bool × (List (S57)) × ByteArray)
 | 0,_,_,_,_,_,_=>none
 | k+1,x5,x6,x7,x639000,x639001,x639002=>florinlaw06_Relation_relation.l0 k x5 x6 x7 (x7.length:Int) 0 x639000 x639001 x639002 ([]:List (S57))
def florinlaw06_Relation_relation.l0:Nat→ByteArray→ByteArray→List (S139)→Int→Int→Int→Int→Bool→List (S57)→Option (Int × Int × Bool × (List (S57)) × ByteArray)
 | 0,_,_,_,_,_,_,_,_,_=>none
 | k+1,x5,x6,x62,x63,x64,x639000,x639001,x639002,x639003=>if x64<x63 then (if 0≤x64 then (if x64<(x62.length:Int) then (if x639003.length<8796093022208 then ((some (x639003++[(⟨Go.bits .and .i64 ((rd_T139 x62 x64).f0) 1048575,wrap64 ((Go.bits .and .i64 ((rd_T139 x62 x64).f0) 1048575)+(Go.bits .and .i64 ((rd_T139 x62 x64).f1) 3))⟩:S57)]:List (S57))).bind fun y656=>(if x64>0 then (if x6.size+x5.size≤9223372036854775807 then (if (x6++x5).size+1≤9223372036854775807 then (if ((x6++x5)++(⟨#[44]⟩:ByteArray)).size+x5.size≤9223372036854775807 then (florinlaw06_Relation_relation.j4 k x5 (((x6++x5)++(⟨#[44]⟩:ByteArray))++x5) x62 x63 x64 x639000 x639001 x639002 y656 ((rd_T139 x62 x64).f0) ((rd_T139 x62 x64).f1) (Go.bits .and .i64 ((rd_T139 x62 x64).f0) 1048575) (wrap64 ((Go.bits .and .i64 ((rd_T139 x62 x64).f0) 1048575)+(Go.bits .and .i64 ((rd_T139 x62 x64).f1) 3)))) else (none)) else (none)) else (none)) else (florinlaw06_Relation_relation.j4 k x5 x6 x62 x63 x64 x639000 x639001 x639002 y656 ((rd_T139 x62 x64).f0) ((rd_T139 x62 x64).f1) (Go.bits .and .i64 ((rd_T139 x62 x64).f0) 1048575) (wrap64 ((Go.bits .and .i64 ((rd_T139 x62 x64).f0) 1048575)+(Go.bits .and .i64 ((rd_T139 x62 x64).f1) 3)))))) else (none)) else (none)) else (none)) else (some (x639000,x639001,x639002,x639003,x6))
def florinlaw06_Relation_relation.j4:Nat→ByteArray→ByteArray→List (S139)→Int→Int→Int→Int→Bool→List (S57)→Int→Int→Int→Int→Option (Int × Int × Bool × (List (S57)) × ByteArray)
 | 0,_,_,_,_,_,_,_,_,_,_,_,_,_=>none
 | k+1,x5,x6,x62,x63,x64,x639000,x639001,x639002,x639003,x655000,x655001,x656000,x656001=>(florinlaw06_digits.f k x656000).bind fun t659=>(if x6.size+t659.size≤9223372036854775807 then (if x656000=x656001 then (if (Go.bits .and .i64 x655001 4)=4 then (if (x6++t659).size+x5.size≤9223372036854775807 then (if ((x6++t659)++x5).size+2≤9223372036854775807 then (if (((x6++t659)++x5)++(⟨#[46,46]⟩:ByteArray)).size+x5.size≤9223372036854775807 then ((florinlaw06_digits.f k x656001).bind fun t660=>(if ((((x6++t659)++x5)++(⟨#[46,46]⟩:ByteArray))++x5).size+t660.size≤9223372036854775807 then (florinlaw06_Relation_relation.l0 k x5 (((((x6++t659)++x5)++(⟨#[46,46]⟩:ByteArray))++x5)++t660) x62 x63 (wrap64 (x64+1)) x639000 x639001 x639002 x639003) else (none))) else (none)) else (none)) else (none)) else (florinlaw06_Relation_relation.l0 k x5 (x6++t659) x62 x63 (wrap64 (x64+1)) x639000 x639001 x639002 x639003)) else (if (x6++t659).size+x5.size≤9223372036854775807 then (if ((x6++t659)++x5).size+2≤9223372036854775807 then (if (((x6++t659)++x5)++(⟨#[46,46]⟩:ByteArray)).size+x5.size≤9223372036854775807 then ((florinlaw06_digits.f k x656001).bind fun t661=>(if ((((x6++t659)++x5)++(⟨#[46,46]⟩:ByteArray))++x5).size+t661.size≤9223372036854775807 then (florinlaw06_Relation_relation.l0 k x5 (((((x6++t659)++x5)++(⟨#[46,46]⟩:ByteArray))++x5)++t661) x62 x63 (wrap64 (x64+1)) x639000 x639001 x639002 x639003) else (none))) else (none)) else (none)) else (none))) else (none))
end
def florinlaw06_Relation_relation.f (k:Nat) (a0_0:Int) (a0_1:Int) (a0_2:Int) (a0_3:Bool) (l0_4:List (S139)):Option (Int × Int × Bool × (List (S57)) × ByteArray):=if 0≤(Go.bits .and .i64 a0_0 7) then (if (Go.bits .and .i64 a0_0 7)<8 then ((florinlaw06_gap.f a0_2).bind fun t639=>((some (([bt (⟨#[110,105,118,119,102,116,99,101]⟩:ByteArray) (Go.bits .and .i64 a0_0 7)]:List Int):List Int)).bind fun y640=>(if (strOfNums y640).size+t639.size≤9223372036854775807 then (if (Go.bits .and .i64 a0_1 65535)=0 then (florinlaw06_Relation_relation.j0 k t639 ((strOfNums y640)++t639) a0_0 a0_1 a0_2 a0_3 l0_4 (bt (⟨#[110,105,118,119,102,116,99,101]⟩:ByteArray) (Go.bits .and .i64 a0_0 7)) (Go.bits .and .i64 a0_1 65535) a0_3) else (if ((strOfNums y640)++t639).size+1≤9223372036854775807 then (if (((strOfNums y640)++t639)++(⟨#[37]⟩:ByteArray)).size+t639.size≤9223372036854775807 then ((florinlaw06_digits.f k (Go.bits .and .i64 a0_1 65535)).bind fun t643=>(if ((((strOfNums y640)++t639)++(⟨#[37]⟩:ByteArray))++t639).size+t643.size≤9223372036854775807 then (if (((((strOfNums y640)++t639)++(⟨#[37]⟩:ByteArray))++t639)++t643).size+t639.size≤9223372036854775807 then (florinlaw06_Relation_relation.j0 k t639 ((((((strOfNums y640)++t639)++(⟨#[37]⟩:ByteArray))++t639)++t643)++t639) a0_0 a0_1 a0_2 a0_3 l0_4 (bt (⟨#[110,105,118,119,102,116,99,101]⟩:ByteArray) (Go.bits .and .i64 a0_0 7)) (Go.bits .and .i64 a0_1 65535) a0_3) else (none)) else (none))) else (none)) else (none))) else (none)))) else (none)) else (none)
def florinlaw06_Relation_relation.T1:Bool × List (List Nat × List Nat):=(true,[([],[]),([0],[0]),([1],[1]),([2],[2]),([],[]),([4],[4]),([5],[5]),([],[]),([7],[7]),([3,6,8],[3,6,8]),([],[]),([10,9,0,1,2,3,4,5,6,7,8,9,10],[9,10])])
def florinlaw06_Relation_relation.B1:List Nat:=[0,1,3,7,0,16,48,0,128,511,0,2047]
theorem florinlaw06_Relation_relation.tab1:rtab .any (opsOf Tryz.f50 1)=florinlaw06_Relation_relation.T1:=by kernel_rfl
theorem florinlaw06_Relation_relation.bits1:waitsOk florinlaw06_Relation_relation.T1.2 florinlaw06_Relation_relation.B1=true:=by kernel_rfl
theorem florinlaw06_Relation_relation.calls (k:Nat) (a0_0:Int) (a0_1:Int) (a0_2:Int) (a0_3:Bool) (A0_4:Option Addr) (c0_4:Nat) (l0_4:List (S139)) (r1:Int) (r2:Int) (r3:Bool) (r4:List (S57)) (r5:ByteArray) (w:World) (hr0_4:Kd.C k139 w A0_4 l0_4.length l0_4) (hc0_4:l0_4.length≤c0_4) (h:florinlaw06_Relation_relation.f k a0_0 a0_1 a0_2 a0_3 l0_4=some (r1,r2,r3,r4,r5)) :
  Calls Tryz.prog 50 #[.agg #[.int .i64 a0_0,.int .i64 a0_1,.int .i64 a0_2,.bool a0_3,.slice A0_4 l0_4.length c0_4]] w fun e w'=>∃v3_:Value,e= .returned (.tuple #[.agg #[.int .u8 r1,.int .i64 r2,.bool r3,v3_],.string r5])∧Kd.R k57 57 w' w.heap.size (fun _=>True) v3_ r4∧Below w.heap.size w w':=by
 have hu46:=Tryz.underlying46
 have hu53:=Tryz.underlying53
 have hu139:=Tryz.underlying139
 have hu57:=Tryz.underlying57
 have HR0_4:=am_ hr0_4
 have HC0_4:=am_ hc0_4
 clear hr0_4 hc0_4
 have HB:=am_ (Below.refl w.heap.size w)
 have H:=h
 clear h
 unfold florinlaw06_Relation_relation.f at H
 replace H:=ifn_ H
 obtain⟨c2,H⟩:=H
 have c2b0:decide (0≤(Go.bits .and .i64 a0_0 7))=true:=decide_eq_true c2
 clear c2
 replace H:=ifn_ H
 obtain⟨c3,H⟩:=H
 have c3b0:decide ((Go.bits .and .i64 a0_0 7)<8)=true:=decide_eq_true c3
 clear c3
 replace H:=Option.bind_eq_some_iff.mp H
 obtain⟨t639,A50,H⟩:=H
 have A5:=am_ A50
 clear A50
 obtain⟨y640,hy640⟩:∃y_:List Int,y_=(([bt (⟨#[110,105,118,119,102,116,99,101]⟩:ByteArray) (Go.bits .and .i64 a0_0 7)]:List Int)):=⟨_,rfl⟩
 replace H:(if (strOfNums y640).size+t639.size≤9223372036854775807 then (if (Go.bits .and .i64 a0_1 65535)=0 then (florinlaw06_Relation_relation.j0 k t639 ((strOfNums y640)++t639) a0_0 a0_1 a0_2 a0_3 l0_4 (bt (⟨#[110,105,118,119,102,116,99,101]⟩:ByteArray) (Go.bits .and .i64 a0_0 7)) (Go.bits .and .i64 a0_1 65535) a0_3) else (if ((strOfNums y640)++t639).size+1≤9223372036854775807 then (if (((strOfNums y640)++t639)++(⟨#[37]⟩:ByteArray)).size+t639.size≤9223372036854775807 then ((florinlaw06_digits.f k (Go.bits .and .i64 a0_1 65535)).bind fun t643=>(if ((((strOfNums y640)++t639)++(⟨#[37]⟩:ByteArray))++t639).size+t643.size≤9223372036854775807 then (if (((((strOfNums y640)++t639)++(⟨#[37]⟩:ByteArray))++t639)++t643).size+t639.size≤9223372036854775807 then (florinlaw06_Relation_relation.j0 k t639 ((((((strOfNums y640)++t639)++(⟨#[37]⟩:ByteArray))++t639)++t643)++t639) a0_0 a0_1 a0_2 a0_3 l0_4 (bt (⟨#[110,105,118,119,102,116,99,101]⟩:ByteArray) (Go.bits .and .i64 a0_0 7)) (Go.bits .and .i64 a0_1 65535) a0_3) else (none)) else (none))) else (none)) else (none))) else (none))=some (r1,r2,r3,r4,r5):=by first|(rw[hy640];with_reducible exact H)|(have H2_:=(Option.bind_some _ _).symm.trans H;rw[hy640];with_reducible exact H2_)|(have H2_:=(Option.bind_some _ _).symm.trans H;with_reducible exact H2_)|with_reducible exact H|(rw[hy640];exact H)|exact H
 have Ny640:=am_ hy640
 clear hy640
 replace H:=ifn_ H
 obtain⟨c6,H⟩:=H
 have c6b0:=eq_true c6
 have c6b1:decide ((strOfNums y640).size+t639.size≤9223372036854775807)=true:=decide_eq_true c6
 try have c6b2:=eq_false (Nat.not_lt.2 c6)
 have HC7:=am_ H
 clear H
 go_enter Tryz.func50,Tryz.ntmps50
 try go_wp2_with (first|((with_reducible refine gate_dst (N:=1) rfl ?_);refine be_ 1 #[.int .i64 a0_0,.int .i64 a0_1,.int .i64 a0_2,.bool a0_3,.slice A0_4 l0_4.length c0_4] 46 ?_;intro gb636 hg w8 hbox hb;have BK636:=am_ (hbox);have GW636:=sz_ HB hg;have GE636:=sz_ HB hg;replace HB:=am_ (below_step (bl_ HB).out hb);clear hb hbox hg)|((with_reducible refine gate_dst (N:=2) rfl ?_);refine be_ 2 #[.int .u8 0,.int .i64 0,.bool false,.slice none 0 0] 53 ?_;intro gb637 hg w9 hbox hb;have BK637:=am_ (hbox);have GW637:=sz_ HB hg;have GE637:=sz_ HB hg;have NB636_637:=na_ BK636 hg;have NB637_636:=nb_ BK636 hg;replace BK636:=bb_ BK636 hb;replace HB:=am_ (below_step (bl_ HB).out hb);clear hb hbox hg))
 replace BK636:=am_ (blk_drew BK636.out)
 replace BK637:=am_ (blk_drew BK637.out)
 replace HB:=am_ (below_drew1 HB.out)
 have p4:0≤((Go.bits .and .i64 a0_0 7):Int):=od_
 have q4:(Go.bits .and .i64 a0_0 7)<(8:Int):=od_
 have hx4:=bt_at (⟨#[110,105,118,119,102,116,99,101]⟩:ByteArray) (Go.bits .and .i64 a0_0 7)
 replace p4:=eq_true p4
 replace q4:=eq_true q4
 refine start_ (n:=12) (S:=fun w'=>w'.cell? ⟨gb636,0,none⟩=some (.int .i64 a0_0)∧w'.cell? ⟨gb636,1,none⟩=some (.int .i64 a0_1)∧w'.cell? ⟨gb636,2,none⟩=some (.int .i64 a0_2)∧w'.cell? ⟨gb636,3,none⟩=some (.bool a0_3)∧w'.cell? ⟨gb636,4,none⟩=some (.slice A0_4 l0_4.length c0_4)) (ds:=[]) #[false,false,false,false,false,false,false,false,false,false,false,false] (by kernel_rfl) rfl rfl ⟨bc_ BK636 0,bc_ BK636 1,bc_ BK636 2,bc_ BK636 3,bc_ BK636 4⟩ (fun hHeld=>?_);refine with_tabW florinlaw06_Relation_relation.tab1 florinlaw06_Relation_relation.bits1 (fun HT_ HW_=>?_)
 generalize w9.drew=w10 at BK636 BK637 HB hHeld ⊢
 refine pu_ 0 11 (bm_ 12 1) HT_ ?_
 refine pu_ 4 15 (bm_ 12 17) HT_ ?_
 refine pu_ 7 18 (bm_ 12 145) HT_ ?_
 refine tk_ 1 12 (bm_ 12 147) HT_ HW_ hHeld rfl (by rintro w' ⟨s0,s1,s2,s3,s4⟩;go_simp;with_reducible rfl) ?_
 refine pu_ 2 13 (bm_ 12 151) HT_ ?_
 refine tk_ 3 14 (bm_ 12 159) HT_ HW_ hHeld rfl (by rintro w' ⟨s0,s1,s2,s3,s4⟩;go_simp;with_reducible rfl) ?_
 refine tk_ 5 16 (bm_ 12 191) HT_ HW_ hHeld rfl (by rintro w' ⟨s0,s1,s2,s3,s4⟩;go_simp;with_reducible rfl) ?_
 refine pu_ 6 17 (bm_ 12 255) HT_ ?_
 refine tk_ 8 19 (bm_ 12 511) HT_ HW_ hHeld rfl (by rintro w' ⟨s0,s1,s2,s3,s4⟩;go_simp;with_reducible rfl) ?_
 refine pu_ 9 20 (bm_ 12 1023) HT_ ?_
 refine one_ (i:=10) (N:=some 4) (bm_ 12 2047) rfl rfl (one_of HT_.out (by kernel_rfl)) (by decide) (fun K hK=>?_)
 refine box_step ?hg (N:=4) ?hd (cs:= #[.int .u8 0,.int .i64 0,.bool false,.slice none 0 0]) (t:=53) ?hr ?_;(case hd=>rfl);(case hg=>rfl);(case hr=>first|(go_simp;done)|(go_simp;rfl))
 intro gb638 hg w11 hbox hb
 have n0_:=bb_ BK636 hb
 have n1_:=bb_ BK637 hb
 have n2_:=am_ (below_step (bl_ HB).out hb)
 have n3_:=am_ (hbox)
 have n4_:=sz_ HB hg
 have n5_:=sz_ HB hg
 have n6_:=na_ BK636 hg
 have n7_:=nb_ BK636 hg
 have n8_:=na_ BK637 hg
 have n9_:=nb_ BK637 hg
 clear BK636
 clear BK637
 clear HB
 revert n0_ n1_ n2_ n3_ n4_ n5_ n6_ n7_ n8_ n9_
 intro BK636 BK637 HB BK638 GW638 GE638 NB636_638 NB638_636 NB637_638 NB638_637
 clear hb hbox hg
 refine hK.out _ _ ⟨bc_ BK636 0,bc_ BK636 1,bc_ BK636 2,bc_ BK636 3,bc_ BK636 4⟩ (fun hHeld=>?_)
 clear hK K
 refine nm_ 4 ?_
 refine one_ (i:=11) (N:=none) (bm_ 12 4095) rfl rfl (one_of HT_.out (by kernel_rfl)) (by decide) (fun K hK=>?_)
 have hs12:w11.cell? ⟨gb638,0,none⟩=some (.int .u8 0):=bc_ BK638 0
 have hfs12:=blk_frozen BK638.out 0
 have hns12_0:=NB636_638.out
 have hns12_1:=NB637_638.out
 have hms12_0:=NB638_636.out
 have hms12_1:=NB638_637.out
 have hs13:w11.cell? ⟨gb638,1,none⟩=some (.int .i64 0):=bc_ BK638 1
 have hfs13:=blk_frozen BK638.out 1
 have hns13_0:=NB636_638.out
 have hns13_1:=NB637_638.out
 have hms13_0:=NB638_636.out
 have hms13_1:=NB638_637.out
 have hs14:w11.cell? ⟨gb638,2,none⟩=some (.bool false):=bc_ BK638 2
 have hfs14:=blk_frozen BK638.out 2
 have hns14_0:=NB636_638.out
 have hns14_1:=NB637_638.out
 have hms14_0:=NB638_636.out
 have hms14_1:=NB638_637.out
 have hs15:w11.cell? ⟨gb638,3,none⟩=some (.slice none 0 0):=bc_ BK638 3
 have hfs15:=blk_frozen BK638.out 3
 have hns15_0:=NB636_638.out
 have hns15_1:=NB637_638.out
 have hms15_0:=NB638_636.out
 have hms15_1:=NB638_637.out
 refine skip_ (w1:=?_) (by rfl) rfl ?_ ?_
 rotate_left
 ·go_simp
  rfl
 refine hK.out _ _ ⟨((cell_far (p:=⟨gb638,_,none⟩) NB636_638.out _).trans (((cell_far (p:=⟨gb638,_,none⟩) NB636_638.out _).trans (((cell_far (p:=⟨gb638,_,none⟩) NB636_638.out _).trans (((cell_far (p:=⟨gb638,_,none⟩) NB636_638.out _).trans (hHeld.1)))))))),((cell_far (p:=⟨gb638,_,none⟩) NB636_638.out _).trans (((cell_far (p:=⟨gb638,_,none⟩) NB636_638.out _).trans (((cell_far (p:=⟨gb638,_,none⟩) NB636_638.out _).trans (((cell_far (p:=⟨gb638,_,none⟩) NB636_638.out _).trans (hHeld.2.1)))))))),((cell_far (p:=⟨gb638,_,none⟩) NB636_638.out _).trans (((cell_far (p:=⟨gb638,_,none⟩) NB636_638.out _).trans (((cell_far (p:=⟨gb638,_,none⟩) NB636_638.out _).trans (((cell_far (p:=⟨gb638,_,none⟩) NB636_638.out _).trans (hHeld.2.2.1)))))))),((cell_far (p:=⟨gb638,_,none⟩) NB636_638.out _).trans (((cell_far (p:=⟨gb638,_,none⟩) NB636_638.out _).trans (((cell_far (p:=⟨gb638,_,none⟩) NB636_638.out _).trans (((cell_far (p:=⟨gb638,_,none⟩) NB636_638.out _).trans (hHeld.2.2.2.1)))))))),((cell_far (p:=⟨gb638,_,none⟩) NB636_638.out _).trans (((cell_far (p:=⟨gb638,_,none⟩) NB636_638.out _).trans (((cell_far (p:=⟨gb638,_,none⟩) NB636_638.out _).trans (((cell_far (p:=⟨gb638,_,none⟩) NB636_638.out _).trans (hHeld.2.2.2.2))))))))⟩ (fun hHeld=>?_)
 clear hK K
 refine done_ (done_of HT_.out (by kernel_rfl)) ?_
 have hnb16:=NB636_637.out
 have hnc16:=NB637_636.out
 have hnb17:=NB636_638.out
 have hnc17:=NB638_636.out
 obtain⟨hcz18_0,hcz18_1,hcz18_2,hcz18_3,hcz18_4,hfz18_0,hfz18_1,hfz18_2,hfz18_3,hfz18_4⟩:=bo5_ BK636
 go_upto_if 32 with (first|((with_reducible refine gate_callee (f:=29) rfl ?_);refine gl_ (some 23) Tryz.func29 #[.int .i64 a0_2] ?_;(with_reducible refine(florinlaw06_gap.calls _ _ _ A5.out).mono ?_);rintro e w19 ⟨rfl,hb⟩;refine⟨_,rfl,?_⟩;have n0_:=bz_ BK636 hb;have n1_:=bz_ BK637 hb;have n2_:=am_ (blk_below (g:=gb638) (o:= .cells #[.int .u8 (bt (⟨#[110,105,118,119,102,116,99,101]⟩:ByteArray) (Go.bits .and .i64 a0_0 7)),.int .i64 (Go.bits .and .i64 a0_1 65535),.bool a0_3,.slice none 0 0] 53 (0,0)) ((bp_ BK638).out) hb);have n3_:=am_ (below_step (bl_ HB).out hb);clear BK636;clear BK637;clear BK638;clear HB;revert n0_ n1_ n2_ n3_;intro BK636 BK637 BK638 HB;(try clear hb);have hnb20:=NB638_637.out;have hnc20:=NB637_638.out;obtain⟨hcz21_0,hcz21_1,hcz21_2,hcz21_3,hfz21_0,hfz21_1,hfz21_2,hfz21_3⟩:=bo4_ BK638)|((with_reducible refine gate_dst (N:=26) rfl ?_);refine Kd.R_lit (Kd.int .u8) _ 5 ?hg (N:=26) ?hd (xs:=([bt (⟨#[110,105,118,119,102,116,99,101]⟩:ByteArray) (Go.bits .and .i64 a0_0 7)]:List Int)) (inner:=[.int .u8 (bt (⟨#[110,105,118,119,102,116,99,101]⟩:ByteArray) (Go.bits .and .i64 a0_0 7))]) (ok:=fun _=>True) (okp:=fun _=>True) ?hr ?hp (fun _ hk=>hk) trivial (Below.refl _ _) (Nat.le_refl _) (by simp) ?_;(case hd=>rfl);(case hg=>rfl);(case hr=>first|(go_simp;done)|(go_simp;rfl));(case hp=>exact(Reps.one (show Kd.M (Kd.int .u8) _ _ _ (bt (⟨#[110,105,118,119,102,116,99,101]⟩:ByteArray) (Go.bits .and .i64 a0_0 7)) [.int .u8 (bt (⟨#[110,105,118,119,102,116,99,101]⟩:ByteArray) (Go.bits .and .i64 a0_0 7))] from rfl) (Reps.none _ _)));intro v641 w22 ho23 hb hg_ hnew_;clear hg_ hnew_;(first|rw[← Ny640.out] at ho23|(simp only[Int.reduceToNat] at ho23;rw[← Ny640.out] at ho23));have HO642:=am_ (Kd.R_lower ho23 (below_size (bl_ HB).out));replace BK636:=bb_ BK636 hb;replace BK637:=bb_ BK637 hb;replace BK638:=bb_ BK638 hb;replace HB:=am_ (below_step (bl_ HB).out hb);clear hb ho23;have hcv24:=own_string (P:=Tryz.prog) Tryz.underlying23 Tryz.underlying5 Tryz.underlying9 (Kd.own_of_R HO642.out);obtain⟨hcz25_0,hcz25_1,hcz25_2,hcz25_3,hfz25_0,hfz25_1,hfz25_2,hfz25_3⟩:=bo4_ BK638))
 (try simp only[Act.put,List.setIfInBounds_toArray,List.set_cons_zero,List.set_cons_succ])
 go_cut [6] (fun v6 wc=>∃(kq:Nat) (x6_6:ByteArray),v6= .string x6_6∧Aside0 (florinlaw06_Relation_relation.j0 kq t639 x6_6 a0_0 a0_1 a0_2 a0_3 l0_4 (bt (⟨#[110,105,118,119,102,116,99,101]⟩:ByteArray) (Go.bits .and .i64 a0_0 7)) (Go.bits .and .i64 a0_1 65535) a0_3=some (r1,r2,r3,r4,r5))∧Aside0 (kq≤k)∧Aside0 (wc.heap[gb636]? = some (.cells #[.int .i64 a0_0,.int .i64 a0_1,.int .i64 a0_2,.bool a0_3,(.slice A0_4 l0_4.length c0_4)] 46 (0,0)))∧Aside0 (wc.heap[gb637]? = some (.cells #[.int .u8 0,.int .i64 0,.bool false,(.slice none 0 0)] 53 (0,0)))∧Aside0 (wc.heap[gb638]? = some (.cells #[.int .u8 (bt (⟨#[110,105,118,119,102,116,99,101]⟩:ByteArray) (Go.bits .and .i64 a0_0 7)),.int .i64 (Go.bits .and .i64 a0_1 65535),.bool a0_3,(.slice none 0 0)] 53 (0,0)))∧Aside0 (Below w.heap.size w wc))
 case first =>
  have H:=HC7.out
  clear HC7
  by_cases c26:(Go.bits .and .i64 a0_1 65535)=0
  ·rw[if_pos c26] at H
   have c26b0:((Go.bits .and .i64 a0_1 65535)==0)=true:=beq_iff_eq.mpr c26
   have c26b1:((Go.bits .and .i64 a0_1 65535) !=0)=false:=bne_eq_false_iff_eq.mpr c26
   clear c26
   (first|rw[c26b0]|(simp only[i64_w,i32_w];rw[c26b0])|skip)
   have H':=am_ H
   clear H
   go_wp2
   go_meet
   case rel=>exact⟨_,((strOfNums y640)++t639),eq_,H',⟨by first|omega|exact Nat.le_refl _⟩,(bk_ BK636),(bk_ BK637),(bk_ BK638),(bl_ HB)⟩
  rw[if_neg c26] at H
  have c26b0:((Go.bits .and .i64 a0_1 65535)==0)=false:=beq_eq_false_iff_ne.mpr c26
  have c26b1:((Go.bits .and .i64 a0_1 65535) !=0)=true:=bne_iff_ne.mpr c26
  (first|rw[c26b0]|(simp only[i64_w,i32_w];rw[c26b0])|skip)
  replace H:=ifn_ H
  obtain⟨c27,H⟩:=H
  have c27b0:=eq_true c27
  have c27b1:decide (((strOfNums y640)++t639).size+1≤9223372036854775807)=true:=decide_eq_true c27
  try (have c27b5:=c27b0;simp only[ByteArray.size_append,Int.natCast_add] at c27b5)
  try have c27b2:=eq_false (Nat.not_lt.2 c27)
  try have c27b3:(9223372036854775807<(strOfNums y640).size+t639.size+1)=False:=eq_false (Nat.not_lt.2 (by have h_:=c27;simp only[ByteArray.size_append] at h_;exact h_))
  try have c27b4:((strOfNums y640).size+t639.size+1≤9223372036854775807)=True:=eq_true (by have h_:=c27;simp only[ByteArray.size_append] at h_;exact h_)
  replace H:=ifn_ H
  obtain⟨c28,H⟩:=H
  have c28b0:=eq_true c28
  have c28b1:decide ((((strOfNums y640)++t639)++(⟨#[37]⟩:ByteArray)).size+t639.size≤9223372036854775807)=true:=decide_eq_true c28
  try (have c28b5:=c28b0;simp only[ByteArray.size_append,Int.natCast_add] at c28b5)
  try have c28b2:=eq_false (Nat.not_lt.2 c28)
  try have c28b3:(9223372036854775807<(strOfNums y640).size+t639.size+1+t639.size)=False:=eq_false (Nat.not_lt.2 (by have h_:=c28;simp only[ByteArray.size_append] at h_;exact h_))
  try have c28b4:((strOfNums y640).size+t639.size+1+t639.size≤9223372036854775807)=True:=eq_true (by have h_:=c28;simp only[ByteArray.size_append] at h_;exact h_)
  replace H:=Option.bind_eq_some_iff.mp H
  obtain⟨t643,A290,H⟩:=H
  have A29:=am_ A290
  clear A290
  replace H:=ifn_ H
  obtain⟨c30,H⟩:=H
  have c30b0:=eq_true c30
  have c30b1:decide (((((strOfNums y640)++t639)++(⟨#[37]⟩:ByteArray))++t639).size+t643.size≤9223372036854775807)=true:=decide_eq_true c30
  try (have c30b5:=c30b0;simp only[ByteArray.size_append,Int.natCast_add] at c30b5)
  try have c30b2:=eq_false (Nat.not_lt.2 c30)
  try have c30b3:(9223372036854775807<(strOfNums y640).size+t639.size+1+t639.size+t643.size)=False:=eq_false (Nat.not_lt.2 (by have h_:=c30;simp only[ByteArray.size_append] at h_;exact h_))
  try have c30b4:((strOfNums y640).size+t639.size+1+t639.size+t643.size≤9223372036854775807)=True:=eq_true (by have h_:=c30;simp only[ByteArray.size_append] at h_;exact h_)
  replace H:=ifn_ H
  obtain⟨c31,H⟩:=H
  have c31b0:=eq_true c31
  have c31b1:decide ((((((strOfNums y640)++t639)++(⟨#[37]⟩:ByteArray))++t639)++t643).size+t639.size≤9223372036854775807)=true:=decide_eq_true c31
  try (have c31b5:=c31b0;simp only[ByteArray.size_append,Int.natCast_add] at c31b5)
  try have c31b2:=eq_false (Nat.not_lt.2 c31)
  try have c31b3:(9223372036854775807<(strOfNums y640).size+t639.size+1+t639.size+t643.size+t639.size)=False:=eq_false (Nat.not_lt.2 (by have h_:=c31;simp only[ByteArray.size_append] at h_;exact h_))
  try have c31b4:((strOfNums y640).size+t639.size+1+t639.size+t643.size+t639.size≤9223372036854775807)=True:=eq_true (by have h_:=c31;simp only[ByteArray.size_append] at h_;exact h_)
  have H':=am_ H
  clear H
  have hnb32:=NB638_636.out
  have hnc32:=NB636_638.out
  have hnb33:=NB638_637.out
  have hnc33:=NB637_638.out
  obtain⟨hcz34_0,hcz34_1,hcz34_2,hcz34_3,hfz34_0,hfz34_1,hfz34_2,hfz34_3⟩:=bo4_ BK638
  go_wp2_with (first|((with_reducible refine gate_callee (f:=79) rfl ?_);refine gl_ (some 39) Tryz.func79 #[.int .i64 (Go.bits .and .i64 a0_1 65535)] ?_;(with_reducible refine(florinlaw06_digits.calls _ _ _ _ A29.out).mono ?_);rintro e w35 ⟨rfl,hb⟩;refine⟨_,rfl,?_⟩;replace HO642:=kb_ HO642 hb;replace BK636:=bb_ BK636 hb;replace BK637:=bb_ BK637 hb;replace BK638:=bb_ BK638 hb;replace HB:=am_ (below_step (bl_ HB).out hb);(try clear hb);(try clear hi)))
  go_meet
  case rel=>exact⟨_,((((((strOfNums y640)++t639)++(⟨#[37]⟩:ByteArray))++t639)++t643)++t639),eq_,H',⟨by first|omega|exact Nat.le_refl _⟩,(bk_ BK636),(bk_ BK637),(bk_ BK638),(bl_ HB)⟩
 clear HC7
 obtain⟨kq,x6_6,rfl,HA,HJ6,BK636,BK637,BK638,HB⟩:=hcut
 cases kq with
 | zero=>exact absurd HA.out (by simp[florinlaw06_Relation_relation.j0])
 | succ kj6=>?_
 have H:=HA.out
 clear HA
 simp only[florinlaw06_Relation_relation.j0] at H
 have HC36:=am_ H
 clear H
 have hnb37:=NB638_636.out
 have hnc37:=NB636_638.out
 have hnb38:=NB638_637.out
 have hnc38:=NB637_638.out
 obtain⟨hcz39_0,hcz39_1,hcz39_2,hcz39_3,hfz39_0,hfz39_1,hfz39_2,hfz39_3⟩:=bo4_ BK638
 go_upto_if 44 with (fail)
 go_cut [6] (fun v6 wc=>∃(kq:Nat) (x6_35:ByteArray),v6= .string x6_35∧Aside0 (florinlaw06_Relation_relation.j1 kq t639 x6_35 a0_0 a0_1 a0_2 a0_3 l0_4 (bt (⟨#[110,105,118,119,102,116,99,101]⟩:ByteArray) (Go.bits .and .i64 a0_0 7)) (Go.bits .and .i64 a0_1 65535) a0_3=some (r1,r2,r3,r4,r5))∧Aside0 (kq≤kj6)∧Aside0 (wc.heap[gb636]? = some (.cells #[.int .i64 a0_0,.int .i64 a0_1,.int .i64 a0_2,.bool a0_3,(.slice A0_4 l0_4.length c0_4)] 46 (0,0)))∧Aside0 (wc.heap[gb637]? = some (.cells #[.int .u8 0,.int .i64 0,.bool false,(.slice none 0 0)] 53 (0,0)))∧Aside0 (wc.heap[gb638]? = some (.cells #[.int .u8 (bt (⟨#[110,105,118,119,102,116,99,101]⟩:ByteArray) (Go.bits .and .i64 a0_0 7)),.int .i64 (Go.bits .and .i64 a0_1 65535),.bool a0_3,(.slice none 0 0)] 53 (0,0)))∧Aside0 (Below w.heap.size w wc))
 case first =>
  have H:=HC36.out
  clear HC36
  by_cases c40:a0_3=true
  ·subst c40
   rw[if_pos rfl] at H
   replace H:=ifn_ H
   obtain⟨c41,H⟩:=H
   have c41b0:=eq_true c41
   have c41b1:decide (x6_6.size+1≤9223372036854775807)=true:=decide_eq_true c41
   try have c41b2:=eq_false (Nat.not_lt.2 c41)
   have H':=am_ H
   clear H
   go_wp2
   go_meet
   case rel=>exact⟨_,(x6_6++(⟨#[33]⟩:ByteArray)),eq_,H',⟨by have:=HJ6.out;first|omega|exact Nat.le_refl _⟩,(bk_ BK636),(bk_ BK637),(bk_ BK638),(bl_ HB)⟩
  replace c40:=Bool.eq_false_iff.mpr c40
  subst c40
  rw[if_neg (show ¬(false=true) by decide)] at H
  have H':=am_ H
  clear H
  go_wp2
  go_meet
  case rel=>exact⟨_,(x6_6),eq_,H',⟨by have:=HJ6.out;first|omega|exact Nat.le_refl _⟩,(bk_ BK636),(bk_ BK637),(bk_ BK638),(bl_ HB)⟩
 clear HC36
 obtain⟨kq,x6_35,rfl,HA,HJ35,BK636,BK637,BK638,HB⟩:=hcut
 cases kq with
 | zero=>exact absurd HA.out (by simp[florinlaw06_Relation_relation.j1])
 | succ kj35=>?_
 have H:=HA.out
 clear HA
 simp only[florinlaw06_Relation_relation.j1] at H
 replace H:=ifn_ H
 obtain⟨c42,H⟩:=H
 have c42b0:=eq_true c42
 have c42b1:decide (x6_35.size+1≤9223372036854775807)=true:=decide_eq_true c42
 try have c42b2:=eq_false (Nat.not_lt.2 c42)
 replace H:=ifn_ H
 obtain⟨c43,H⟩:=H
 have c43b0:=eq_true c43
 have c43b1:decide ((x6_35++(⟨#[61]⟩:ByteArray)).size+t639.size≤9223372036854775807)=true:=decide_eq_true c43
 try (have c43b5:=c43b0;simp only[ByteArray.size_append,Int.natCast_add] at c43b5)
 try have c43b2:=eq_false (Nat.not_lt.2 c43)
 try have c43b3:(9223372036854775807<x6_35.size+1+t639.size)=False:=eq_false (Nat.not_lt.2 (by have h_:=c43;simp only[ByteArray.size_append] at h_;exact h_))
 try have c43b4:(x6_35.size+1+t639.size≤9223372036854775807)=True:=eq_true (by have h_:=c43;simp only[ByteArray.size_append] at h_;exact h_)
 obtain⟨y644,hy644⟩:∃y_:List (S139),y_=(([]:List (S139))):=⟨_,rfl⟩
 replace H:(if y644.length+l0_4.length<8796093022208 then ((some (y644++l0_4:List (S139))).bind fun y647=>(if (y647.length:Int)=0 then (if y647.length<8796093022208 then (florinlaw06_Relation_relation.j2 kj35 t639 ((x6_35++(⟨#[61]⟩:ByteArray))++t639) (y647++[(⟨0,0⟩:S139)]) (bt (⟨#[110,105,118,119,102,116,99,101]⟩:ByteArray) (Go.bits .and .i64 a0_0 7)) (Go.bits .and .i64 a0_1 65535) a0_3) else (none)) else (florinlaw06_Relation_relation.j2 kj35 t639 ((x6_35++(⟨#[61]⟩:ByteArray))++t639) y647 (bt (⟨#[110,105,118,119,102,116,99,101]⟩:ByteArray) (Go.bits .and .i64 a0_0 7)) (Go.bits .and .i64 a0_1 65535) a0_3))) else (none))=some (r1,r2,r3,r4,r5):=by first|(rw[hy644];with_reducible exact H)|(have H2_:=(Option.bind_some _ _).symm.trans H;rw[hy644];with_reducible exact H2_)|(have H2_:=(Option.bind_some _ _).symm.trans H;with_reducible exact H2_)|with_reducible exact H|(rw[hy644];exact H)|exact H
 have Ny644:=am_ hy644
 clear hy644
 replace H:=ifn_ H
 obtain⟨c44,H⟩:=H
 have LMc44:=am_ c44
 clear c44
 obtain⟨y647,hy647⟩:∃y_:List (S139),y_=(y644++l0_4):=⟨_,rfl⟩
 replace H:(if (y647.length:Int)=0 then (if y647.length<8796093022208 then (florinlaw06_Relation_relation.j2 kj35 t639 ((x6_35++(⟨#[61]⟩:ByteArray))++t639) (y647++[(⟨0,0⟩:S139)]) (bt (⟨#[110,105,118,119,102,116,99,101]⟩:ByteArray) (Go.bits .and .i64 a0_0 7)) (Go.bits .and .i64 a0_1 65535) a0_3) else (none)) else (florinlaw06_Relation_relation.j2 kj35 t639 ((x6_35++(⟨#[61]⟩:ByteArray))++t639) y647 (bt (⟨#[110,105,118,119,102,116,99,101]⟩:ByteArray) (Go.bits .and .i64 a0_0 7)) (Go.bits .and .i64 a0_1 65535) a0_3))=some (r1,r2,r3,r4,r5):=by first|(rw[hy647];with_reducible exact H)|(have H2_:=(Option.bind_some _ _).symm.trans H;rw[hy647];with_reducible exact H2_)|(have H2_:=(Option.bind_some _ _).symm.trans H;with_reducible exact H2_)|with_reducible exact H|(rw[hy647];exact H)|exact H
 have Ny647:=am_ hy647
 clear hy647
 have HC45:=am_ H
 clear H
 go_upto_if 57 with (first|((with_reducible refine gate_dst (N:=51) rfl ?_);refine Kd.R_lit k139 _ 139 ?hg (N:=51) ?hd (xs:=([]:List (S139))) (inner:=[]) (ok:=fun _=>True) (okp:=fun _=>True) ?hr ?hp (fun _ hk=>hk) trivial (Below.refl _ _) (Nat.le_refl _) (by simp) ?_;(case hd=>rfl);(case hg=>rfl);(case hr=>first|(go_simp;done)|(go_simp;rfl));(case hp=>exact(Reps.none _ _));intro v645 w46 ho47 hb hg_ hnew_;clear hg_ hnew_;(first|rw[← Ny644.out] at ho47|(simp only[Int.reduceToNat] at ho47;rw[← Ny644.out] at ho47));have HO646:=am_ (Kd.R_lower ho47 (below_size (bl_ HB).out));replace BK636:=bb_ BK636 hb;replace BK637:=bb_ BK637 hb;replace BK638:=bb_ BK638 hb;replace HB:=am_ (below_step (bl_ HB).out hb);clear hb ho47;have hnb48:=NB636_637.out;have hnc48:=NB637_636.out;have hnb49:=NB636_638.out;have hnc49:=NB638_636.out;obtain⟨hcz50_0,hcz50_1,hcz50_2,hcz50_3,hcz50_4,hfz50_0,hfz50_1,hfz50_2,hfz50_3,hfz50_4⟩:=bo5_ BK636)|((with_reducible refine gate_builtin (b:= .append) (xs:= #[.tmp 51,.tmp 53]) rfl ?_);at_builtin;refine Kd.R_append_rows k139 (w0:=w) w.heap.size rfl (.tmp 51) (.tmp 53) 44 139 (.agg #[(.int .i64 0),(.int .i64 0)]) 16 rfl Tryz.underlying44 info139 rfl (by decide) (by omega) v645 y644 l0_4 _ _ _ (fun _=>True) (fun _=>False) rfl rfl ?aO ?aR (fun _ _ h=>h) (fun _ h=>h.elim) ?aF ?aB ?aS ?aL ?_;(case aR=>repeat(first|exact(Kd.C_below HR0_4.out HB.out)|(with_reducible refine Kd.C_alloc ?_ _)|(with_reducible refine Kd.C_drewN ?_ _)|(with_reducible refine Kd.C_drew ?_)));(case aB=>exact(bl_ HB).out);(case aF=>exact(fun _ _=>trivial));(case aO=>exact(kr_ HO646));(case aS=>exact(below_size (bl_ HB).out));(case aL=>have:=LMc44.out;omega);intro v648 w51 ho hb hg hat;rw[← Ny647.out] at ho;have n0_:=am_ (blk_grown (bk_ BK636).out hg (Kd.R_ne HO646.out BK636.out (by decide)));have n1_:=am_ (blk_grown (bk_ BK637).out hg (Kd.R_ne HO646.out BK637.out (by decide)));have n2_:=am_ (blk_grown (bk_ BK638).out hg (Kd.R_ne HO646.out BK638.out (by decide)));have n3_:=am_ (hb);have n4_:=am_ (ho);clear BK636;clear BK637;clear BK638;clear HB;clear HO646;revert n0_ n1_ n2_ n3_ n4_;intro BK636 BK637 BK638 HB HO649;clear ho hb hg hat;obtain⟨Ao52,co52,eo52⟩:=Kd.R_slice HO649.out;subst eo52))
 (try simp only[Act.put,List.setIfInBounds_toArray,List.set_cons_zero,List.set_cons_succ])
 go_cut [7] (fun v7 wc=>∃(kq:Nat) (x7_44:List (S139)),Aside0 (florinlaw06_Relation_relation.j2 kq t639 ((x6_35++(⟨#[61]⟩:ByteArray))++t639) x7_44 (bt (⟨#[110,105,118,119,102,116,99,101]⟩:ByteArray) (Go.bits .and .i64 a0_0 7)) (Go.bits .and .i64 a0_1 65535) a0_3=some (r1,r2,r3,r4,r5))∧Aside0 (kq≤kj35)∧Aside0 (Kd.R k139 139 wc w.heap.size (fun _=>True) v7 x7_44)∧Aside0 (wc.heap[gb636]? = some (.cells #[.int .i64 a0_0,.int .i64 a0_1,.int .i64 a0_2,.bool a0_3,(.slice A0_4 l0_4.length c0_4)] 46 (0,0)))∧Aside0 (wc.heap[gb637]? = some (.cells #[.int .u8 0,.int .i64 0,.bool false,(.slice none 0 0)] 53 (0,0)))∧Aside0 (wc.heap[gb638]? = some (.cells #[.int .u8 (bt (⟨#[110,105,118,119,102,116,99,101]⟩:ByteArray) (Go.bits .and .i64 a0_0 7)),.int .i64 (Go.bits .and .i64 a0_1 65535),.bool a0_3,(.slice none 0 0)] 53 (0,0)))∧Aside0 (Below w.heap.size w wc))
 case first =>
  have H:=HC45.out
  clear HC45
  by_cases c53:(y647.length:Int)=0
  ·rw[if_pos c53] at H
   have c53b0:((y647.length:Int)==0)=true:=beq_iff_eq.mpr c53
   have c53b1:((y647.length:Int) !=0)=false:=bne_eq_false_iff_eq.mpr c53
   clear c53
   (first|rw[c53b0]|(simp only[i64_w,i32_w];rw[c53b0])|skip)
   replace H:=ifn_ H
   obtain⟨c54,H⟩:=H
   have LMc54:=am_ c54
   clear c54
   obtain⟨y650,hy650⟩:∃y_:List (S139),y_=(y647++[(⟨0,0⟩:S139)]):=⟨_,rfl⟩
   replace H:(florinlaw06_Relation_relation.j2 kj35 t639 ((x6_35++(⟨#[61]⟩:ByteArray))++t639) y650 (bt (⟨#[110,105,118,119,102,116,99,101]⟩:ByteArray) (Go.bits .and .i64 a0_0 7)) (Go.bits .and .i64 a0_1 65535) a0_3)=some (r1,r2,r3,r4,r5):=by first|(rw[hy650];with_reducible exact H)|(have H2_:=(Option.bind_some _ _).symm.trans H;rw[hy650];with_reducible exact H2_)|(have H2_:=(Option.bind_some _ _).symm.trans H;with_reducible exact H2_)|with_reducible exact H|(rw[hy650];exact H)|exact H
   have Ny650:=am_ hy650
   clear hy650
   have H':=am_ H
   clear H
   go_wp2_with (first|((with_reducible refine gate_builtin (b:= .append) (xs:= #[.tmp 58,.tmp 60]) rfl ?_);at_builtin;refine Kd.R_append k139 (w0:=w) w.heap.size rfl (.tmp 58) (.tmp 60) 44 139 (.agg #[(.int .i64 0),(.int .i64 0)]) 16 rfl Tryz.underlying44 info139 rfl (by decide) (by omega) (.slice Ao52 y647.length co52) y647 (⟨0,0⟩:S139) [.int .i64 0,.int .i64 0] (fun _=>True) (fun _=>False) rfl rfl ?aP (fun _ hk=>hk.elim) ?aF ?aO ?aB ?aS ?aL ?_;(case aP=>exact k139_mkM _ _ _ (⟨0,0⟩:S139));(case aB=>exact(bl_ HB).out);(case aF=>exact(fun _ _=>trivial));(case aO=>exact(kr_ HO649));(case aS=>exact(below_size (bl_ HB).out));(case aL=>have:=LMc54.out;omega);intro v651 w55 ho hb hg hat;rw[← Ny650.out] at ho;have n0_:=am_ (blk_grown (bk_ BK636).out hg (Kd.R_ne HO649.out BK636.out (by decide)));have n1_:=am_ (blk_grown (bk_ BK637).out hg (Kd.R_ne HO649.out BK637.out (by decide)));have n2_:=am_ (blk_grown (bk_ BK638).out hg (Kd.R_ne HO649.out BK638.out (by decide)));have n3_:=am_ (hb);have n4_:=am_ (ho);clear BK636;clear BK637;clear BK638;clear HB;clear HO649;revert n0_ n1_ n2_ n3_ n4_;intro BK636 BK637 BK638 HB HO652;clear ho hb hg hat))
   go_meet
   case rel=>exact⟨_,(y650),H',⟨by have:=HJ6.out;have:=HJ35.out;first|omega|exact Nat.le_refl _⟩,⟨kdR_ HO652.out⟩,(bk_ BK636),(bk_ BK637),(bk_ BK638),(bl_ HB)⟩
  rw[if_neg c53] at H
  have c53b0:((y647.length:Int)==0)=false:=beq_eq_false_iff_ne.mpr c53
  have c53b1:((y647.length:Int) !=0)=true:=bne_iff_ne.mpr c53
  have c53b2:¬(y647=[]):=fun h_=>c53 (by rw[h_];rfl)
  (first|rw[c53b0]|(simp only[i64_w,i32_w];rw[c53b0])|skip)
  have H':=am_ H
  clear H
  go_wp2
  go_meet
  case rel=>exact⟨_,(y647),H',⟨by have:=HJ6.out;have:=HJ35.out;first|omega|exact Nat.le_refl _⟩,⟨kdR_ HO649.out⟩,(bk_ BK636),(bk_ BK637),(bk_ BK638),(bl_ HB)⟩
 clear HC45
 obtain⟨kq,x7_44,HA,HJ44,HO_7,BK636,BK637,BK638,HB⟩:=hcut
 cases kq with
 | zero=>exact absurd HA.out (by simp[florinlaw06_Relation_relation.j2])
 | succ kj44=>?_
 have H:=HA.out
 clear HA
 simp only[florinlaw06_Relation_relation.j2] at H
 have H':=am_ H
 clear H
 obtain⟨Ao56,co56,eo56⟩:=Kd.R_slice HO_7.out
 subst eo56
 go_wp2
 go_loopg [6,64] kj44 (fun kq v6 v64 w'=>∃(x6_4:ByteArray) (x64_4:Int) (x639003_4:List (S57)) (u639003:Value),v6= .string x6_4∧v64= .int .i64 x64_4∧Aside0 (florinlaw06_Relation_relation.l0 kq t639 x6_4 x7_44 (x7_44.length:Int) x64_4 (bt (⟨#[110,105,118,119,102,116,99,101]⟩:ByteArray) (Go.bits .and .i64 a0_0 7)) (Go.bits .and .i64 a0_1 65535) a0_3 x639003_4=some (r1,r2,r3,r4,r5))∧Aside0 (kq≤kj44)∧Aside0 (Kd.R k139 139 w' w.heap.size (fun _=>True) (.slice Ao56 x7_44.length co56) x7_44)∧Aside0 (Kd.R k57 57 w' w.heap.size (fun _=>True) u639003 x639003_4)∧Aside0 (w'.heap[gb636]? = some (.cells #[.int .i64 a0_0,.int .i64 a0_1,.int .i64 a0_2,.bool a0_3,(.slice A0_4 l0_4.length c0_4)] 46 (0,0)))∧Aside0 (w'.heap[gb637]? = some (.cells #[.int .u8 0,.int .i64 0,.bool false,(.slice none 0 0)] 53 (0,0)))∧Aside0 (w'.heap[gb638]? = some (.cells #[.int .u8 (bt (⟨#[110,105,118,119,102,116,99,101]⟩:ByteArray) (Go.bits .and .i64 a0_0 7)),.int .i64 (Go.bits .and .i64 a0_1 65535),.bool a0_3,u639003] 53 (0,0)))∧Aside0 (Below w.heap.size w w'))
 case atStart=>exact⟨(((x6_35++(⟨#[61]⟩:ByteArray))++t639)),(0),(([]:List (S57))),(.slice none 0 0),eq_,eq_,H',⟨Nat.le_refl _⟩,⟨kdR_ HO_7.out⟩,⟨by first|exact Kd.R_nil _ _ _ _ _|exact Kd.N_nil _ _ _ _ _|exact Kd.V_nil _ _ _ _ _|exact Kd.Q_nil _ _ _ _ _|exact Kd.S_nil _ _ _ _ _⟩,(bk_ BK636),(bk_ BK637),(bk_ BK638),(bl_ HB)⟩
 clear H'
 obtain⟨x6_4,x64_4,x639003_4,u639003,rfl,rfl,HA,HK4,HO_62,HO_639003,BK636,BK637,BK638,HB⟩:=hrel
 cases gk with
 | zero=>exact absurd HA.out (by simp[florinlaw06_Relation_relation.l0])
 | succ k4=>?_
 have H:=HA.out
 clear HA
 simp only[florinlaw06_Relation_relation.l0] at H
 by_cases c57:x64_4<(x7_44.length:Int)
 ·rw[if_pos c57] at H
  have c57b0:=decide_eq_true c57
  clear c57
  replace H:=ifn_ H
  obtain⟨c58,H⟩:=H
  have c58b0:decide (0≤x64_4)=true:=decide_eq_true c58
  clear c58
  replace H:=ifn_ H
  obtain⟨c59,H⟩:=H
  have c59b0:decide (x64_4<(x7_44.length:Int))=true:=decide_eq_true c59
  clear c59
  replace H:=ifn_ H
  obtain⟨c60,H⟩:=H
  have LMc60:=am_ c60
  clear c60
  obtain⟨y656,hy656⟩:∃y_:List (S57),y_=(x639003_4++[(⟨Go.bits .and .i64 ((rd_T139 x7_44 x64_4).f0) 1048575,wrap64 ((Go.bits .and .i64 ((rd_T139 x7_44 x64_4).f0) 1048575)+(Go.bits .and .i64 ((rd_T139 x7_44 x64_4).f1) 3))⟩:S57)]):=⟨_,rfl⟩
  replace H:(if x64_4>0 then (if x6_4.size+t639.size≤9223372036854775807 then (if (x6_4++t639).size+1≤9223372036854775807 then (if ((x6_4++t639)++(⟨#[44]⟩:ByteArray)).size+t639.size≤9223372036854775807 then (florinlaw06_Relation_relation.j4 k4 t639 (((x6_4++t639)++(⟨#[44]⟩:ByteArray))++t639) x7_44 (x7_44.length:Int) x64_4 (bt (⟨#[110,105,118,119,102,116,99,101]⟩:ByteArray) (Go.bits .and .i64 a0_0 7)) (Go.bits .and .i64 a0_1 65535) a0_3 y656 ((rd_T139 x7_44 x64_4).f0) ((rd_T139 x7_44 x64_4).f1) (Go.bits .and .i64 ((rd_T139 x7_44 x64_4).f0) 1048575) (wrap64 ((Go.bits .and .i64 ((rd_T139 x7_44 x64_4).f0) 1048575)+(Go.bits .and .i64 ((rd_T139 x7_44 x64_4).f1) 3)))) else (none)) else (none)) else (none)) else (florinlaw06_Relation_relation.j4 k4 t639 x6_4 x7_44 (x7_44.length:Int) x64_4 (bt (⟨#[110,105,118,119,102,116,99,101]⟩:ByteArray) (Go.bits .and .i64 a0_0 7)) (Go.bits .and .i64 a0_1 65535) a0_3 y656 ((rd_T139 x7_44 x64_4).f0) ((rd_T139 x7_44 x64_4).f1) (Go.bits .and .i64 ((rd_T139 x7_44 x64_4).f0) 1048575) (wrap64 ((Go.bits .and .i64 ((rd_T139 x7_44 x64_4).f0) 1048575)+(Go.bits .and .i64 ((rd_T139 x7_44 x64_4).f1) 3)))))=some (r1,r2,r3,r4,r5):=by first|(rw[hy656];with_reducible exact H)|(have H2_:=(Option.bind_some _ _).symm.trans H;rw[hy656];with_reducible exact H2_)|(have H2_:=(Option.bind_some _ _).symm.trans H;with_reducible exact H2_)|with_reducible exact H|(rw[hy656];exact H)|exact H
  have Ny656:=am_ hy656
  clear hy656
  have HC61:=am_ H
  clear H
  have p653:0≤(x64_4:Int):=od_
  have q653:x64_4<(x7_44.length:Int):=od_
  obtain⟨ad653,e653,hx653_0,hx653_1⟩:=at_T139 (Kd.R_reads' HO_62.out).2.2 x64_4 p653 q653
  cases e653
  replace p653:=eq_true p653
  replace q653:=eq_true q653
  go_upto_if 87 with (first|((with_reducible refine gate_dst (N:=9) rfl ?_);refine be_ 9 #[.int .i64 0,.int .i64 0] 139 ?_;intro gb654 hg w62 hbox hb;have BK654:=am_ (hbox);have GW654:=sz_ HB hg;have GE654:=sz_ HB hg;have NB636_654:=na_ BK636 hg;have NB654_636:=nb_ BK636 hg;have NB637_654:=na_ BK637 hg;have NB654_637:=nb_ BK637 hg;have NB638_654:=na_ BK638 hg;have NB654_638:=nb_ BK638 hg;replace HO_62:=am_ (Kd.R_below (Kd.R_elderB (kr_ HO_62) gb654 (Nat.le_of_eq hg.symm)) hb);replace HO_639003:=kb_ HO_639003 hb;replace BK636:=bb_ BK636 hb;replace BK637:=bb_ BK637 hb;replace BK638:=bb_ BK638 hb;replace HB:=am_ (below_step (bl_ HB).out hb);clear hb hbox hg;have hnb63:=NB654_636.out;have hnc63:=NB636_654.out;have hnb64:=NB654_637.out;have hnc64:=NB637_654.out;have hnb65:=NB654_638.out;have hnc65:=NB638_654.out;obtain⟨hcz66_0,hcz66_1,hfz66_0,hfz66_1⟩:=bo2_ BK654)|((with_reducible refine gate_dst (N:=10) rfl ?_);refine be_ 10 #[.int .i64 0,.int .i64 0] 57 ?_;intro gb655 hg w67 hbox hb;have n0_:=am_ (Kd.R_below (kfR_ gb654 HO_62) hb);have n1_:=am_ (Kd.R_below (Kd.R_elderB (kdR_ ((Kd.R_mono (Kd.R_far (Kd.R_far (Kd.R_types HO_639003.out BK654.out (by decide)) (fun _ hk=>hk.2) _) (fun _ hk=>hk.2) _) (fun _ h_=>h_.1)))) gb655 (Nat.le_of_eq hg.symm)) hb);have n2_:=bz_ BK636 hb;have n3_:=bz_ BK637 hb;have n4_:=bz_ BK638 hb;have n5_:=am_ (blk_below (g:=gb654) (o:= .cells #[.int .i64 ((rd_T139 x7_44 x64_4).f0),.int .i64 ((rd_T139 x7_44 x64_4).f1)] 139 (0,0)) ((bp_ BK654).out) hb);have n6_:=am_ (below_step (bl_ HB).out hb);have n7_:=am_ (hbox);have n8_:=sz_ HB hg;have n9_:=sz_ HB hg;have n10_:=am_ ((by rw[hg];exact Nat.ne_of_lt (blk_lt (g:=gb636) (o:= .cells #[.int .i64 a0_0,.int .i64 a0_1,.int .i64 a0_2,.bool a0_3,.slice A0_4 l0_4.length c0_4] 46 (0,0)) ((bf_ BK636).out)):gb636≠gb655));have n11_:=am_ ((by rw[hg];exact Nat.ne_of_gt (blk_lt (g:=gb636) (o:= .cells #[.int .i64 a0_0,.int .i64 a0_1,.int .i64 a0_2,.bool a0_3,.slice A0_4 l0_4.length c0_4] 46 (0,0)) ((bf_ BK636).out)):gb655≠gb636));have n12_:=am_ ((by rw[hg];exact Nat.ne_of_lt (blk_lt (g:=gb637) (o:= .cells #[.int .u8 0,.int .i64 0,.bool false,.slice none 0 0] 53 (0,0)) ((bf_ BK637).out)):gb637≠gb655));have n13_:=am_ ((by rw[hg];exact Nat.ne_of_gt (blk_lt (g:=gb637) (o:= .cells #[.int .u8 0,.int .i64 0,.bool false,.slice none 0 0] 53 (0,0)) ((bf_ BK637).out)):gb655≠gb637));have n14_:=am_ ((by rw[hg];exact Nat.ne_of_lt (blk_lt (g:=gb638) (o:= .cells #[.int .u8 (bt (⟨#[110,105,118,119,102,116,99,101]⟩:ByteArray) (Go.bits .and .i64 a0_0 7)),.int .i64 (Go.bits .and .i64 a0_1 65535),.bool a0_3,u639003] 53 (0,0)) ((bf_ BK638).out)):gb638≠gb655));have n15_:=am_ ((by rw[hg];exact Nat.ne_of_gt (blk_lt (g:=gb638) (o:= .cells #[.int .u8 (bt (⟨#[110,105,118,119,102,116,99,101]⟩:ByteArray) (Go.bits .and .i64 a0_0 7)),.int .i64 (Go.bits .and .i64 a0_1 65535),.bool a0_3,u639003] 53 (0,0)) ((bf_ BK638).out)):gb655≠gb638));have n16_:=am_ ((by rw[hg];exact Nat.ne_of_lt (blk_lt (g:=gb654) (o:= .cells #[.int .i64 ((rd_T139 x7_44 x64_4).f0),.int .i64 ((rd_T139 x7_44 x64_4).f1)] 139 (0,0)) ((bp_ BK654).out)):gb654≠gb655));have n17_:=am_ ((by rw[hg];exact Nat.ne_of_gt (blk_lt (g:=gb654) (o:= .cells #[.int .i64 ((rd_T139 x7_44 x64_4).f0),.int .i64 ((rd_T139 x7_44 x64_4).f1)] 139 (0,0)) ((bp_ BK654).out)):gb655≠gb654));clear HO_62;clear HO_639003;clear BK636;clear BK637;clear BK638;clear BK654;clear HB;revert n0_ n1_ n2_ n3_ n4_ n5_ n6_ n7_ n8_ n9_ n10_ n11_ n12_ n13_ n14_ n15_ n16_ n17_;intro HO_62 HO_639003 BK636 BK637 BK638 BK654 HB BK655 GW655 GE655 NB636_655 NB655_636 NB637_655 NB655_637 NB638_655 NB655_638 NB654_655 NB655_654;clear hb hbox hg;have hnb68:=NB655_636.out;have hnc68:=NB636_655.out;have hnb69:=NB655_637.out;have hnc69:=NB637_655.out;have hnb70:=NB655_638.out;have hnc70:=NB638_655.out;have hnb71:=NB655_654.out;have hnc71:=NB654_655.out;obtain⟨hcz72_0,hcz72_1,hfz72_0,hfz72_1⟩:=bo2_ BK655;have hnb73:=NB638_636.out;have hnc73:=NB636_638.out;have hnb74:=NB638_637.out;have hnc74:=NB637_638.out;obtain⟨hcz75_0,hcz75_1,hcz75_2,hcz75_3,hfz75_0,hfz75_1,hfz75_2,hfz75_3⟩:=bo4_ BK638)|((with_reducible refine gate_builtin (b:= .append) (xs:= #[.tmp 81,.tmp 83]) rfl ?_);at_builtin;refine Kd.R_append k57 (w0:=w) w.heap.size rfl (.tmp 81) (.tmp 83) 51 57 (.agg #[(.int .i64 0),(.int .i64 0)]) 16 rfl Tryz.underlying51 info57 rfl (by decide) (by omega) u639003 x639003_4 (⟨Go.bits .and .i64 ((rd_T139 x7_44 x64_4).f0) 1048575,wrap64 ((Go.bits .and .i64 ((rd_T139 x7_44 x64_4).f0) 1048575)+(Go.bits .and .i64 ((rd_T139 x7_44 x64_4).f1) 3))⟩:S57) [.int .i64 (Go.bits .and .i64 ((rd_T139 x7_44 x64_4).f0) 1048575),.int .i64 (wrap64 ((Go.bits .and .i64 ((rd_T139 x7_44 x64_4).f0) 1048575)+(Go.bits .and .i64 ((rd_T139 x7_44 x64_4).f1) 3)))] (fun k_=>k_≠gb655) (fun _=>False) rfl (by first|(go_simp;done)|(go_simp;rfl)) ?aP (fun _ hk=>hk.elim) ?aF ?aO ?aB ?aS ?aL ?_;(case aP=>exact k57_mkM _ _ _ (⟨Go.bits .and .i64 ((rd_T139 x7_44 x64_4).f0) 1048575,wrap64 ((Go.bits .and .i64 ((rd_T139 x7_44 x64_4).f0) 1048575)+(Go.bits .and .i64 ((rd_T139 x7_44 x64_4).f1) 3))⟩:S57));(case aB=>exact(bl_ HB).out);(case aF=>exact(fun k_ hk=>Kd.freshB (g:=gb655) (o:= .cells #[.int .i64 (Go.bits .and .i64 ((rd_T139 x7_44 x64_4).f0) 1048575),.int .i64 (wrap64 ((Go.bits .and .i64 ((rd_T139 x7_44 x64_4).f0) 1048575)+(Go.bits .and .i64 ((rd_T139 x7_44 x64_4).f1) 3)))] 57 (0,0)) ((bp_ BK655).out) k_ hk));(case aO=>exact(kdR_ (Kd.R_mono (Kd.R_far (Kd.R_far (Kd.R_mono HO_639003.out (fun k_ hk=>(⟨hk,hk.2⟩:_∧k_≠gb655))) (fun _ hk=>hk.2) _) (fun _ hk=>hk.2) _) (fun _ hk=>hk.1.2))));(case aS=>exact(below_size (bl_ HB).out));(case aL=>have:=LMc60.out;omega);intro v657 w76 ho hb hg hat;rw[← Ny656.out] at ho;have n0_:=am_ (Kd.R_over' (kdR_ ((Kd.R_mono (Kd.R_far (Kd.R_far (Kd.R_types HO_62.out BK655.out (by decide)) (fun _ hk=>hk.2) _) (fun _ hk=>hk.2) _) (fun _ h_=>h_.1)))) (Kd.R_typed (kfR_ gb655 HO_639003)) (by decide) hg);have n1_:=am_ (blk_grown (g:=gb636) (o:= .cells #[.int .i64 a0_0,.int .i64 a0_1,.int .i64 a0_2,.bool a0_3,.slice A0_4 l0_4.length c0_4] 46 (0,0)) ((bf_ BK636).out) hg (Kd.R_ne HO_639003.out BK636.out (by decide)));have n2_:=am_ (blk_grown (g:=gb637) (o:= .cells #[.int .u8 0,.int .i64 0,.bool false,.slice none 0 0] 53 (0,0)) ((bf_ BK637).out) hg (Kd.R_ne HO_639003.out BK637.out (by decide)));have n3_:=am_ (blk_grown (g:=gb638) (o:= .cells #[.int .u8 (bt (⟨#[110,105,118,119,102,116,99,101]⟩:ByteArray) (Go.bits .and .i64 a0_0 7)),.int .i64 (Go.bits .and .i64 a0_1 65535),.bool a0_3,u639003] 53 (0,0)) ((bf_ BK638).out) hg (Kd.R_ne HO_639003.out BK638.out (by decide)));have n4_:=am_ (blk_grown (g:=gb654) (o:= .cells #[.int .i64 ((rd_T139 x7_44 x64_4).f0),.int .i64 ((rd_T139 x7_44 x64_4).f1)] 139 (0,0)) ((bf_ BK654).out) hg (Kd.R_ne HO_639003.out BK654.out (by decide)));have n5_:=am_ (blk_grown (g:=gb655) (o:= .cells #[.int .i64 (Go.bits .and .i64 ((rd_T139 x7_44 x64_4).f0) 1048575),.int .i64 (wrap64 ((Go.bits .and .i64 ((rd_T139 x7_44 x64_4).f0) 1048575)+(Go.bits .and .i64 ((rd_T139 x7_44 x64_4).f1) 3)))] 57 (0,0)) ((bp_ BK655).out) hg (Kd.R_away HO_639003.out (fun _ hk=>hk.2)));have n6_:=am_ (hb);have n7_:=am_ (ho);clear HO_62;clear BK636;clear BK637;clear BK638;clear BK654;clear BK655;clear HB;clear HO_639003;revert n0_ n1_ n2_ n3_ n4_ n5_ n6_ n7_;intro HO_62 BK636 BK637 BK638 BK654 BK655 HB HO658;clear ho hb hg hat;obtain⟨Ao77,co77,eo77⟩:=Kd.R_slice HO658.out;subst eo77;obtain⟨hcz78_0,hcz78_1,hcz78_2,hcz78_3,hfz78_0,hfz78_1,hfz78_2,hfz78_3⟩:=bo4_ BK638))
  (try simp only[Act.put,List.setIfInBounds_toArray,List.set_cons_zero,List.set_cons_succ])
  go_cut [6] (fun v6 wc=>∃(kq:Nat) (x6_60:ByteArray),v6= .string x6_60∧Aside0 (florinlaw06_Relation_relation.j4 kq t639 x6_60 x7_44 (x7_44.length:Int) x64_4 (bt (⟨#[110,105,118,119,102,116,99,101]⟩:ByteArray) (Go.bits .and .i64 a0_0 7)) (Go.bits .and .i64 a0_1 65535) a0_3 y656 ((rd_T139 x7_44 x64_4).f0) ((rd_T139 x7_44 x64_4).f1) (Go.bits .and .i64 ((rd_T139 x7_44 x64_4).f0) 1048575) (wrap64 ((Go.bits .and .i64 ((rd_T139 x7_44 x64_4).f0) 1048575)+(Go.bits .and .i64 ((rd_T139 x7_44 x64_4).f1) 3)))=some (r1,r2,r3,r4,r5))∧Aside0 (kq≤k4)∧Aside0 (Kd.R k139 139 wc w.heap.size (fun k_=>k_≠gb654) (.slice (some ad653) x7_44.length co56) x7_44)∧Aside0 (Kd.R k57 57 wc w.heap.size (fun k_=>k_≠gb655) (.slice Ao77 y656.length co77) y656)∧Aside0 (wc.heap[gb636]? = some (.cells #[.int .i64 a0_0,.int .i64 a0_1,.int .i64 a0_2,.bool a0_3,(.slice A0_4 l0_4.length c0_4)] 46 (0,0)))∧Aside0 (wc.heap[gb637]? = some (.cells #[.int .u8 0,.int .i64 0,.bool false,(.slice none 0 0)] 53 (0,0)))∧Aside0 (wc.heap[gb638]? = some (.cells #[.int .u8 (bt (⟨#[110,105,118,119,102,116,99,101]⟩:ByteArray) (Go.bits .and .i64 a0_0 7)),.int .i64 (Go.bits .and .i64 a0_1 65535),.bool a0_3,(.slice Ao77 y656.length co77)] 53 (0,0)))∧Aside0 (wc.heap[gb654]? = some (.cells #[.int .i64 ((rd_T139 x7_44 x64_4).f0),.int .i64 ((rd_T139 x7_44 x64_4).f1)] 139 (0,0)))∧Aside0 (wc.heap[gb655]? = some (.cells #[.int .i64 (Go.bits .and .i64 ((rd_T139 x7_44 x64_4).f0) 1048575),.int .i64 (wrap64 ((Go.bits .and .i64 ((rd_T139 x7_44 x64_4).f0) 1048575)+(Go.bits .and .i64 ((rd_T139 x7_44 x64_4).f1) 3)))] 57 (0,0)))∧Aside0 (Below w.heap.size w wc))
  case first =>
   have H:=HC61.out
   clear HC61
   by_cases c79:x64_4>0
   ·rw[if_pos c79] at H
    have c79b0:decide (0<x64_4)=true:=decide_eq_true c79
    clear c79
    (first|rw[c79b0]|(simp only[i64_w,i32_w];rw[c79b0])|skip)
    replace H:=ifn_ H
    obtain⟨c80,H⟩:=H
    have c80b0:=eq_true c80
    have c80b1:decide (x6_4.size+t639.size≤9223372036854775807)=true:=decide_eq_true c80
    try have c80b2:=eq_false (Nat.not_lt.2 c80)
    replace H:=ifn_ H
    obtain⟨c81,H⟩:=H
    have c81b0:=eq_true c81
    have c81b1:decide ((x6_4++t639).size+1≤9223372036854775807)=true:=decide_eq_true c81
    try (have c81b5:=c81b0;simp only[ByteArray.size_append,Int.natCast_add] at c81b5)
    try have c81b2:=eq_false (Nat.not_lt.2 c81)
    try have c81b3:(9223372036854775807<x6_4.size+t639.size+1)=False:=eq_false (Nat.not_lt.2 (by have h_:=c81;simp only[ByteArray.size_append] at h_;exact h_))
    try have c81b4:(x6_4.size+t639.size+1≤9223372036854775807)=True:=eq_true (by have h_:=c81;simp only[ByteArray.size_append] at h_;exact h_)
    replace H:=ifn_ H
    obtain⟨c82,H⟩:=H
    have c82b0:=eq_true c82
    have c82b1:decide (((x6_4++t639)++(⟨#[44]⟩:ByteArray)).size+t639.size≤9223372036854775807)=true:=decide_eq_true c82
    try (have c82b5:=c82b0;simp only[ByteArray.size_append,Int.natCast_add] at c82b5)
    try have c82b2:=eq_false (Nat.not_lt.2 c82)
    try have c82b3:(9223372036854775807<x6_4.size+t639.size+1+t639.size)=False:=eq_false (Nat.not_lt.2 (by have h_:=c82;simp only[ByteArray.size_append] at h_;exact h_))
    try have c82b4:(x6_4.size+t639.size+1+t639.size≤9223372036854775807)=True:=eq_true (by have h_:=c82;simp only[ByteArray.size_append] at h_;exact h_)
    have H':=am_ H
    clear H
    go_wp2
    go_meet
    case rel=>exact⟨_,(((x6_4++t639)++(⟨#[44]⟩:ByteArray))++t639),eq_,H',⟨by have:=HJ6.out;have:=HJ35.out;have:=HJ44.out;have:=HK4.out;first|omega|exact Nat.le_refl _⟩,⟨kdR_ (Kd.R_mono (Kd.R_far (Kd.R_types HO_62.out BK638.out (by decide)) (fun _ hk=>hk.2) _) (fun _ hk=>hk.1.2))⟩,⟨kdR_ (Kd.R_mono (Kd.R_far (Kd.R_types HO658.out BK638.out (by decide)) (fun _ hk=>hk.2) _) (fun _ hk=>hk.1))⟩,⟨(bf_ BK636).out⟩,⟨(bf_ BK637).out⟩,⟨(bp_ BK638).out⟩,⟨(bf_ BK654).out⟩,⟨(bf_ BK655).out⟩,(bl_ HB)⟩
   rw[if_neg c79] at H
   have c79b0:decide (0<x64_4)=false:=decide_eq_false c79
   clear c79
   (first|rw[c79b0]|(simp only[i64_w,i32_w];rw[c79b0])|skip)
   have H':=am_ H
   clear H
   go_wp2
   go_meet
   case rel=>exact⟨_,(x6_4),eq_,H',⟨by have:=HJ6.out;have:=HJ35.out;have:=HJ44.out;have:=HK4.out;first|omega|exact Nat.le_refl _⟩,⟨kdR_ (Kd.R_mono (Kd.R_far (Kd.R_types HO_62.out BK638.out (by decide)) (fun _ hk=>hk.2) _) (fun _ hk=>hk.1.2))⟩,⟨kdR_ (Kd.R_mono (Kd.R_far (Kd.R_types HO658.out BK638.out (by decide)) (fun _ hk=>hk.2) _) (fun _ hk=>hk.1))⟩,⟨(bf_ BK636).out⟩,⟨(bf_ BK637).out⟩,⟨(bp_ BK638).out⟩,⟨(bf_ BK654).out⟩,⟨(bf_ BK655).out⟩,(bl_ HB)⟩
  clear HC61
  obtain⟨kq,x6_60,rfl,HA,HJ60,HO_62,HO_639003,BK636,BK637,BK638,BK654,BK655,HB⟩:=hcut
  cases kq with
  | zero=>exact absurd HA.out (by simp[florinlaw06_Relation_relation.j4])
  | succ kj60=>?_
  have H:=HA.out
  clear HA
  simp only[florinlaw06_Relation_relation.j4] at H
  replace H:=Option.bind_eq_some_iff.mp H
  obtain⟨t659,A830,H⟩:=H
  have A83:=am_ A830
  clear A830
  replace H:=ifn_ H
  obtain⟨c84,H⟩:=H
  have c84b0:=eq_true c84
  have c84b1:decide (x6_60.size+t659.size≤9223372036854775807)=true:=decide_eq_true c84
  try have c84b2:=eq_false (Nat.not_lt.2 c84)
  by_cases c85:(Go.bits .and .i64 ((rd_T139 x7_44 x64_4).f0) 1048575)=(wrap64 ((Go.bits .and .i64 ((rd_T139 x7_44 x64_4).f0) 1048575)+(Go.bits .and .i64 ((rd_T139 x7_44 x64_4).f1) 3)))
  ·rw[if_pos c85] at H
   have c85b0:((Go.bits .and .i64 ((rd_T139 x7_44 x64_4).f0) 1048575)==(wrap64 ((Go.bits .and .i64 ((rd_T139 x7_44 x64_4).f0) 1048575)+(Go.bits .and .i64 ((rd_T139 x7_44 x64_4).f1) 3))))=true:=beq_iff_eq.mpr c85
   have c85b1:((Go.bits .and .i64 ((rd_T139 x7_44 x64_4).f0) 1048575) !=(wrap64 ((Go.bits .and .i64 ((rd_T139 x7_44 x64_4).f0) 1048575)+(Go.bits .and .i64 ((rd_T139 x7_44 x64_4).f1) 3))))=false:=bne_eq_false_iff_eq.mpr c85
   clear c85
   by_cases c86:(Go.bits .and .i64 ((rd_T139 x7_44 x64_4).f1) 4)=4
   ·rw[if_pos c86] at H
    have c86b0:((Go.bits .and .i64 ((rd_T139 x7_44 x64_4).f1) 4)==4)=true:=beq_iff_eq.mpr c86
    have c86b1:((Go.bits .and .i64 ((rd_T139 x7_44 x64_4).f1) 4) !=4)=false:=bne_eq_false_iff_eq.mpr c86
    clear c86
    replace H:=ifn_ H
    obtain⟨c87,H⟩:=H
    have c87b0:=eq_true c87
    have c87b1:decide ((x6_60++t659).size+t639.size≤9223372036854775807)=true:=decide_eq_true c87
    try (have c87b5:=c87b0;simp only[ByteArray.size_append,Int.natCast_add] at c87b5)
    try have c87b2:=eq_false (Nat.not_lt.2 c87)
    try have c87b3:(9223372036854775807<x6_60.size+t659.size+t639.size)=False:=eq_false (Nat.not_lt.2 (by have h_:=c87;simp only[ByteArray.size_append] at h_;exact h_))
    try have c87b4:(x6_60.size+t659.size+t639.size≤9223372036854775807)=True:=eq_true (by have h_:=c87;simp only[ByteArray.size_append] at h_;exact h_)
    replace H:=ifn_ H
    obtain⟨c88,H⟩:=H
    have c88b0:=eq_true c88
    have c88b1:decide (((x6_60++t659)++t639).size+2≤9223372036854775807)=true:=decide_eq_true c88
    try (have c88b5:=c88b0;simp only[ByteArray.size_append,Int.natCast_add] at c88b5)
    try have c88b2:=eq_false (Nat.not_lt.2 c88)
    try have c88b3:(9223372036854775807<x6_60.size+t659.size+t639.size+2)=False:=eq_false (Nat.not_lt.2 (by have h_:=c88;simp only[ByteArray.size_append] at h_;exact h_))
    try have c88b4:(x6_60.size+t659.size+t639.size+2≤9223372036854775807)=True:=eq_true (by have h_:=c88;simp only[ByteArray.size_append] at h_;exact h_)
    replace H:=ifn_ H
    obtain⟨c89,H⟩:=H
    have c89b0:=eq_true c89
    have c89b1:decide ((((x6_60++t659)++t639)++(⟨#[46,46]⟩:ByteArray)).size+t639.size≤9223372036854775807)=true:=decide_eq_true c89
    try (have c89b5:=c89b0;simp only[ByteArray.size_append,Int.natCast_add] at c89b5)
    try have c89b2:=eq_false (Nat.not_lt.2 c89)
    try have c89b3:(9223372036854775807<x6_60.size+t659.size+t639.size+2+t639.size)=False:=eq_false (Nat.not_lt.2 (by have h_:=c89;simp only[ByteArray.size_append] at h_;exact h_))
    try have c89b4:(x6_60.size+t659.size+t639.size+2+t639.size≤9223372036854775807)=True:=eq_true (by have h_:=c89;simp only[ByteArray.size_append] at h_;exact h_)
    replace H:=Option.bind_eq_some_iff.mp H
    obtain⟨t660,A900,H⟩:=H
    have A90:=am_ A900
    clear A900
    replace H:=ifn_ H
    obtain⟨c91,H⟩:=H
    have c91b0:=eq_true c91
    have c91b1:decide (((((x6_60++t659)++t639)++(⟨#[46,46]⟩:ByteArray))++t639).size+t660.size≤9223372036854775807)=true:=decide_eq_true c91
    try (have c91b5:=c91b0;simp only[ByteArray.size_append,Int.natCast_add] at c91b5)
    try have c91b2:=eq_false (Nat.not_lt.2 c91)
    try have c91b3:(9223372036854775807<x6_60.size+t659.size+t639.size+2+t639.size+t660.size)=False:=eq_false (Nat.not_lt.2 (by have h_:=c91;simp only[ByteArray.size_append] at h_;exact h_))
    try have c91b4:(x6_60.size+t659.size+t639.size+2+t639.size+t660.size≤9223372036854775807)=True:=eq_true (by have h_:=c91;simp only[ByteArray.size_append] at h_;exact h_)
    have H':=am_ H
    clear H
    have hnb92:=NB655_636.out
    have hnc92:=NB636_655.out
    have hnb93:=NB655_637.out
    have hnc93:=NB637_655.out
    have hnb94:=NB655_638.out
    have hnc94:=NB638_655.out
    have hnb95:=NB655_654.out
    have hnc95:=NB654_655.out
    obtain⟨hcz96_0,hcz96_1,hfz96_0,hfz96_1⟩:=bo2_ BK655
    go_wp2_with (first|((with_reducible refine gate_callee (f:=79) rfl ?_);refine gl_ (some 97) Tryz.func79 #[.int .i64 (Go.bits .and .i64 ((rd_T139 x7_44 x64_4).f0) 1048575)] ?_;(with_reducible refine(florinlaw06_digits.calls _ _ _ _ A83.out).mono ?_);rintro e w97 ⟨rfl,hb⟩;refine⟨_,rfl,?_⟩;replace HO_62:=kb_ HO_62 hb;replace HO_639003:=kb_ HO_639003 hb;replace BK636:=bb_ BK636 hb;replace BK637:=bb_ BK637 hb;replace BK638:=bb_ BK638 hb;replace BK654:=bb_ BK654 hb;replace BK655:=bb_ BK655 hb;replace HB:=am_ (below_step (bl_ HB).out hb);(try clear hb);obtain⟨hcz98_0,hcz98_1,hfz98_0,hfz98_1⟩:=bo2_ BK655;have hnb99:=NB654_636.out;have hnc99:=NB636_654.out;have hnb100:=NB654_637.out;have hnc100:=NB637_654.out;have hnb101:=NB654_638.out;have hnc101:=NB638_654.out;obtain⟨hcz102_0,hcz102_1,hfz102_0,hfz102_1⟩:=bo2_ BK654)|((with_reducible refine gate_callee (f:=79) rfl ?_);refine gl_ (some 118) Tryz.func79 #[.int .i64 (wrap64 ((Go.bits .and .i64 ((rd_T139 x7_44 x64_4).f0) 1048575)+(Go.bits .and .i64 ((rd_T139 x7_44 x64_4).f1) 3)))] ?_;(with_reducible refine(florinlaw06_digits.calls kj60 (wrap64 ((Go.bits .and .i64 ((rd_T139 x7_44 x64_4).f0) 1048575)+(Go.bits .and .i64 ((rd_T139 x7_44 x64_4).f1) 3))) t660 _ A90.out).mono ?_);rintro e w103 ⟨rfl,hb⟩;refine⟨_,rfl,?_⟩;replace HO_62:=kb_ HO_62 hb;replace HO_639003:=kb_ HO_639003 hb;replace BK636:=bb_ BK636 hb;replace BK637:=bb_ BK637 hb;replace BK638:=bb_ BK638 hb;replace BK654:=bb_ BK654 hb;replace BK655:=bb_ BK655 hb;replace HB:=am_ (below_step (bl_ HB).out hb);(try clear hb);(try clear hi)))
    go_roundg kj60
    case measure=>have:=HJ6.out;have:=HJ35.out;have:=HJ44.out;have:=HK4.out;have:=HJ60.out;omega
    case rel=>exact⟨(((((x6_60++t659)++t639)++(⟨#[46,46]⟩:ByteArray))++t639)++t660),(wrap64 (x64_4+1)),(y656),(.slice Ao77 y656.length co77),eq_,eq_,H',⟨by have:=HJ6.out;have:=HJ35.out;have:=HJ44.out;have:=HK4.out;have:=HJ60.out;omega⟩,⟨kdR_ (Kd.R_mono HO_62.out (fun _ hk=>trivial))⟩,⟨kdR_ (Kd.R_mono HO_639003.out (fun _ hk=>trivial))⟩,(bk_ BK636),(bk_ BK637),(bk_ BK638),(bl_ HB)⟩
   rw[if_neg c86] at H
   have c86b0:((Go.bits .and .i64 ((rd_T139 x7_44 x64_4).f1) 4)==4)=false:=beq_eq_false_iff_ne.mpr c86
   have c86b1:((Go.bits .and .i64 ((rd_T139 x7_44 x64_4).f1) 4) !=4)=true:=bne_iff_ne.mpr c86
   have H':=am_ H
   clear H
   have hnb104:=NB655_636.out
   have hnc104:=NB636_655.out
   have hnb105:=NB655_637.out
   have hnc105:=NB637_655.out
   have hnb106:=NB655_638.out
   have hnc106:=NB638_655.out
   have hnb107:=NB655_654.out
   have hnc107:=NB654_655.out
   obtain⟨hcz108_0,hcz108_1,hfz108_0,hfz108_1⟩:=bo2_ BK655
   go_wp2_with (first|((with_reducible refine gate_callee (f:=79) rfl ?_);refine gl_ (some 97) Tryz.func79 #[.int .i64 (Go.bits .and .i64 ((rd_T139 x7_44 x64_4).f0) 1048575)] ?_;(with_reducible refine(florinlaw06_digits.calls _ _ _ _ A83.out).mono ?_);rintro e w109 ⟨rfl,hb⟩;refine⟨_,rfl,?_⟩;replace HO_62:=kb_ HO_62 hb;replace HO_639003:=kb_ HO_639003 hb;replace BK636:=bb_ BK636 hb;replace BK637:=bb_ BK637 hb;replace BK638:=bb_ BK638 hb;replace BK654:=bb_ BK654 hb;replace BK655:=bb_ BK655 hb;replace HB:=am_ (below_step (bl_ HB).out hb);(try clear hb);obtain⟨hcz110_0,hcz110_1,hfz110_0,hfz110_1⟩:=bo2_ BK655;have hnb111:=NB654_636.out;have hnc111:=NB636_654.out;have hnb112:=NB654_637.out;have hnc112:=NB637_654.out;have hnb113:=NB654_638.out;have hnc113:=NB638_654.out;obtain⟨hcz114_0,hcz114_1,hfz114_0,hfz114_1⟩:=bo2_ BK654))
   go_roundg kj60
   case measure=>have:=HJ6.out;have:=HJ35.out;have:=HJ44.out;have:=HK4.out;have:=HJ60.out;omega
   case rel=>exact⟨(x6_60++t659),(wrap64 (x64_4+1)),(y656),(.slice Ao77 y656.length co77),eq_,eq_,H',⟨by have:=HJ6.out;have:=HJ35.out;have:=HJ44.out;have:=HK4.out;have:=HJ60.out;omega⟩,⟨kdR_ (Kd.R_mono HO_62.out (fun _ hk=>trivial))⟩,⟨kdR_ (Kd.R_mono HO_639003.out (fun _ hk=>trivial))⟩,(bk_ BK636),(bk_ BK637),(bk_ BK638),(bl_ HB)⟩
  rw[if_neg c85] at H
  have c85b0:((Go.bits .and .i64 ((rd_T139 x7_44 x64_4).f0) 1048575)==(wrap64 ((Go.bits .and .i64 ((rd_T139 x7_44 x64_4).f0) 1048575)+(Go.bits .and .i64 ((rd_T139 x7_44 x64_4).f1) 3))))=false:=beq_eq_false_iff_ne.mpr c85
  have c85b1:((Go.bits .and .i64 ((rd_T139 x7_44 x64_4).f0) 1048575) !=(wrap64 ((Go.bits .and .i64 ((rd_T139 x7_44 x64_4).f0) 1048575)+(Go.bits .and .i64 ((rd_T139 x7_44 x64_4).f1) 3))))=true:=bne_iff_ne.mpr c85
  replace H:=ifn_ H
  obtain⟨c115,H⟩:=H
  have c115b0:=eq_true c115
  have c115b1:decide ((x6_60++t659).size+t639.size≤9223372036854775807)=true:=decide_eq_true c115
  try (have c115b5:=c115b0;simp only[ByteArray.size_append,Int.natCast_add] at c115b5)
  try have c115b2:=eq_false (Nat.not_lt.2 c115)
  try have c115b3:(9223372036854775807<x6_60.size+t659.size+t639.size)=False:=eq_false (Nat.not_lt.2 (by have h_:=c115;simp only[ByteArray.size_append] at h_;exact h_))
  try have c115b4:(x6_60.size+t659.size+t639.size≤9223372036854775807)=True:=eq_true (by have h_:=c115;simp only[ByteArray.size_append] at h_;exact h_)
  replace H:=ifn_ H
  obtain⟨c116,H⟩:=H
  have c116b0:=eq_true c116
  have c116b1:decide (((x6_60++t659)++t639).size+2≤9223372036854775807)=true:=decide_eq_true c116
  try (have c116b5:=c116b0;simp only[ByteArray.size_append,Int.natCast_add] at c116b5)
  try have c116b2:=eq_false (Nat.not_lt.2 c116)
  try have c116b3:(9223372036854775807<x6_60.size+t659.size+t639.size+2)=False:=eq_false (Nat.not_lt.2 (by have h_:=c116;simp only[ByteArray.size_append] at h_;exact h_))
  try have c116b4:(x6_60.size+t659.size+t639.size+2≤9223372036854775807)=True:=eq_true (by have h_:=c116;simp only[ByteArray.size_append] at h_;exact h_)
  replace H:=ifn_ H
  obtain⟨c117,H⟩:=H
  have c117b0:=eq_true c117
  have c117b1:decide ((((x6_60++t659)++t639)++(⟨#[46,46]⟩:ByteArray)).size+t639.size≤9223372036854775807)=true:=decide_eq_true c117
  try (have c117b5:=c117b0;simp only[ByteArray.size_append,Int.natCast_add] at c117b5)
  try have c117b2:=eq_false (Nat.not_lt.2 c117)
  try have c117b3:(9223372036854775807<x6_60.size+t659.size+t639.size+2+t639.size)=False:=eq_false (Nat.not_lt.2 (by have h_:=c117;simp only[ByteArray.size_append] at h_;exact h_))
  try have c117b4:(x6_60.size+t659.size+t639.size+2+t639.size≤9223372036854775807)=True:=eq_true (by have h_:=c117;simp only[ByteArray.size_append] at h_;exact h_)
  replace H:=Option.bind_eq_some_iff.mp H
  obtain⟨t661,A1180,H⟩:=H
  have A118:=am_ A1180
  clear A1180
  replace H:=ifn_ H
  obtain⟨c119,H⟩:=H
  have c119b0:=eq_true c119
  have c119b1:decide (((((x6_60++t659)++t639)++(⟨#[46,46]⟩:ByteArray))++t639).size+t661.size≤9223372036854775807)=true:=decide_eq_true c119
  try (have c119b5:=c119b0;simp only[ByteArray.size_append,Int.natCast_add] at c119b5)
  try have c119b2:=eq_false (Nat.not_lt.2 c119)
  try have c119b3:(9223372036854775807<x6_60.size+t659.size+t639.size+2+t639.size+t661.size)=False:=eq_false (Nat.not_lt.2 (by have h_:=c119;simp only[ByteArray.size_append] at h_;exact h_))
  try have c119b4:(x6_60.size+t659.size+t639.size+2+t639.size+t661.size≤9223372036854775807)=True:=eq_true (by have h_:=c119;simp only[ByteArray.size_append] at h_;exact h_)
  have H':=am_ H
  clear H
  have hnb120:=NB655_636.out
  have hnc120:=NB636_655.out
  have hnb121:=NB655_637.out
  have hnc121:=NB637_655.out
  have hnb122:=NB655_638.out
  have hnc122:=NB638_655.out
  have hnb123:=NB655_654.out
  have hnc123:=NB654_655.out
  obtain⟨hcz124_0,hcz124_1,hfz124_0,hfz124_1⟩:=bo2_ BK655
  go_wp2_with (first|((with_reducible refine gate_callee (f:=79) rfl ?_);refine gl_ (some 97) Tryz.func79 #[.int .i64 (Go.bits .and .i64 ((rd_T139 x7_44 x64_4).f0) 1048575)] ?_;(with_reducible refine(florinlaw06_digits.calls _ _ _ _ A83.out).mono ?_);rintro e w125 ⟨rfl,hb⟩;refine⟨_,rfl,?_⟩;replace HO_62:=kb_ HO_62 hb;replace HO_639003:=kb_ HO_639003 hb;replace BK636:=bb_ BK636 hb;replace BK637:=bb_ BK637 hb;replace BK638:=bb_ BK638 hb;replace BK654:=bb_ BK654 hb;replace BK655:=bb_ BK655 hb;replace HB:=am_ (below_step (bl_ HB).out hb);(try clear hb);obtain⟨hcz126_0,hcz126_1,hfz126_0,hfz126_1⟩:=bo2_ BK655)|((with_reducible refine gate_callee (f:=79) rfl ?_);refine gl_ (some 118) Tryz.func79 #[.int .i64 (wrap64 ((Go.bits .and .i64 ((rd_T139 x7_44 x64_4).f0) 1048575)+(Go.bits .and .i64 ((rd_T139 x7_44 x64_4).f1) 3)))] ?_;(with_reducible refine(florinlaw06_digits.calls kj60 (wrap64 ((Go.bits .and .i64 ((rd_T139 x7_44 x64_4).f0) 1048575)+(Go.bits .and .i64 ((rd_T139 x7_44 x64_4).f1) 3))) t661 _ A118.out).mono ?_);rintro e w127 ⟨rfl,hb⟩;refine⟨_,rfl,?_⟩;replace HO_62:=kb_ HO_62 hb;replace HO_639003:=kb_ HO_639003 hb;replace BK636:=bb_ BK636 hb;replace BK637:=bb_ BK637 hb;replace BK638:=bb_ BK638 hb;replace BK654:=bb_ BK654 hb;replace BK655:=bb_ BK655 hb;replace HB:=am_ (below_step (bl_ HB).out hb);(try clear hb);(try clear hi)))
  go_roundg kj60
  case measure=>have:=HJ6.out;have:=HJ35.out;have:=HJ44.out;have:=HK4.out;have:=HJ60.out;omega
  case rel=>exact⟨(((((x6_60++t659)++t639)++(⟨#[46,46]⟩:ByteArray))++t639)++t661),(wrap64 (x64_4+1)),(y656),(.slice Ao77 y656.length co77),eq_,eq_,H',⟨by have:=HJ6.out;have:=HJ35.out;have:=HJ44.out;have:=HK4.out;have:=HJ60.out;omega⟩,⟨kdR_ (Kd.R_mono HO_62.out (fun _ hk=>trivial))⟩,⟨kdR_ (Kd.R_mono HO_639003.out (fun _ hk=>trivial))⟩,(bk_ BK636),(bk_ BK637),(bk_ BK638),(bl_ HB)⟩
 rw[if_neg c57] at H
 have c57b0:=decide_eq_false c57
 clear c57
 simp only[Option.some.injEq,Prod.mk.injEq] at H
 obtain⟨rfl,rfl,rfl,rfl,rfl⟩:=H
 have hnb128:=NB638_636.out
 have hnc128:=NB636_638.out
 have hnb129:=NB638_637.out
 have hnc129:=NB637_638.out
 obtain⟨hcz130_0,hcz130_1,hcz130_2,hcz130_3,hfz130_0,hfz130_1,hfz130_2,hfz130_3⟩:=bo4_ BK638
 have hnb131:=NB637_636.out
 have hnc131:=NB636_637.out
 obtain⟨hcz132_0,hcz132_1,hcz132_2,hcz132_3,hfz132_0,hfz132_1,hfz132_2,hfz132_3⟩:=bo4_ BK637
 obtain⟨Ao133,co133,eo133⟩:=Kd.R_slice HO_639003.out
 subst eo133
 go_wp2
 refine bodyPost_ret (results_ct rfl _ _ gb637 53 #[.int .u8 (bt (⟨#[110,105,118,119,102,116,99,101]⟩:ByteArray) (Go.bits .and .i64 a0_0 7)),.int .i64 (Go.bits .and .i64 a0_1 65535),.bool a0_3,.slice Ao133 x639003_4.length co133] (0,0) _ rfl ((bp_ BK637).out) Tryz.underlying53 rfl (by kernel_rfl)) rfl ?_
 exact⟨_,by first|rfl|(simp[errW_none,errW_some] <;> rfl)|(simp[*,errW_none,errW_some] <;> first|rfl|exact given_isEmpty _|exact(given_isEmpty _).symm),kdR_ (Kd.R_mono (Kd.R_far (Kd.R_far (Kd.R_far (Kd.R_far (Kd.R_types HO_639003.out BK637.out (by decide)) (fun _ hk=>hk.2) _) (fun _ hk=>hk.2) _) (fun _ hk=>hk.2) _) (fun _ hk=>hk.2) _) (fun _ hk=>trivial)),by repeat(first|(with_reducible first|exact HB.out|apply below_alloc|apply pw_below_drewN|apply below_drew1|refine below_set ?_ GE636.out|refine below_set ?_ GE637.out|refine below_set ?_ GE638.out)|exact HB.out)⟩

end Go.Proofs.YtadagjgkanlmdaaGreatDoor.P
