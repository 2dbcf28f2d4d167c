import Derived.Test.YtadagjgkanlmdaaGreatDoorPx0
namespace Go.Proofs.YtadagjgkanlmdaaGreatDoor.P
open Go.RowKit Go.Proofs.YtadagjgkanlmdaaGreatDoorW.PrintWords Go.Proofs.YtadagjgkanlmdaaGreatDoorW.PrintLast Go.Proofs.YtadagjgkanlmdaaGreatDoorW.PrintMore
attribute [local go_sem] max2_int min2_int max_two min_two max_three min_three max_four min_four
set_option maxHeartbeats 64000000
set_option maxRecDepth 100000
set_option linter.unusedVariables false
set_option linter.unusedSimpArgs false

def florinlaw01_Digits.l0:Nat→ByteArray→List Int→Int→Int→Option (ByteArray)
 | 0,_,_,_,_=>none
 | k+1,x3,x6,x7,x8=>if x8<x7 then (if 0≤x8 then (if x8<(x6.length:Int) then ((some (([(48+(Int.tmod (rd x6 x8) 10))%256]:List Int):List Int)).bind fun y623=>(if x3.size+(strOfNums y623).size≤9223372036854775807 then (florinlaw01_Digits.l0 k (x3++(strOfNums y623)) x6 x7 (wrap64 (x8+1))) else (none))) else (none)) else (none)) else (some x3)
def florinlaw01_Digits.f (k:Nat) (l0:List Int):Option (ByteArray):=florinlaw01_Digits.l0 k (⟨#[]⟩:ByteArray) l0 (l0.length:Int) 0
theorem florinlaw01_Digits.calls (k:Nat) (A0:Option Addr) (c0:Nat) (l0:List Int) (r:ByteArray) (w:World) (hr0:Kd.C (Kd.int .u8) w A0 l0.length l0) (hc0:l0.length≤c0) (h:florinlaw01_Digits.f k l0=some r) :
  Calls Tryz.prog 26 #[.slice A0 l0.length c0] w fun e w'=>e= .returned (.string r)∧Below w.heap.size w w':=by
 have HR0:=am_ hr0
 have HC0:=am_ hc0
 clear hr0 hc0
 have HB:=am_ (Below.refl w.heap.size w)
 have H:=h
 clear h
 unfold florinlaw01_Digits.f at H
 have H':=am_ H
 clear H
 go_enter Tryz.func26,Tryz.ntmps26
 go_wp2
 go_loopg [3,8] k (fun kq v3 v8 w'=>∃(x3_1:ByteArray) (x8_1:Int),v3= .string x3_1∧v8= .int .i64 x8_1∧Aside0 (florinlaw01_Digits.l0 kq x3_1 l0 (l0.length:Int) x8_1=some r)∧Aside0 (kq≤k)∧Aside0 (Below w.heap.size w w'))
 case atStart=>exact⟨((⟨#[]⟩:ByteArray)),(0),eq_,eq_,H',⟨Nat.le_refl _⟩,(bl_ HB)⟩
 clear H'
 obtain⟨x3_1,x8_1,rfl,rfl,HA,HK1,HB⟩:=hrel
 cases gk with
 | zero=>exact absurd HA.out (by simp[florinlaw01_Digits.l0])
 | succ k1=>?_
 have H:=HA.out
 clear HA
 simp only[florinlaw01_Digits.l0] at H
 by_cases c2:x8_1<(l0.length:Int)
 ·rw[if_pos c2] at H
  have c2b0:=decide_eq_true c2
  clear c2
  replace H:=ifn_ H
  obtain⟨c3,H⟩:=H
  have c3b0:decide (0≤x8_1)=true:=decide_eq_true c3
  clear c3
  replace H:=ifn_ H
  obtain⟨c4,H⟩:=H
  have c4b0:decide (x8_1<(l0.length:Int))=true:=decide_eq_true c4
  clear c4
  obtain⟨y623,hy623⟩:∃y_:List Int,y_=(([(48+(Int.tmod (rd l0 x8_1) 10))%256]:List Int)):=⟨_,rfl⟩
  replace H:(if x3_1.size+(strOfNums y623).size≤9223372036854775807 then (florinlaw01_Digits.l0 k1 (x3_1++(strOfNums y623)) l0 (l0.length:Int) (wrap64 (x8_1+1))) else (none))=some r:=by first|(rw[hy623];with_reducible exact H)|(have H2_:=(Option.bind_some _ _).symm.trans H;rw[hy623];with_reducible exact H2_)|(have H2_:=(Option.bind_some _ _).symm.trans H;with_reducible exact H2_)|with_reducible exact H|(rw[hy623];exact H)|exact H
  have Ny623:=am_ hy623
  clear hy623
  replace H:=ifn_ H
  obtain⟨c5,H⟩:=H
  have c5b0:=eq_true c5
  have c5b1:decide (x3_1.size+(strOfNums y623).size≤9223372036854775807)=true:=decide_eq_true c5
  try have c5b2:=eq_false (Nat.not_lt.2 c5)
  have H':=am_ H
  clear H
  have p622:0≤(x8_1:Int):=od_
  have q622:x8_1<(l0.length:Int):=od_
  obtain⟨ad622,e622,hx622_0⟩:=Kd.at_int HR0.out x8_1 p622 q622
  cases e622
  replace hx622_0:=hbc_ HB hx622_0
  replace p622:=eq_true p622
  replace q622:=eq_true q622
  go_wp2_with (first|((with_reducible refine gate_dst (N:=16) rfl ?_);refine Kd.R_lit (Kd.int .u8) _ 5 ?hg (N:=16) ?hd (xs:=([(48+(Int.tmod (rd l0 x8_1) 10))%256]:List Int)) (inner:=[.int .u8 ((48+(Int.tmod (rd l0 x8_1) 10))%256)]) (ok:=fun _=>True) (okp:=fun _=>True) ?hr ?hp (fun _ hk=>hk) trivial (Below.refl _ _) (Nat.le_refl _) (by simp) ?_;(case hd=>rfl);(case hg=>rfl);(case hr=>first|(go_simp;done)|(go_simp;rfl));(case hp=>exact(Reps.one (show Kd.M (Kd.int .u8) _ _ _ ((48+(Int.tmod (rd l0 x8_1) 10))%256) [.int .u8 ((48+(Int.tmod (rd l0 x8_1) 10))%256)] from rfl) (Reps.none _ _)));intro v624 w6 ho7 hb hg_ hnew_;clear hg_ hnew_;(first|rw[← Ny623.out] at ho7|(simp only[Int.reduceToNat] at ho7;rw[← Ny623.out] at ho7));have HO625:=am_ (Kd.R_lower ho7 (below_size (bl_ HB).out));replace HB:=am_ (below_step (bl_ HB).out hb);clear hb ho7;have hcv8:=own_string (P:=Tryz.prog) Tryz.underlying23 Tryz.underlying5 Tryz.underlying9 (Kd.own_of_R HO625.out)))
  go_roundg k1
  case measure=>have:=HK1.out;omega
  case rel=>exact⟨(x3_1++(strOfNums y623)),(wrap64 (x8_1+1)),eq_,eq_,H',⟨by have:=HK1.out;omega⟩,(bl_ HB)⟩
 rw[if_neg c2] at H
 have c2b0:=decide_eq_false c2
 clear c2
 obtain rfl:=Option.some.inj H
 go_wp2
 go_ret
 exact⟨ew_,(bl_ HB).out⟩

end Go.Proofs.YtadagjgkanlmdaaGreatDoor.P
