-- written by a program of this session (wip/p2)
import Derived.Test.YtbhhfpjiacfofaaDoorPx0
import Derived.Test.YtbhhfpjiacfofaaDoorPx10
namespace Go.Proofs.YtbhhfpjiacfofaaDoor.P
open Go.RowKit Go.Proofs.YtbhhfpjiacfofaaDoorW.PrintWords Go.Proofs.YtbhhfpjiacfofaaDoorW.PrintLast Go.Proofs.YtbhhfpjiacfofaaDoorW.PrintMore
attribute [local go_sem] max2_int min2_int max_two min_two max_three min_three max_four min_four   -- for this text's walks alone
set_option linter.unusedVariables false
set_option linter.unusedSimpArgs false

/-! ### florinlaw08_Write: function 8 -/
mutual
def florinlaw08_Write.l0:Nat→List (S35)→ByteArray→List (List ByteArray)→List (S53)→Int→Int→Option ((List (S35)) × ByteArray × (List (List ByteArray)))
 | 0,_,_,_,_,_,_=>none
 | k+1,x5,x6,x7,x20,x21,x22=>if x22<x21 then (if 0≤x22 then (if x22<(x20.length:Int) then ((some (([(⟨#[]⟩:ByteArray),(⟨#[32]⟩:ByteArray),(⟨#[32,32]⟩:ByteArray),(⟨#[]⟩:ByteArray)]:List ByteArray):List ByteArray)).bind fun y380=>(if 0≤(Go.bits .and .i64 ((rd_T53 x20 x22).f3) 3) then (if (Go.bits .and .i64 ((rd_T53 x20 x22).f3) 3)<(y380.length:Int) then (if x6.size+(rdOf ByteArray.empty y380 (Go.bits .and .i64 ((rd_T53 x20 x22).f3) 3)).size≤9223372036854775807 then (if (rd_T53 x20 x22).f0=true then (if (x6++(rdOf ByteArray.empty y380 (Go.bits .and .i64 ((rd_T53 x20 x22).f3) 3))).size+8≤9223372036854775807 then (if ((x6++(rdOf ByteArray.empty y380 (Go.bits .and .i64 ((rd_T53 x20 x22).f3) 3)))++(⟨#[64,100,101,99,105,109,97,108]⟩:ByteArray)).size+(rdOf ByteArray.empty y380 (Go.bits .and .i64 ((rd_T53 x20 x22).f3) 3)).size≤9223372036854775807 then (florinlaw08_Write.j1 k x5 (((x6++(rdOf ByteArray.empty y380 (Go.bits .and .i64 ((rd_T53 x20 x22).f3) 3)))++(⟨#[64,100,101,99,105,109,97,108]⟩:ByteArray))++(rdOf ByteArray.empty y380 (Go.bits .and .i64 ((rd_T53 x20 x22).f3) 3))) x7 (rdOf ByteArray.empty y380 (Go.bits .and .i64 ((rd_T53 x20 x22).f3) 3)) x20 x21 x22 ((rd_T53 x20 x22).f0) ((rd_T53 x20 x22).f1) ((rd_T53 x20 x22).f2) ((rd_T53 x20 x22).f3) ((rd_T53 x20 x22).f0) false) else (none)) else (none)) else (if (x6++(rdOf ByteArray.empty y380 (Go.bits .and .i64 ((rd_T53 x20 x22).f3) 3))).size+8≤9223372036854775807 then (if ((x6++(rdOf ByteArray.empty y380 (Go.bits .and .i64 ((rd_T53 x20 x22).f3) 3)))++(⟨#[64,105,110,116,101,103,101,114]⟩:ByteArray)).size+(rdOf ByteArray.empty y380 (Go.bits .and .i64 ((rd_T53 x20 x22).f3) 3)).size≤9223372036854775807 then (florinlaw08_Write.j1 k x5 (((x6++(rdOf ByteArray.empty y380 (Go.bits .and .i64 ((rd_T53 x20 x22).f3) 3)))++(⟨#[64,105,110,116,101,103,101,114]⟩:ByteArray))++(rdOf ByteArray.empty y380 (Go.bits .and .i64 ((rd_T53 x20 x22).f3) 3))) x7 (rdOf ByteArray.empty y380 (Go.bits .and .i64 ((rd_T53 x20 x22).f3) 3)) x20 x21 x22 ((rd_T53 x20 x22).f0) ((rd_T53 x20 x22).f1) ((rd_T53 x20 x22).f2) ((rd_T53 x20 x22).f3) ((rd_T53 x20 x22).f0) false) else (none)) else (none))) else (none)) else (none)) else (none))) else (none)) else (none)) else (some (x5,x6,x7))
def florinlaw08_Write.j1:Nat→List (S35)→ByteArray→List (List ByteArray)→ByteArray→List (S53)→Int→Int→Bool→List (S55)→Int→Int→Bool→Bool→Option ((List (S35)) × ByteArray × (List (List ByteArray)))
 | 0,_,_,_,_,_,_,_,_,_,_,_,_,_=>none
 | k+1,x5,x6,x7,x10,x20,x21,x22,x380000,x380001,x380002,x380003,x385000,x385002=>(some (([]:List (S55)):List (S55))).bind fun y385=>(if y385.length+x380001.length<4398046511104 then ((some (y385++x380001:List (S55))).bind fun y388=>(if (y388.length:Int)=0 then (if y388.length<4398046511104 then (florinlaw08_Write.j2 k x5 x6 x7 x10 (y388++[(⟨0,0,0,0⟩:S55)]) x20 x21 x22 x380000 x380001 x380002 x380003 x385000 x385002) else (none)) else (florinlaw08_Write.j2 k x5 x6 x7 x10 y388 x20 x21 x22 x380000 x380001 x380002 x380003 x385000 x385002))) else (none))
def florinlaw08_Write.j2:Nat→List (S35)→ByteArray→List (List ByteArray)→ByteArray→List (S55)→List (S53)→Int→Int→Bool→List (S55)→Int→Int→Bool→Bool→Option ((List (S35)) × ByteArray × (List (List ByteArray)))
 | 0,_,_,_,_,_,_,_,_,_,_,_,_,_,_=>none
 | k+1,x5,x6,x7,x10,x12,x20,x21,x22,x380000,x380001,x380002,x380003,x385000,x385002=>florinlaw08_Write.l1 k x5 x6 x7 x10 x20 x21 x22 x12 (x12.length:Int) 0 x380000 x380001 x380002 x380003 x385000 ([]:List (S37)) x385002
def florinlaw08_Write.l1:Nat→List (S35)→ByteArray→List (List ByteArray)→ByteArray→List (S53)→Int→Int→List (S55)→Int→Int→Bool→List (S55)→Int→Int→Bool→List (S37)→Bool→Option ((List (S35)) × ByteArray × (List (List ByteArray)))
 | 0,_,_,_,_,_,_,_,_,_,_,_,_,_,_,_,_,_=>none
 | k+1,x5,x6,x7,x10,x20,x21,x22,x59,x60,x61,x380000,x380001,x380002,x380003,x385000,x385001,x385002=>if x61<x60 then (if 0≤x61 then (if x61<(x59.length:Int) then ((florinlaw08_One_item.f k ((rd_T55 x59 x61).f0) ((rd_T55 x59 x61).f1) ((rd_T55 x59 x61).f2) ((rd_T55 x59 x61).f3) x380000 x10).bind fun bt396=>(if x61>0 then (if x6.size+x10.size≤9223372036854775807 then (if (x6++x10).size+1≤9223372036854775807 then (if ((x6++x10)++(⟨#[44]⟩:ByteArray)).size+x10.size≤9223372036854775807 then (if (((x6++x10)++(⟨#[44]⟩:ByteArray))++x10).size+bt396.2.2.1.size≤9223372036854775807 then (if x385001.length<4398046511104 then (if x7.length<5864062014805 then (florinlaw08_Write.l1 k x5 ((((x6++x10)++(⟨#[44]⟩:ByteArray))++x10)++bt396.2.2.1) (x7++[bt396.2.2.2]) x10 x20 x21 x22 x59 x60 (wrap64 (x61+1)) x380000 x380001 x380002 x380003 x385000 (x385001++[(⟨bt396.1,bt396.2.1⟩:S37)]) x385002) else (none)) else (none)) else (none)) else (none)) else (none)) else (none)) else (if x6.size+bt396.2.2.1.size≤9223372036854775807 then (if x385001.length<4398046511104 then (if x7.length<5864062014805 then (florinlaw08_Write.l1 k x5 (x6++bt396.2.2.1) (x7++[bt396.2.2.2]) x10 x20 x21 x22 x59 x60 (wrap64 (x61+1)) x380000 x380001 x380002 x380003 x385000 (x385001++[(⟨bt396.1,bt396.2.1⟩:S37)]) x385002) else (none)) else (none)) else (none)))) else (none)) else (none)) else (if (Go.bits .and .i64 x380002 3)>1 then (if x6.size+1≤9223372036854775807 then (if (x6++(⟨#[44]⟩:ByteArray)).size+x10.size≤9223372036854775807 then ((some (([(⟨#[226,128,166]⟩:ByteArray),(⟨#[46,46,46]⟩:ByteArray)]:List ByteArray):List ByteArray)).bind fun y415=>(if 0≤(Go.bits .and .i64 x380002 1) then (if (Go.bits .and .i64 x380002 1)<(y415.length:Int) then (if ((x6++(⟨#[44]⟩:ByteArray))++x10).size+(rdOf ByteArray.empty y415 (Go.bits .and .i64 x380002 1)).size≤9223372036854775807 then (if (((x6++(⟨#[44]⟩:ByteArray))++x10)++(rdOf ByteArray.empty y415 (Go.bits .and .i64 x380002 1))).size+x10.size≤9223372036854775807 then (if x5.length<3518437208883 then (florinlaw08_Write.l0 k (x5++[(⟨x385000,x385001,true⟩:S35)]) ((((x6++(⟨#[44]⟩:ByteArray))++x10)++(rdOf ByteArray.empty y415 (Go.bits .and .i64 x380002 1)))++x10) x7 x20 x21 (wrap64 (x22+1))) else (none)) else (none)) else (none)) else (none)) else (none))) else (none)) else (none)) else (if x6.size+x10.size≤9223372036854775807 then (if x5.length<3518437208883 then (florinlaw08_Write.l0 k (x5++[(⟨x385000,x385001,x385002⟩:S35)]) (x6++x10) x7 x20 x21 (wrap64 (x22+1))) else (none)) else (none)))
end
def florinlaw08_Write.f (k:Nat) (l0:List (S53)):Option ((List (S35)) × ByteArray × (List (List ByteArray))):=florinlaw08_Write.l0 k (([]:List (S35))) (⟨#[]⟩:ByteArray) (([]:List (List ByteArray))) l0 (l0.length:Int) 0
set_option maxHeartbeats 64000000 in
set_option maxRecDepth 100000 in
theorem florinlaw08_Write.calls (k:Nat) (A0:Option Addr) (c0:Nat) (l0:List (S53)) (r1:List (S35)) (r2:ByteArray) (r3:List (List ByteArray)) (w:World) (hr0:Kd.C k53 w A0 l0.length l0) (hc0:l0.length≤c0) (h:florinlaw08_Write.f k l0=some (r1,r2,r3)) :
  Calls Tryd.prog 8 #[.slice A0 l0.length c0] w fun e w'=>∃v0_ v2_:Value,e= .returned (.tuple #[v0_,.string r2,v2_])∧Kd.S k35 35 w' w.heap.size (fun _=>True) v0_ r1∧Kd.S (Kd.slice 9 Kd.string) 38 w' w.heap.size (fun _=>True) v2_ r3∧Below w.heap.size w w':=by
 have hu53:=Tryd.underlying53
 have hu35:=Tryd.underlying35
 have hu55:=Tryd.underlying55
 have hu37:=Tryd.underlying37
 have HR0:=Aside0.mk hr0
 have HC0:=Aside0.mk hc0
 clear hr0 hc0
 have HB:=Aside0.mk (Below.refl w.heap.size w)
 have H:=h
 clear h
 unfold florinlaw08_Write.f at H
 obtain⟨y372,hy372⟩:∃y_:List (S35),y_=(([]:List (S35))):=⟨_,rfl⟩
 replace H:(florinlaw08_Write.l0 k y372 (⟨#[]⟩:ByteArray) (([]:List (List ByteArray))) l0 (l0.length:Int) 0)=some (r1,r2,r3):=by first|(rw[hy372];with_reducible exact H)|(have H2_:=(Option.bind_some _ _).symm.trans H;rw[hy372];with_reducible exact H2_)|(have H2_:=(Option.bind_some _ _).symm.trans H;with_reducible exact H2_)|with_reducible exact H|(rw[hy372];exact H)|exact H
 have Ny372:=Aside0.mk hy372
 clear hy372
 obtain⟨y375,hy375⟩:∃y_:List (List ByteArray),y_=(([]:List (List ByteArray))):=⟨_,rfl⟩
 replace H:(florinlaw08_Write.l0 k y372 (⟨#[]⟩:ByteArray) y375 l0 (l0.length:Int) 0)=some (r1,r2,r3):=by first|(rw[hy375];with_reducible exact H)|(have H2_:=(Option.bind_some _ _).symm.trans H;rw[hy375];with_reducible exact H2_)|(have H2_:=(Option.bind_some _ _).symm.trans H;with_reducible exact H2_)|with_reducible exact H|(rw[hy375];exact H)|exact H
 have Ny375:=Aside0.mk hy375
 clear hy375
 have H':=Aside0.mk H
 clear H
 go_enter Tryd.func8,Tryd.ntmps8
 go_wp2_with (first|((with_reducible refine gate_dst (N:=18) rfl ?_);refine Kd.S_lit k35 _ 35 ?hg (N:=18) ?hd (xs:=([]:List (S35))) (inner:=[]) (ok:=fun _=>True) (okp:=fun _=>True) ?hr ?hp (fun _ hk=>hk) trivial (Below.refl _ _) (Nat.le_refl _) (by simp) ?_;(case hd=>rfl);(case hg=>rfl);(case hr=>first|(go_simp;done)|(go_simp;rfl));(case hp=>exact(Reps.none _ _));intro v373 w2 ho3 hb hg_ hnew_;clear hg_ hnew_;(first|rw[← Ny372.out] at ho3|(simp only[Int.reduceToNat] at ho3;rw[← Ny372.out] at ho3));have HO374:=Aside0.mk (Kd.S_lower ho3 (below_size (bl_ HB).out));replace HB:=Aside0.mk (below_step (bl_ HB).out hb);clear hb ho3)|((with_reducible refine gate_dst (N:=19) rfl ?_);refine Kd.S_lit (Kd.slice 9 Kd.string) _ 38 ?hg (N:=19) ?hd (xs:=([]:List (List ByteArray))) (inner:=[]) (ok:=fun _=>True) (okp:=fun _=>True) ?hr ?hp (fun _ hk=>hk) trivial (Below.refl _ _) (Nat.le_refl _) (by simp) ?_;(case hd=>rfl);(case hg=>rfl);(case hr=>first|(go_simp;done)|(go_simp;rfl));(case hp=>exact(Reps.none _ _));intro v376 w4 ho5 hb hg_ hnew_;clear hg_ hnew_;(first|rw[← Ny375.out] at ho5|(simp only[Int.reduceToNat] at ho5;rw[← Ny375.out] at ho5));have HO377:=Aside0.mk (Kd.S_lower ho5 (below_size (bl_ HB).out));replace HO374:=Aside0.mk (Kd.S_below (krS_ HO374) hb);replace HB:=Aside0.mk (below_step (bl_ HB).out hb);clear hb ho5))
 go_loopg [5,6,7,22] k (fun kq v5 v6 v7 v22 w'=>∃(x5_1:List (S35)) (x6_1:ByteArray) (x7_1:List (List ByteArray)) (x22_1:Int),v6= .string x6_1∧v22= .int .i64 x22_1∧Aside0 (florinlaw08_Write.l0 kq x5_1 x6_1 x7_1 l0 (l0.length:Int) x22_1=some (r1,r2,r3))∧Aside0 (kq≤k)∧Aside0 (Kd.S k35 35 w' w.heap.size (fun _=>True) v5 x5_1)∧Aside0 (Kd.S (Kd.slice 9 Kd.string) 38 w' w.heap.size (fun _=>True) v7 x7_1)∧Aside0 (Below w.heap.size w w'))
 case atStart=>exact⟨(y372),((⟨#[]⟩:ByteArray)),(y375),(0),eq_,eq_,H',⟨Nat.le_refl _⟩,⟨by (with_reducible repeat(first|apply Kd.S_alloc|apply Kd.S_drewN|apply Kd.S_drew));exact HO374.out⟩,⟨by (with_reducible repeat(first|apply Kd.S_alloc|apply Kd.S_drewN|apply Kd.S_drew));exact HO377.out⟩,(bl_ HB)⟩
 clear H'
 obtain⟨x5_1,x6_1,x7_1,x22_1,rfl,rfl,HA,HK1,HO_5,HO_7,HB⟩:=hrel
 cases gk with
 | zero=>exact absurd HA.out (by simp[florinlaw08_Write.l0])
 | succ k1=>?_
 have H:=HA.out
 clear HA
 simp only[florinlaw08_Write.l0] at H
 by_cases c6:x22_1<(l0.length:Int)
 ·rw[if_pos c6] at H
  have c6b0:=decide_eq_true c6
  clear c6
  replace H:=ifn_ H
  obtain⟨c7,H⟩:=H
  have c7b0:decide (0≤x22_1)=true:=decide_eq_true c7
  clear c7
  replace H:=ifn_ H
  obtain⟨c8,H⟩:=H
  have c8b0:decide (x22_1<(l0.length:Int))=true:=decide_eq_true c8
  clear c8
  obtain⟨y380,hy380⟩:∃y_:List ByteArray,y_=(([(⟨#[]⟩:ByteArray),(⟨#[32]⟩:ByteArray),(⟨#[32,32]⟩:ByteArray),(⟨#[]⟩:ByteArray)]:List ByteArray)):=⟨_,rfl⟩
  replace H:(if 0≤(Go.bits .and .i64 ((rd_T53 l0 x22_1).f3) 3) then (if (Go.bits .and .i64 ((rd_T53 l0 x22_1).f3) 3)<(y380.length:Int) then (if x6_1.size+(rdOf ByteArray.empty y380 (Go.bits .and .i64 ((rd_T53 l0 x22_1).f3) 3)).size≤9223372036854775807 then (if (rd_T53 l0 x22_1).f0=true then (if (x6_1++(rdOf ByteArray.empty y380 (Go.bits .and .i64 ((rd_T53 l0 x22_1).f3) 3))).size+8≤9223372036854775807 then (if ((x6_1++(rdOf ByteArray.empty y380 (Go.bits .and .i64 ((rd_T53 l0 x22_1).f3) 3)))++(⟨#[64,100,101,99,105,109,97,108]⟩:ByteArray)).size+(rdOf ByteArray.empty y380 (Go.bits .and .i64 ((rd_T53 l0 x22_1).f3) 3)).size≤9223372036854775807 then (florinlaw08_Write.j1 k1 x5_1 (((x6_1++(rdOf ByteArray.empty y380 (Go.bits .and .i64 ((rd_T53 l0 x22_1).f3) 3)))++(⟨#[64,100,101,99,105,109,97,108]⟩:ByteArray))++(rdOf ByteArray.empty y380 (Go.bits .and .i64 ((rd_T53 l0 x22_1).f3) 3))) x7_1 (rdOf ByteArray.empty y380 (Go.bits .and .i64 ((rd_T53 l0 x22_1).f3) 3)) l0 (l0.length:Int) x22_1 ((rd_T53 l0 x22_1).f0) ((rd_T53 l0 x22_1).f1) ((rd_T53 l0 x22_1).f2) ((rd_T53 l0 x22_1).f3) ((rd_T53 l0 x22_1).f0) false) else (none)) else (none)) else (if (x6_1++(rdOf ByteArray.empty y380 (Go.bits .and .i64 ((rd_T53 l0 x22_1).f3) 3))).size+8≤9223372036854775807 then (if ((x6_1++(rdOf ByteArray.empty y380 (Go.bits .and .i64 ((rd_T53 l0 x22_1).f3) 3)))++(⟨#[64,105,110,116,101,103,101,114]⟩:ByteArray)).size+(rdOf ByteArray.empty y380 (Go.bits .and .i64 ((rd_T53 l0 x22_1).f3) 3)).size≤9223372036854775807 then (florinlaw08_Write.j1 k1 x5_1 (((x6_1++(rdOf ByteArray.empty y380 (Go.bits .and .i64 ((rd_T53 l0 x22_1).f3) 3)))++(⟨#[64,105,110,116,101,103,101,114]⟩:ByteArray))++(rdOf ByteArray.empty y380 (Go.bits .and .i64 ((rd_T53 l0 x22_1).f3) 3))) x7_1 (rdOf ByteArray.empty y380 (Go.bits .and .i64 ((rd_T53 l0 x22_1).f3) 3)) l0 (l0.length:Int) x22_1 ((rd_T53 l0 x22_1).f0) ((rd_T53 l0 x22_1).f1) ((rd_T53 l0 x22_1).f2) ((rd_T53 l0 x22_1).f3) ((rd_T53 l0 x22_1).f0) false) else (none)) else (none))) else (none)) else (none)) else (none))=some (r1,r2,r3):=by first|(rw[hy380];with_reducible exact H)|(have H2_:=(Option.bind_some _ _).symm.trans H;rw[hy380];with_reducible exact H2_)|(have H2_:=(Option.bind_some _ _).symm.trans H;with_reducible exact H2_)|with_reducible exact H|(rw[hy380];exact H)|exact H
  have Ny380:=Aside0.mk hy380
  clear hy380
  replace H:=ifn_ H
  obtain⟨c9,H⟩:=H
  have c9b0:decide (0≤(Go.bits .and .i64 ((rd_T53 l0 x22_1).f3) 3))=true:=decide_eq_true c9
  clear c9
  replace H:=ifn_ H
  obtain⟨c10,H⟩:=H
  have c10b0:decide ((Go.bits .and .i64 ((rd_T53 l0 x22_1).f3) 3)<(y380.length:Int))=true:=decide_eq_true c10
  clear c10
  replace H:=ifn_ H
  obtain⟨c11,H⟩:=H
  have c11b0:=eq_true c11
  have c11b1:decide (x6_1.size+(rdOf ByteArray.empty y380 (Go.bits .and .i64 ((rd_T53 l0 x22_1).f3) 3)).size≤9223372036854775807)=true:=decide_eq_true c11
  try have c11b2:=eq_false (Nat.not_lt.2 c11)
  have HC12:=Aside0.mk H
  clear H
  have p378:0≤(x22_1:Int):=od_
  have q378:x22_1<(l0.length:Int):=od_
  obtain⟨ad378,A378_1,c378_1,e378,hx378_0,hx378_1,hx378_2,hx378_3,hl378_1,hi378_1⟩:=at_T53 HR0.out x22_1 p378 q378
  cases e378
  replace hx378_0:=hbc_ HB hx378_0
  replace hx378_1:=hbc_ HB hx378_1
  replace hx378_2:=hbc_ HB hx378_2
  replace hx378_3:=hbc_ HB hx378_3
  have HR378_1:=Aside0.mk hi378_1
  have HC378_1:=Aside0.mk hl378_1
  clear hi378_1 hl378_1
  replace p378:=eq_true p378
  replace q378:=eq_true q378
  go_upto_if 39 with (first|((with_reducible refine gate_dst (N:=9) rfl ?_);refine be_ 9 #[.bool false,.slice none 0 0,.int .i64 0,.int .i64 0] 53 ?_;intro gb379 hg w13 hbox hb;have BK379:=Aside0.mk (hbox);have GW379:=sz_ HB hg;have GE379:=sz_ HB hg;replace HO_5:=Aside0.mk (Kd.S_below (krS_ HO_5) hb);replace HO_7:=Aside0.mk (Kd.S_below (krS_ HO_7) hb);replace HB:=Aside0.mk (below_step (bl_ HB).out hb);clear hb hbox hg;obtain⟨hcz14_0,hcz14_1,hcz14_2,hcz14_3,hfz14_0,hfz14_1,hfz14_2,hfz14_3⟩:=bo4_ BK379)|((with_reducible refine gate_dst (N:=26) rfl ?_);refine Kd.R_lit Kd.string _ 9 ?hg (N:=26) ?hd (xs:=([(⟨#[]⟩:ByteArray),(⟨#[32]⟩:ByteArray),(⟨#[32,32]⟩:ByteArray),(⟨#[]⟩:ByteArray)]:List ByteArray)) (inner:=[.string (⟨#[]⟩:ByteArray),.string (⟨#[32]⟩:ByteArray),.string (⟨#[32,32]⟩:ByteArray),.string (⟨#[]⟩:ByteArray)]) (ok:=fun _=>True) (okp:=fun _=>True) ?hr ?hp (fun _ hk=>hk) trivial (Below.refl _ _) (Nat.le_refl _) (by simp) ?_;(case hd=>rfl);(case hg=>rfl);(case hr=>first|(go_simp;done)|(go_simp;rfl));(case hp=>exact(Reps.one (show Kd.M Kd.string _ _ _ (⟨#[]⟩:ByteArray) [.string (⟨#[]⟩:ByteArray)] from rfl) (Reps.one (show Kd.M Kd.string _ _ _ (⟨#[32]⟩:ByteArray) [.string (⟨#[32]⟩:ByteArray)] from rfl) (Reps.one (show Kd.M Kd.string _ _ _ (⟨#[32,32]⟩:ByteArray) [.string (⟨#[32,32]⟩:ByteArray)] from rfl) (Reps.one (show Kd.M Kd.string _ _ _ (⟨#[]⟩:ByteArray) [.string (⟨#[]⟩:ByteArray)] from rfl) (Reps.none _ _))))));intro v381 w15 ho16 hb hg_ hnew_;clear hg_ hnew_;(first|rw[← Ny380.out] at ho16|(simp only[Int.reduceToNat] at ho16;rw[← Ny380.out] at ho16));have n0_:=Aside0.mk (Kd.S_below (by (with_reducible repeat(first|apply Kd.S_alloc|apply Kd.S_drewN|apply Kd.S_drew));exact(Kd.S_mono (Kd.S_far (Kd.S_far (Kd.S_far (Kd.S_far (Kd.S_types HO_5.out BK379.out (by decide)) (fun _ hk=>hk.2) _) (fun _ hk=>hk.2) _) (fun _ hk=>hk.2) _) (fun _ hk=>hk.2) _) (fun _ h_=>h_.1))) hb);have n1_:=Aside0.mk (Kd.S_elder' (by (with_reducible repeat(first|apply Kd.S_alloc|apply Kd.S_drewN|apply Kd.S_drew));exact(Kd.S_mono (Kd.S_far (Kd.S_far (Kd.S_far (Kd.S_far (Kd.S_types HO_7.out BK379.out (by decide)) (fun _ hk=>hk.2) _) (fun _ hk=>hk.2) _) (fun _ hk=>hk.2) _) (fun _ hk=>hk.2) _) (fun _ h_=>h_.1))) (Kd.R_base ho16) hb);have n2_:=Aside0.mk (Kd.R_lower ho16 (below_size (bl_ HB).out));have n3_:=Aside0.mk (blk_below (g:=gb379) (o:= .cells #[.bool ((rd_T53 l0 x22_1).f0),.slice A378_1 ((rd_T53 l0 x22_1).f1).length c378_1,.int .i64 ((rd_T53 l0 x22_1).f2),.int .i64 ((rd_T53 l0 x22_1).f3)] 53 (0,0)) ((bp_ BK379).out) hb);have n4_:=Aside0.mk (below_step (bl_ HB).out hb);clear HO_5;clear HO_7;clear BK379;clear HB;revert n0_ n1_ n2_ n3_ n4_;intro HO_5 HO_7 HO382 BK379 HB;clear hb ho16;obtain⟨hcz17_0,hcz17_1,hcz17_2,hcz17_3,hfz17_0,hfz17_1,hfz17_2,hfz17_3⟩:=bo4_ BK379;obtain⟨Ao18,co18,eo18⟩:=Kd.R_slice HO382.out;subst eo18;have p383:0≤((Go.bits .and .i64 ((rd_T53 l0 x22_1).f3) 3):Int):=od_;have q383:(Go.bits .and .i64 ((rd_T53 l0 x22_1).f3) 3)<(y380.length:Int):=od_;obtain⟨ad383,e383,hx383_0⟩:=Kd.at_string (Kd.R_reads' HO382.out).2.2 (Go.bits .and .i64 ((rd_T53 l0 x22_1).f3) 3) p383 q383;cases e383;replace p383:=eq_true p383;replace q383:=eq_true q383)|((with_reducible refine gate_dst (N:=11) rfl ?_);refine be_ 11 #[.bool false,.slice none 0 0,.bool false] 35 ?_;intro gb384 hg w19 hbox hb;have BK384:=Aside0.mk (hbox);have GW384:=sz_ HB hg;have GE384:=sz_ HB hg;have NB379_384:=na_ BK379 hg;have NB384_379:=nb_ BK379 hg;replace HO_5:=Aside0.mk (Kd.S_below (Kd.S_elderB (krS_ HO_5) gb384 (Nat.le_of_eq hg.symm)) hb);replace HO_7:=Aside0.mk (Kd.S_below (krS_ HO_7) hb);replace HO382:=kb_ HO382 hb;replace BK379:=bb_ BK379 hb;replace HB:=Aside0.mk (below_step (bl_ HB).out hb);clear hb hbox hg;have hnb20:=NB384_379.out;have hnc20:=NB379_384.out;obtain⟨hcz21_0,hcz21_1,hcz21_2,hfz21_0,hfz21_1,hfz21_2⟩:=bo3_ BK384;obtain⟨hcz22_0,hcz22_1,hcz22_2,hcz22_3,hfz22_0,hfz22_1,hfz22_2,hfz22_3⟩:=bo4_ BK379))
  (try simp only[Act.put,List.setIfInBounds_toArray,List.set_cons_zero,List.set_cons_succ])
  go_cut [6] (fun v6 wc=>∃(kq:Nat) (x6_11:ByteArray),v6= .string x6_11∧Aside0 (florinlaw08_Write.j1 kq x5_1 x6_11 x7_1 (rdOf ByteArray.empty y380 (Go.bits .and .i64 ((rd_T53 l0 x22_1).f3) 3)) l0 (l0.length:Int) x22_1 ((rd_T53 l0 x22_1).f0) ((rd_T53 l0 x22_1).f1) ((rd_T53 l0 x22_1).f2) ((rd_T53 l0 x22_1).f3) ((rd_T53 l0 x22_1).f0) false=some (r1,r2,r3))∧Aside0 (kq≤k1)∧Aside0 (Kd.S k35 35 wc w.heap.size (fun k_=>k_≠gb384) u5 x5_1)∧Aside0 (Kd.S (Kd.slice 9 Kd.string) 38 wc w.heap.size (fun _=>True) u7 x7_1)∧Aside0 (wc.heap[gb379]? = some (.cells #[.bool ((rd_T53 l0 x22_1).f0),(.slice A378_1 ((rd_T53 l0 x22_1).f1).length c378_1),.int .i64 ((rd_T53 l0 x22_1).f2),.int .i64 ((rd_T53 l0 x22_1).f3)] 53 (0,0)))∧Aside0 (wc.heap[gb384]? = some (.cells #[.bool ((rd_T53 l0 x22_1).f0),(.slice none 0 0),.bool false] 35 (0,0)))∧Aside0 (Below w.heap.size w wc))
  case first =>
   have H:=HC12.out
   clear HC12
   obtain⟨bq23,hbq23⟩:∃b_:Bool,b_=((rd_T53 l0 x22_1).f0):=⟨_,rfl⟩
   replace H:(if bq23=true then (if (x6_1++(rdOf ByteArray.empty y380 (Go.bits .and .i64 ((rd_T53 l0 x22_1).f3) 3))).size+8≤9223372036854775807 then (if ((x6_1++(rdOf ByteArray.empty y380 (Go.bits .and .i64 ((rd_T53 l0 x22_1).f3) 3)))++(⟨#[64,100,101,99,105,109,97,108]⟩:ByteArray)).size+(rdOf ByteArray.empty y380 (Go.bits .and .i64 ((rd_T53 l0 x22_1).f3) 3)).size≤9223372036854775807 then (florinlaw08_Write.j1 k1 x5_1 (((x6_1++(rdOf ByteArray.empty y380 (Go.bits .and .i64 ((rd_T53 l0 x22_1).f3) 3)))++(⟨#[64,100,101,99,105,109,97,108]⟩:ByteArray))++(rdOf ByteArray.empty y380 (Go.bits .and .i64 ((rd_T53 l0 x22_1).f3) 3))) x7_1 (rdOf ByteArray.empty y380 (Go.bits .and .i64 ((rd_T53 l0 x22_1).f3) 3)) l0 (l0.length:Int) x22_1 bq23 ((rd_T53 l0 x22_1).f1) ((rd_T53 l0 x22_1).f2) ((rd_T53 l0 x22_1).f3) bq23 false) else (none)) else (none)) else (if (x6_1++(rdOf ByteArray.empty y380 (Go.bits .and .i64 ((rd_T53 l0 x22_1).f3) 3))).size+8≤9223372036854775807 then (if ((x6_1++(rdOf ByteArray.empty y380 (Go.bits .and .i64 ((rd_T53 l0 x22_1).f3) 3)))++(⟨#[64,105,110,116,101,103,101,114]⟩:ByteArray)).size+(rdOf ByteArray.empty y380 (Go.bits .and .i64 ((rd_T53 l0 x22_1).f3) 3)).size≤9223372036854775807 then (florinlaw08_Write.j1 k1 x5_1 (((x6_1++(rdOf ByteArray.empty y380 (Go.bits .and .i64 ((rd_T53 l0 x22_1).f3) 3)))++(⟨#[64,105,110,116,101,103,101,114]⟩:ByteArray))++(rdOf ByteArray.empty y380 (Go.bits .and .i64 ((rd_T53 l0 x22_1).f3) 3))) x7_1 (rdOf ByteArray.empty y380 (Go.bits .and .i64 ((rd_T53 l0 x22_1).f3) 3)) l0 (l0.length:Int) x22_1 bq23 ((rd_T53 l0 x22_1).f1) ((rd_T53 l0 x22_1).f2) ((rd_T53 l0 x22_1).f3) bq23 false) else (none)) else (none)))=some (r1,r2,r3):=by rw[← hbq23] at H;exact H
   have Nbq23:=Aside0.mk hbq23
   clear hbq23
   (try rw[← Nbq23.out])
   by_cases c24:bq23=true
   ·subst c24
    rw[if_pos rfl] at H
    replace H:=ifn_ H
    obtain⟨c25,H⟩:=H
    have c25b0:=eq_true c25
    have c25b1:decide ((x6_1++(rdOf ByteArray.empty y380 (Go.bits .and .i64 ((rd_T53 l0 x22_1).f3) 3))).size+8≤9223372036854775807)=true:=decide_eq_true c25
    try (have c25b5:=c25b0;simp only[ByteArray.size_append,Int.natCast_add] at c25b5)
    try have c25b2:=eq_false (Nat.not_lt.2 c25)
    try have c25b3:(9223372036854775807<x6_1.size+(rdOf ByteArray.empty y380 (Go.bits .and .i64 ((rd_T53 l0 x22_1).f3) 3)).size+8)=False:=eq_false (Nat.not_lt.2 (by have h_:=c25;simp only[ByteArray.size_append] at h_;exact h_))
    try have c25b4:(x6_1.size+(rdOf ByteArray.empty y380 (Go.bits .and .i64 ((rd_T53 l0 x22_1).f3) 3)).size+8≤9223372036854775807)=True:=eq_true (by have h_:=c25;simp only[ByteArray.size_append] at h_;exact h_)
    replace H:=ifn_ H
    obtain⟨c26,H⟩:=H
    have c26b0:=eq_true c26
    have c26b1:decide (((x6_1++(rdOf ByteArray.empty y380 (Go.bits .and .i64 ((rd_T53 l0 x22_1).f3) 3)))++(⟨#[64,100,101,99,105,109,97,108]⟩:ByteArray)).size+(rdOf ByteArray.empty y380 (Go.bits .and .i64 ((rd_T53 l0 x22_1).f3) 3)).size≤9223372036854775807)=true:=decide_eq_true c26
    try (have c26b5:=c26b0;simp only[ByteArray.size_append,Int.natCast_add] at c26b5)
    try have c26b2:=eq_false (Nat.not_lt.2 c26)
    try have c26b3:(9223372036854775807<x6_1.size+(rdOf ByteArray.empty y380 (Go.bits .and .i64 ((rd_T53 l0 x22_1).f3) 3)).size+8+(rdOf ByteArray.empty y380 (Go.bits .and .i64 ((rd_T53 l0 x22_1).f3) 3)).size)=False:=eq_false (Nat.not_lt.2 (by have h_:=c26;simp only[ByteArray.size_append] at h_;exact h_))
    try have c26b4:(x6_1.size+(rdOf ByteArray.empty y380 (Go.bits .and .i64 ((rd_T53 l0 x22_1).f3) 3)).size+8+(rdOf ByteArray.empty y380 (Go.bits .and .i64 ((rd_T53 l0 x22_1).f3) 3)).size≤9223372036854775807)=True:=eq_true (by have h_:=c26;simp only[ByteArray.size_append] at h_;exact h_)
    have H':=Aside0.mk H
    clear H
    go_wp2
    (try (have qb_:=Nbq23.out.symm;simp only[qb_] at *))
    go_meet
    case rel=>exact⟨_,(((x6_1++(rdOf ByteArray.empty y380 (Go.bits .and .i64 ((rd_T53 l0 x22_1).f3) 3)))++(⟨#[64,100,101,99,105,109,97,108]⟩:ByteArray))++(rdOf ByteArray.empty y380 (Go.bits .and .i64 ((rd_T53 l0 x22_1).f3) 3))),eq_,H',⟨by have:=HK1.out;first|omega|exact Nat.le_refl _⟩,⟨by (with_reducible repeat(first|apply Kd.S_alloc|apply Kd.S_drewN|apply Kd.S_drew));exact Kd.S_mono (Kd.S_far (Kd.S_far (Kd.S_far (Kd.S_mono HO_5.out (fun k_ hk=>(⟨hk,hk.2⟩:_∧k_≠gb384))) (fun _ hk=>hk.2) _) (fun _ hk=>hk.2) _) (fun _ hk=>hk.2) _) (fun _ hk=>hk.1.2)⟩,⟨by (with_reducible repeat(first|apply Kd.S_alloc|apply Kd.S_drewN|apply Kd.S_drew));exact Kd.S_mono (Kd.S_far (Kd.S_far (Kd.S_far (Kd.S_types HO_7.out BK384.out (by decide)) (fun _ hk=>hk.2) _) (fun _ hk=>hk.2) _) (fun _ hk=>hk.2) _) (fun _ hk=>trivial)⟩,⟨(bf_ BK379).out⟩,⟨(bp_ BK384).out⟩,(bl_ HB)⟩
   replace c24:=Bool.eq_false_iff.mpr c24
   subst c24
   rw[if_neg (show ¬(false=true) by decide)] at H
   replace H:=ifn_ H
   obtain⟨c27,H⟩:=H
   have c27b0:=eq_true c27
   have c27b1:decide ((x6_1++(rdOf ByteArray.empty y380 (Go.bits .and .i64 ((rd_T53 l0 x22_1).f3) 3))).size+8≤9223372036854775807)=true:=decide_eq_true c27
   try (have c27b5:=c27b0;simp only[ByteArray.size_append,Int.natCast_add] at c27b5)
   try have c27b2:=eq_false (Nat.not_lt.2 c27)
   try have c27b3:(9223372036854775807<x6_1.size+(rdOf ByteArray.empty y380 (Go.bits .and .i64 ((rd_T53 l0 x22_1).f3) 3)).size+8)=False:=eq_false (Nat.not_lt.2 (by have h_:=c27;simp only[ByteArray.size_append] at h_;exact h_))
   try have c27b4:(x6_1.size+(rdOf ByteArray.empty y380 (Go.bits .and .i64 ((rd_T53 l0 x22_1).f3) 3)).size+8≤9223372036854775807)=True:=eq_true (by have h_:=c27;simp only[ByteArray.size_append] at h_;exact h_)
   replace H:=ifn_ H
   obtain⟨c28,H⟩:=H
   have c28b0:=eq_true c28
   have c28b1:decide (((x6_1++(rdOf ByteArray.empty y380 (Go.bits .and .i64 ((rd_T53 l0 x22_1).f3) 3)))++(⟨#[64,105,110,116,101,103,101,114]⟩:ByteArray)).size+(rdOf ByteArray.empty y380 (Go.bits .and .i64 ((rd_T53 l0 x22_1).f3) 3)).size≤9223372036854775807)=true:=decide_eq_true c28
   try (have c28b5:=c28b0;simp only[ByteArray.size_append,Int.natCast_add] at c28b5)
   try have c28b2:=eq_false (Nat.not_lt.2 c28)
   try have c28b3:(9223372036854775807<x6_1.size+(rdOf ByteArray.empty y380 (Go.bits .and .i64 ((rd_T53 l0 x22_1).f3) 3)).size+8+(rdOf ByteArray.empty y380 (Go.bits .and .i64 ((rd_T53 l0 x22_1).f3) 3)).size)=False:=eq_false (Nat.not_lt.2 (by have h_:=c28;simp only[ByteArray.size_append] at h_;exact h_))
   try have c28b4:(x6_1.size+(rdOf ByteArray.empty y380 (Go.bits .and .i64 ((rd_T53 l0 x22_1).f3) 3)).size+8+(rdOf ByteArray.empty y380 (Go.bits .and .i64 ((rd_T53 l0 x22_1).f3) 3)).size≤9223372036854775807)=True:=eq_true (by have h_:=c28;simp only[ByteArray.size_append] at h_;exact h_)
   have H':=Aside0.mk H
   clear H
   go_wp2
   (try (have qb_:=Nbq23.out.symm;simp only[qb_] at *))
   go_meet
   case rel=>exact⟨_,(((x6_1++(rdOf ByteArray.empty y380 (Go.bits .and .i64 ((rd_T53 l0 x22_1).f3) 3)))++(⟨#[64,105,110,116,101,103,101,114]⟩:ByteArray))++(rdOf ByteArray.empty y380 (Go.bits .and .i64 ((rd_T53 l0 x22_1).f3) 3))),eq_,H',⟨by have:=HK1.out;first|omega|exact Nat.le_refl _⟩,⟨by (with_reducible repeat(first|apply Kd.S_alloc|apply Kd.S_drewN|apply Kd.S_drew));exact Kd.S_mono (Kd.S_far (Kd.S_far (Kd.S_far (Kd.S_mono HO_5.out (fun k_ hk=>(⟨hk,hk.2⟩:_∧k_≠gb384))) (fun _ hk=>hk.2) _) (fun _ hk=>hk.2) _) (fun _ hk=>hk.2) _) (fun _ hk=>hk.1.2)⟩,⟨by (with_reducible repeat(first|apply Kd.S_alloc|apply Kd.S_drewN|apply Kd.S_drew));exact Kd.S_mono (Kd.S_far (Kd.S_far (Kd.S_far (Kd.S_types HO_7.out BK384.out (by decide)) (fun _ hk=>hk.2) _) (fun _ hk=>hk.2) _) (fun _ hk=>hk.2) _) (fun _ hk=>trivial)⟩,⟨(bf_ BK379).out⟩,⟨(bp_ BK384).out⟩,(bl_ HB)⟩
  clear HC12
  obtain⟨kq,x6_11,rfl,HA,HJ11,HO_5,HO_7,BK379,BK384,HB⟩:=hcut
  cases kq with
  | zero=>exact absurd HA.out (by simp[florinlaw08_Write.j1])
  | succ kj11=>?_
  have H:=HA.out
  clear HA
  simp only[florinlaw08_Write.j1] at H
  obtain⟨y385,hy385⟩:∃y_:List (S55),y_=(([]:List (S55))):=⟨_,rfl⟩
  replace H:(if y385.length+((rd_T53 l0 x22_1).f1).length<4398046511104 then ((some (y385++((rd_T53 l0 x22_1).f1):List (S55))).bind fun y388=>(if (y388.length:Int)=0 then (if y388.length<4398046511104 then (florinlaw08_Write.j2 kj11 x5_1 x6_11 x7_1 (rdOf ByteArray.empty y380 (Go.bits .and .i64 ((rd_T53 l0 x22_1).f3) 3)) (y388++[(⟨0,0,0,0⟩:S55)]) l0 (l0.length:Int) x22_1 ((rd_T53 l0 x22_1).f0) ((rd_T53 l0 x22_1).f1) ((rd_T53 l0 x22_1).f2) ((rd_T53 l0 x22_1).f3) ((rd_T53 l0 x22_1).f0) false) else (none)) else (florinlaw08_Write.j2 kj11 x5_1 x6_11 x7_1 (rdOf ByteArray.empty y380 (Go.bits .and .i64 ((rd_T53 l0 x22_1).f3) 3)) y388 l0 (l0.length:Int) x22_1 ((rd_T53 l0 x22_1).f0) ((rd_T53 l0 x22_1).f1) ((rd_T53 l0 x22_1).f2) ((rd_T53 l0 x22_1).f3) ((rd_T53 l0 x22_1).f0) false))) else (none))=some (r1,r2,r3):=by first|(rw[hy385];with_reducible exact H)|(have H2_:=(Option.bind_some _ _).symm.trans H;rw[hy385];with_reducible exact H2_)|(have H2_:=(Option.bind_some _ _).symm.trans H;with_reducible exact H2_)|with_reducible exact H|(rw[hy385];exact H)|exact H
  have Ny385:=Aside0.mk hy385
  clear hy385
  replace H:=ifn_ H
  obtain⟨c29,H⟩:=H
  have LMc29:=Aside0.mk c29
  clear c29
  obtain⟨y388,hy388⟩:∃y_:List (S55),y_=(y385++((rd_T53 l0 x22_1).f1)):=⟨_,rfl⟩
  replace H:(if (y388.length:Int)=0 then (if y388.length<4398046511104 then (florinlaw08_Write.j2 kj11 x5_1 x6_11 x7_1 (rdOf ByteArray.empty y380 (Go.bits .and .i64 ((rd_T53 l0 x22_1).f3) 3)) (y388++[(⟨0,0,0,0⟩:S55)]) l0 (l0.length:Int) x22_1 ((rd_T53 l0 x22_1).f0) ((rd_T53 l0 x22_1).f1) ((rd_T53 l0 x22_1).f2) ((rd_T53 l0 x22_1).f3) ((rd_T53 l0 x22_1).f0) false) else (none)) else (florinlaw08_Write.j2 kj11 x5_1 x6_11 x7_1 (rdOf ByteArray.empty y380 (Go.bits .and .i64 ((rd_T53 l0 x22_1).f3) 3)) y388 l0 (l0.length:Int) x22_1 ((rd_T53 l0 x22_1).f0) ((rd_T53 l0 x22_1).f1) ((rd_T53 l0 x22_1).f2) ((rd_T53 l0 x22_1).f3) ((rd_T53 l0 x22_1).f0) false))=some (r1,r2,r3):=by first|(rw[hy388];with_reducible exact H)|(have H2_:=(Option.bind_some _ _).symm.trans H;rw[hy388];with_reducible exact H2_)|(have H2_:=(Option.bind_some _ _).symm.trans H;with_reducible exact H2_)|with_reducible exact H|(rw[hy388];exact H)|exact H
  have Ny388:=Aside0.mk hy388
  clear hy388
  have HC30:=Aside0.mk H
  clear H
  go_upto_if 54 with (first|((with_reducible refine gate_dst (N:=48) rfl ?_);refine Kd.R_lit k55 _ 55 ?hg (N:=48) ?hd (xs:=([]:List (S55))) (inner:=[]) (ok:=fun _=>True) (okp:=fun _=>True) ?hr ?hp (fun _ hk=>hk) trivial (Below.refl _ _) (Nat.le_refl _) (by simp) ?_;(case hd=>rfl);(case hg=>rfl);(case hr=>first|(go_simp;done)|(go_simp;rfl));(case hp=>exact(Reps.none _ _));intro v386 w31 ho32 hb hg_ hnew_;clear hg_ hnew_;(first|rw[← Ny385.out] at ho32|(simp only[Int.reduceToNat] at ho32;rw[← Ny385.out] at ho32));have HO387:=Aside0.mk (Kd.R_lower ho32 (below_size (bl_ HB).out));replace HO_5:=Aside0.mk (Kd.S_below (krS_ HO_5) hb);replace HO_7:=Aside0.mk (Kd.S_below (krS_ HO_7) hb);replace BK379:=bb_ BK379 hb;replace BK384:=bb_ BK384 hb;replace HB:=Aside0.mk (below_step (bl_ HB).out hb);clear hb ho32;have hnb33:=NB379_384.out;have hnc33:=NB384_379.out;obtain⟨hcz34_0,hcz34_1,hcz34_2,hcz34_3,hfz34_0,hfz34_1,hfz34_2,hfz34_3⟩:=bo4_ BK379)|((with_reducible refine gate_builtin (b:= .append) (xs:= #[.tmp 48,.tmp 50]) rfl ?_);at_builtin;refine Kd.R_append_rows k55 (w0:=w) w.heap.size rfl (.tmp 48) (.tmp 50) 51 55 (.agg #[(.int .i64 0),(.int .i64 0),(.int .i64 0),(.int .i64 0)]) 32 rfl Tryd.underlying51 info55 rfl (by decide) (by omega) v386 y385 ((rd_T53 l0 x22_1).f1) _ _ _ (fun _=>True) (fun _=>False) rfl rfl ?aO ?aR (fun _ _ h=>h) (fun _ h=>h.elim) ?aF ?aB ?aS ?aL ?_;(case aR=>repeat(first|exact(Kd.C_below HR378_1.out HB.out)|(with_reducible refine Kd.C_alloc ?_ _)|(with_reducible refine Kd.C_drewN ?_ _)|(with_reducible refine Kd.C_drew ?_)));(case aB=>exact(bl_ HB).out);(case aF=>exact(fun _ _=>trivial));(case aO=>exact(kr_ HO387));(case aS=>exact(below_size (bl_ HB).out));(case aL=>have:=LMc29.out;omega);intro v389 w35 ho hb hg hat;rw[← Ny388.out] at ho;have n0_:=Aside0.mk (Kd.S_over' (krS_ HO_5) (Kd.R_typed (kr_ HO387)) (by decide) hg);have n1_:=Aside0.mk (Kd.S_over' (krS_ HO_7) (Kd.R_typed (kr_ HO387)) (by decide) hg);have n2_:=Aside0.mk (blk_grown (bk_ BK379).out hg (Kd.R_ne HO387.out BK379.out (by decide)));have n3_:=Aside0.mk (blk_grown (bk_ BK384).out hg (Kd.R_ne HO387.out BK384.out (by decide)));have n4_:=Aside0.mk (hb);have n5_:=Aside0.mk (ho);clear HO_5;clear HO_7;clear BK379;clear BK384;clear HB;clear HO387;revert n0_ n1_ n2_ n3_ n4_ n5_;intro HO_5 HO_7 BK379 BK384 HB HO390;clear ho hb hg hat;obtain⟨Ao36,co36,eo36⟩:=Kd.R_slice HO390.out;subst eo36))
  (try simp only[Act.put,List.setIfInBounds_toArray,List.set_cons_zero,List.set_cons_succ])
  go_cut [12] (fun v12 wc=>∃(kq:Nat) (x12_29:List (S55)),Aside0 (florinlaw08_Write.j2 kq x5_1 x6_11 x7_1 (rdOf ByteArray.empty y380 (Go.bits .and .i64 ((rd_T53 l0 x22_1).f3) 3)) x12_29 l0 (l0.length:Int) x22_1 ((rd_T53 l0 x22_1).f0) ((rd_T53 l0 x22_1).f1) ((rd_T53 l0 x22_1).f2) ((rd_T53 l0 x22_1).f3) ((rd_T53 l0 x22_1).f0) false=some (r1,r2,r3))∧Aside0 (kq≤kj11)∧Aside0 (Kd.S k35 35 wc w.heap.size (fun k_=>k_≠gb384) u5 x5_1)∧Aside0 (Kd.S (Kd.slice 9 Kd.string) 38 wc w.heap.size (fun _=>True) u7 x7_1)∧Aside0 (Kd.R k55 55 wc w.heap.size (fun _=>True) v12 x12_29)∧Aside0 (wc.heap[gb379]? = some (.cells #[.bool ((rd_T53 l0 x22_1).f0),(.slice A378_1 ((rd_T53 l0 x22_1).f1).length c378_1),.int .i64 ((rd_T53 l0 x22_1).f2),.int .i64 ((rd_T53 l0 x22_1).f3)] 53 (0,0)))∧Aside0 (wc.heap[gb384]? = some (.cells #[.bool ((rd_T53 l0 x22_1).f0),(.slice none 0 0),.bool false] 35 (0,0)))∧Aside0 (Below w.heap.size w wc))
  case first =>
   have H:=HC30.out
   clear HC30
   by_cases c37:(y388.length:Int)=0
   ·rw[if_pos c37] at H
    have c37b0:((y388.length:Int)==0)=true:=beq_iff_eq.mpr c37
    have c37b1:((y388.length:Int) !=0)=false:=bne_eq_false_iff_eq.mpr c37
    clear c37
    (first|rw[c37b0]|(simp only[i64_w,i32_w];rw[c37b0])|skip)
    replace H:=ifn_ H
    obtain⟨c38,H⟩:=H
    have LMc38:=Aside0.mk c38
    clear c38
    obtain⟨y391,hy391⟩:∃y_:List (S55),y_=(y388++[(⟨0,0,0,0⟩:S55)]):=⟨_,rfl⟩
    replace H:(florinlaw08_Write.j2 kj11 x5_1 x6_11 x7_1 (rdOf ByteArray.empty y380 (Go.bits .and .i64 ((rd_T53 l0 x22_1).f3) 3)) y391 l0 (l0.length:Int) x22_1 ((rd_T53 l0 x22_1).f0) ((rd_T53 l0 x22_1).f1) ((rd_T53 l0 x22_1).f2) ((rd_T53 l0 x22_1).f3) ((rd_T53 l0 x22_1).f0) false)=some (r1,r2,r3):=by first|(rw[hy391];with_reducible exact H)|(have H2_:=(Option.bind_some _ _).symm.trans H;rw[hy391];with_reducible exact H2_)|(have H2_:=(Option.bind_some _ _).symm.trans H;with_reducible exact H2_)|with_reducible exact H|(rw[hy391];exact H)|exact H
    have Ny391:=Aside0.mk hy391
    clear hy391
    have H':=Aside0.mk H
    clear H
    go_wp2_with (first|((with_reducible refine gate_builtin (b:= .append) (xs:= #[.tmp 55,.tmp 57]) rfl ?_);at_builtin;refine Kd.R_append k55 (w0:=w) w.heap.size rfl (.tmp 55) (.tmp 57) 51 55 (.agg #[(.int .i64 0),(.int .i64 0),(.int .i64 0),(.int .i64 0)]) 32 rfl Tryd.underlying51 info55 rfl (by decide) (by omega) (.slice Ao36 y388.length co36) y388 (⟨0,0,0,0⟩:S55) [.int .i64 0,.int .i64 0,.int .i64 0,.int .i64 0] (fun _=>True) (fun _=>False) rfl rfl ?aP (fun _ hk=>hk.elim) ?aF ?aO ?aB ?aS ?aL ?_;(case aP=>exact k55_mkM _ _ _ (⟨0,0,0,0⟩:S55));(case aB=>exact(bl_ HB).out);(case aF=>exact(fun _ _=>trivial));(case aO=>exact(kr_ HO390));(case aS=>exact(below_size (bl_ HB).out));(case aL=>have:=LMc38.out;omega);intro v392 w39 ho hb hg hat;rw[← Ny391.out] at ho;have n0_:=Aside0.mk (Kd.S_over' (krS_ HO_5) (Kd.R_typed (kr_ HO390)) (by decide) hg);have n1_:=Aside0.mk (Kd.S_over' (krS_ HO_7) (Kd.R_typed (kr_ HO390)) (by decide) hg);have n2_:=Aside0.mk (blk_grown (bk_ BK379).out hg (Kd.R_ne HO390.out BK379.out (by decide)));have n3_:=Aside0.mk (blk_grown (bk_ BK384).out hg (Kd.R_ne HO390.out BK384.out (by decide)));have n4_:=Aside0.mk (hb);have n5_:=Aside0.mk (ho);clear HO_5;clear HO_7;clear BK379;clear BK384;clear HB;clear HO390;revert n0_ n1_ n2_ n3_ n4_ n5_;intro HO_5 HO_7 BK379 BK384 HB HO393;clear ho hb hg hat))
    go_meet
    case rel=>exact⟨_,(y391),H',⟨by have:=HK1.out;have:=HJ11.out;first|omega|exact Nat.le_refl _⟩,⟨by (with_reducible repeat(first|apply Kd.S_alloc|apply Kd.S_drewN|apply Kd.S_drew));exact HO_5.out⟩,⟨by (with_reducible repeat(first|apply Kd.S_alloc|apply Kd.S_drewN|apply Kd.S_drew));exact HO_7.out⟩,⟨kdR_ HO393.out⟩,(bk_ BK379),(bk_ BK384),(bl_ HB)⟩
   rw[if_neg c37] at H
   have c37b0:((y388.length:Int)==0)=false:=beq_eq_false_iff_ne.mpr c37
   have c37b1:((y388.length:Int) !=0)=true:=bne_iff_ne.mpr c37
   have c37b2:¬(y388=[]):=fun h_=>c37 (by rw[h_];rfl)
   (first|rw[c37b0]|(simp only[i64_w,i32_w];rw[c37b0])|skip)
   have H':=Aside0.mk H
   clear H
   go_wp2
   go_meet
   case rel=>exact⟨_,(y388),H',⟨by have:=HK1.out;have:=HJ11.out;first|omega|exact Nat.le_refl _⟩,⟨by (with_reducible repeat(first|apply Kd.S_alloc|apply Kd.S_drewN|apply Kd.S_drew));exact HO_5.out⟩,⟨by (with_reducible repeat(first|apply Kd.S_alloc|apply Kd.S_drewN|apply Kd.S_drew));exact HO_7.out⟩,⟨kdR_ HO390.out⟩,(bk_ BK379),(bk_ BK384),(bl_ HB)⟩
  clear HC30
  obtain⟨kq,x12_29,HA,HJ29,HO_5,HO_7,HO_12,BK379,BK384,HB⟩:=hcut
  cases kq with
  | zero=>exact absurd HA.out (by simp[florinlaw08_Write.j2])
  | succ kj29=>?_
  have H:=HA.out
  clear HA
  simp only[florinlaw08_Write.j2] at H
  have H':=Aside0.mk H
  clear H
  obtain⟨Ao40,co40,eo40⟩:=Kd.R_slice HO_12.out
  subst eo40
  go_wp2
  go_loopg [6,7,61] kj29 (fun kq v6 v7 v61 w'=>∃(x6_4:ByteArray) (x7_4:List (List ByteArray)) (x61_4:Int) (x385001_4:List (S37)) (u385001:Value),v6= .string x6_4∧v61= .int .i64 x61_4∧Aside0 (florinlaw08_Write.l1 kq x5_1 x6_4 x7_4 (rdOf ByteArray.empty y380 (Go.bits .and .i64 ((rd_T53 l0 x22_1).f3) 3)) l0 (l0.length:Int) x22_1 x12_29 (x12_29.length:Int) x61_4 ((rd_T53 l0 x22_1).f0) ((rd_T53 l0 x22_1).f1) ((rd_T53 l0 x22_1).f2) ((rd_T53 l0 x22_1).f3) ((rd_T53 l0 x22_1).f0) x385001_4 false=some (r1,r2,r3))∧Aside0 (kq≤kj29)∧Aside0 (Kd.S k35 35 w' w.heap.size (fun k_=>some k_≠(u385001:Value).ownBlock∧k_≠gb384) u5 x5_1)∧Aside0 (Kd.S (Kd.slice 9 Kd.string) 38 w' w.heap.size (fun _=>True) v7 x7_4)∧Aside0 (Kd.R k55 55 w' w.heap.size (fun _=>True) (.slice Ao40 x12_29.length co40) x12_29)∧Aside0 (Kd.R k37 37 w' w.heap.size (fun _=>True) u385001 x385001_4)∧Aside0 (w'.heap[gb379]? = some (.cells #[.bool ((rd_T53 l0 x22_1).f0),(.slice A378_1 ((rd_T53 l0 x22_1).f1).length c378_1),.int .i64 ((rd_T53 l0 x22_1).f2),.int .i64 ((rd_T53 l0 x22_1).f3)] 53 (0,0)))∧Aside0 (w'.heap[gb384]? = some (.cells #[.bool ((rd_T53 l0 x22_1).f0),u385001,.bool false] 35 (0,0)))∧Aside0 (Below w.heap.size w w'))
  case atStart=>exact⟨(x6_11),(x7_1),(0),(([]:List (S37))),(.slice none 0 0),eq_,eq_,H',⟨Nat.le_refl _⟩,⟨by (with_reducible repeat(first|apply Kd.S_alloc|apply Kd.S_drewN|apply Kd.S_drew));exact Kd.S_mono HO_5.out (fun _ hk=>⟨(by simp[Value.ownBlock]),hk⟩)⟩,⟨by (with_reducible repeat(first|apply Kd.S_alloc|apply Kd.S_drewN|apply Kd.S_drew));exact HO_7.out⟩,⟨kdR_ HO_12.out⟩,⟨by first|exact Kd.R_nil _ _ _ _ _|exact Kd.N_nil _ _ _ _ _|exact Kd.V_nil _ _ _ _ _|exact Kd.Q_nil _ _ _ _ _|exact Kd.S_nil _ _ _ _ _⟩,(bk_ BK379),(bk_ BK384),(bl_ HB)⟩
  clear H'
  obtain⟨x6_4,x7_4,x61_4,x385001_4,u385001,rfl,rfl,HA,HK4,HO_5,HO_7,HO_59,HO_385001,BK379,BK384,HB⟩:=hrel
  cases gk with
  | zero=>exact absurd HA.out (by simp[florinlaw08_Write.l1])
  | succ k4=>?_
  have H:=HA.out
  clear HA
  simp only[florinlaw08_Write.l1] at H
  by_cases c41:x61_4<(x12_29.length:Int)
  ·rw[if_pos c41] at H
   have c41b0:=decide_eq_true c41
   clear c41
   replace H:=ifn_ H
   obtain⟨c42,H⟩:=H
   have c42b0:decide (0≤x61_4)=true:=decide_eq_true c42
   clear c42
   replace H:=ifn_ H
   obtain⟨c43,H⟩:=H
   have c43b0:decide (x61_4<(x12_29.length:Int))=true:=decide_eq_true c43
   clear c43
   replace H:=Option.bind_eq_some_iff.mp H
   obtain⟨⟨t396,t397,t398,t399⟩,A440,H⟩:=H
   dsimp only at H
   have A44:=Aside0.mk A440
   clear A440
   by_cases c45:x61_4>0
   ·rw[if_pos c45] at H
    have c45b0:decide (0<x61_4)=true:=decide_eq_true c45
    clear c45
    replace H:=ifn_ H
    obtain⟨c46,H⟩:=H
    have c46b0:=eq_true c46
    have c46b1:decide (x6_4.size+(rdOf ByteArray.empty y380 (Go.bits .and .i64 ((rd_T53 l0 x22_1).f3) 3)).size≤9223372036854775807)=true:=decide_eq_true c46
    try have c46b2:=eq_false (Nat.not_lt.2 c46)
    replace H:=ifn_ H
    obtain⟨c47,H⟩:=H
    have c47b0:=eq_true c47
    have c47b1:decide ((x6_4++(rdOf ByteArray.empty y380 (Go.bits .and .i64 ((rd_T53 l0 x22_1).f3) 3))).size+1≤9223372036854775807)=true:=decide_eq_true c47
    try (have c47b5:=c47b0;simp only[ByteArray.size_append,Int.natCast_add] at c47b5)
    try have c47b2:=eq_false (Nat.not_lt.2 c47)
    try have c47b3:(9223372036854775807<x6_4.size+(rdOf ByteArray.empty y380 (Go.bits .and .i64 ((rd_T53 l0 x22_1).f3) 3)).size+1)=False:=eq_false (Nat.not_lt.2 (by have h_:=c47;simp only[ByteArray.size_append] at h_;exact h_))
    try have c47b4:(x6_4.size+(rdOf ByteArray.empty y380 (Go.bits .and .i64 ((rd_T53 l0 x22_1).f3) 3)).size+1≤9223372036854775807)=True:=eq_true (by have h_:=c47;simp only[ByteArray.size_append] at h_;exact h_)
    replace H:=ifn_ H
    obtain⟨c48,H⟩:=H
    have c48b0:=eq_true c48
    have c48b1:decide (((x6_4++(rdOf ByteArray.empty y380 (Go.bits .and .i64 ((rd_T53 l0 x22_1).f3) 3)))++(⟨#[44]⟩:ByteArray)).size+(rdOf ByteArray.empty y380 (Go.bits .and .i64 ((rd_T53 l0 x22_1).f3) 3)).size≤9223372036854775807)=true:=decide_eq_true c48
    try (have c48b5:=c48b0;simp only[ByteArray.size_append,Int.natCast_add] at c48b5)
    try have c48b2:=eq_false (Nat.not_lt.2 c48)
    try have c48b3:(9223372036854775807<x6_4.size+(rdOf ByteArray.empty y380 (Go.bits .and .i64 ((rd_T53 l0 x22_1).f3) 3)).size+1+(rdOf ByteArray.empty y380 (Go.bits .and .i64 ((rd_T53 l0 x22_1).f3) 3)).size)=False:=eq_false (Nat.not_lt.2 (by have h_:=c48;simp only[ByteArray.size_append] at h_;exact h_))
    try have c48b4:(x6_4.size+(rdOf ByteArray.empty y380 (Go.bits .and .i64 ((rd_T53 l0 x22_1).f3) 3)).size+1+(rdOf ByteArray.empty y380 (Go.bits .and .i64 ((rd_T53 l0 x22_1).f3) 3)).size≤9223372036854775807)=True:=eq_true (by have h_:=c48;simp only[ByteArray.size_append] at h_;exact h_)
    replace H:=ifn_ H
    obtain⟨c49,H⟩:=H
    have c49b0:=eq_true c49
    have c49b1:decide ((((x6_4++(rdOf ByteArray.empty y380 (Go.bits .and .i64 ((rd_T53 l0 x22_1).f3) 3)))++(⟨#[44]⟩:ByteArray))++(rdOf ByteArray.empty y380 (Go.bits .and .i64 ((rd_T53 l0 x22_1).f3) 3))).size+t398.size≤9223372036854775807)=true:=decide_eq_true c49
    try (have c49b5:=c49b0;simp only[ByteArray.size_append,Int.natCast_add] at c49b5)
    try have c49b2:=eq_false (Nat.not_lt.2 c49)
    try have c49b3:(9223372036854775807<x6_4.size+(rdOf ByteArray.empty y380 (Go.bits .and .i64 ((rd_T53 l0 x22_1).f3) 3)).size+1+(rdOf ByteArray.empty y380 (Go.bits .and .i64 ((rd_T53 l0 x22_1).f3) 3)).size+t398.size)=False:=eq_false (Nat.not_lt.2 (by have h_:=c49;simp only[ByteArray.size_append] at h_;exact h_))
    try have c49b4:(x6_4.size+(rdOf ByteArray.empty y380 (Go.bits .and .i64 ((rd_T53 l0 x22_1).f3) 3)).size+1+(rdOf ByteArray.empty y380 (Go.bits .and .i64 ((rd_T53 l0 x22_1).f3) 3)).size+t398.size≤9223372036854775807)=True:=eq_true (by have h_:=c49;simp only[ByteArray.size_append] at h_;exact h_)
    replace H:=ifn_ H
    obtain⟨c50,H⟩:=H
    have LMc50:=Aside0.mk c50
    clear c50
    obtain⟨y403,hy403⟩:∃y_:List (S37),y_=(x385001_4++[(⟨t396,t397⟩:S37)]):=⟨_,rfl⟩
    replace H:(if x7_4.length<5864062014805 then (florinlaw08_Write.l1 k4 x5_1 ((((x6_4++(rdOf ByteArray.empty y380 (Go.bits .and .i64 ((rd_T53 l0 x22_1).f3) 3)))++(⟨#[44]⟩:ByteArray))++(rdOf ByteArray.empty y380 (Go.bits .and .i64 ((rd_T53 l0 x22_1).f3) 3)))++t398) (x7_4++[t399]) (rdOf ByteArray.empty y380 (Go.bits .and .i64 ((rd_T53 l0 x22_1).f3) 3)) l0 (l0.length:Int) x22_1 x12_29 (x12_29.length:Int) (wrap64 (x61_4+1)) ((rd_T53 l0 x22_1).f0) ((rd_T53 l0 x22_1).f1) ((rd_T53 l0 x22_1).f2) ((rd_T53 l0 x22_1).f3) ((rd_T53 l0 x22_1).f0) y403 false) else (none))=some (r1,r2,r3):=by first|(rw[hy403];with_reducible exact H)|(have H2_:=(Option.bind_some _ _).symm.trans H;rw[hy403];with_reducible exact H2_)|(have H2_:=(Option.bind_some _ _).symm.trans H;with_reducible exact H2_)|with_reducible exact H|(rw[hy403];exact H)|exact H
    have Ny403:=Aside0.mk hy403
    clear hy403
    replace H:=ifn_ H
    obtain⟨c51,H⟩:=H
    have LMc51:=Aside0.mk c51
    clear c51
    obtain⟨y406,hy406⟩:∃y_:List (List ByteArray),y_=(x7_4++[t399]):=⟨_,rfl⟩
    replace H:(florinlaw08_Write.l1 k4 x5_1 ((((x6_4++(rdOf ByteArray.empty y380 (Go.bits .and .i64 ((rd_T53 l0 x22_1).f3) 3)))++(⟨#[44]⟩:ByteArray))++(rdOf ByteArray.empty y380 (Go.bits .and .i64 ((rd_T53 l0 x22_1).f3) 3)))++t398) y406 (rdOf ByteArray.empty y380 (Go.bits .and .i64 ((rd_T53 l0 x22_1).f3) 3)) l0 (l0.length:Int) x22_1 x12_29 (x12_29.length:Int) (wrap64 (x61_4+1)) ((rd_T53 l0 x22_1).f0) ((rd_T53 l0 x22_1).f1) ((rd_T53 l0 x22_1).f2) ((rd_T53 l0 x22_1).f3) ((rd_T53 l0 x22_1).f0) y403 false)=some (r1,r2,r3):=by first|(rw[hy406];with_reducible exact H)|(have H2_:=(Option.bind_some _ _).symm.trans H;rw[hy406];with_reducible exact H2_)|(have H2_:=(Option.bind_some _ _).symm.trans H;with_reducible exact H2_)|with_reducible exact H|(rw[hy406];exact H)|exact H
    have Ny406:=Aside0.mk hy406
    clear hy406
    have H':=Aside0.mk H
    clear H
    have p394:0≤(x61_4:Int):=od_
    have q394:x61_4<(x12_29.length:Int):=od_
    obtain⟨ad394,e394,hx394_0,hx394_1,hx394_2,hx394_3⟩:=at_T55 (Kd.R_reads' HO_59.out).2.2 x61_4 p394 q394
    cases e394
    replace p394:=eq_true p394
    replace q394:=eq_true q394
    go_wp2_with (first|((with_reducible refine gate_dst (N:=14) rfl ?_);refine be_ 14 #[.int .i64 0,.int .i64 0,.int .i64 0,.int .i64 0] 55 ?_;intro gb395 hg w52 hbox hb;have BK395:=Aside0.mk (hbox);have GW395:=sz_ HB hg;have GE395:=sz_ HB hg;have NB379_395:=na_ BK379 hg;have NB395_379:=nb_ BK379 hg;have NB384_395:=na_ BK384 hg;have NB395_384:=nb_ BK384 hg;replace HO_5:=Aside0.mk (Kd.S_below (krS_ HO_5) hb);replace HO_7:=Aside0.mk (Kd.S_below (krS_ HO_7) hb);replace HO_59:=Aside0.mk (Kd.R_below (Kd.R_elderB (kr_ HO_59) gb395 (Nat.le_of_eq hg.symm)) hb);replace HO_385001:=kb_ HO_385001 hb;replace BK379:=bb_ BK379 hb;replace BK384:=bb_ BK384 hb;replace HB:=Aside0.mk (below_step (bl_ HB).out hb);clear hb hbox hg;have hnb53:=NB395_379.out;have hnc53:=NB379_395.out;have hnb54:=NB395_384.out;have hnc54:=NB384_395.out;obtain⟨hcz55_0,hcz55_1,hcz55_2,hcz55_3,hfz55_0,hfz55_1,hfz55_2,hfz55_3⟩:=bo4_ BK395;have hnb56:=NB379_384.out;have hnc56:=NB384_379.out;obtain⟨hcz57_0,hcz57_1,hcz57_2,hcz57_3,hfz57_0,hfz57_1,hfz57_2,hfz57_3⟩:=bo4_ BK379)|((with_reducible refine gate_callee (f:=15) rfl ?_);refine gl_ (some 71) Tryd.func15 #[.agg #[.int .i64 ((rd_T55 x12_29 x61_4).f0),.int .i64 ((rd_T55 x12_29 x61_4).f1),.int .i64 ((rd_T55 x12_29 x61_4).f2),.int .i64 ((rd_T55 x12_29 x61_4).f3)],.bool ((rd_T53 l0 x22_1).f0),.string (rdOf ByteArray.empty y380 (Go.bits .and .i64 ((rd_T53 l0 x22_1).f3) 3))] ?_;(with_reducible refine(florinlaw08_One_item.calls k4 ((rd_T55 x12_29 x61_4).f0) ((rd_T55 x12_29 x61_4).f1) ((rd_T55 x12_29 x61_4).f2) ((rd_T55 x12_29 x61_4).f3) ((rd_T53 l0 x22_1).f0) (rdOf ByteArray.empty y380 (Go.bits .and .i64 ((rd_T53 l0 x22_1).f3) 3)) t396 t397 t398 t399 _ A44.out).mono ?_);rintro e w58 ⟨v400,rfl,ho0,hb⟩;refine⟨_,rfl,?_⟩;have n0_:=Aside0.mk (Kd.S_below (by (with_reducible repeat(first|apply Kd.S_alloc|apply Kd.S_drewN|apply Kd.S_drew));exact(Kd.S_mono (Kd.S_far (Kd.S_far (Kd.S_far (Kd.S_far (Kd.S_types HO_5.out BK395.out (by decide)) (fun _ hk=>hk.2) _) (fun _ hk=>hk.2) _) (fun _ hk=>hk.2) _) (fun _ hk=>hk.2) _) (fun _ h_=>h_.1))) hb);have n1_:=Aside0.mk (Kd.S_elder' (by (with_reducible repeat(first|apply Kd.S_alloc|apply Kd.S_drewN|apply Kd.S_drew));exact(Kd.S_mono (Kd.S_far (Kd.S_far (Kd.S_far (Kd.S_far (Kd.S_types HO_7.out BK395.out (by decide)) (fun _ hk=>hk.2) _) (fun _ hk=>hk.2) _) (fun _ hk=>hk.2) _) (fun _ hk=>hk.2) _) (fun _ h_=>h_.1))) (Kd.R_base ho0) hb);have n2_:=Aside0.mk (Kd.R_below (kfR_ gb395 HO_59) hb);have n3_:=Aside0.mk (Kd.R_below (kdR_ ((Kd.R_mono (Kd.R_far (Kd.R_far (Kd.R_far (Kd.R_far (Kd.R_types HO_385001.out BK395.out (by decide)) (fun _ hk=>hk.2) _) (fun _ hk=>hk.2) _) (fun _ hk=>hk.2) _) (fun _ hk=>hk.2) _) (fun _ h_=>h_.1)))) hb);have n4_:=Aside0.mk (Kd.R_lower ho0 (below_size (bl_ HB).out));have n5_:=bz_ BK379 hb;have n6_:=bz_ BK384 hb;have n7_:=Aside0.mk (blk_below (g:=gb395) (o:= .cells #[.int .i64 ((rd_T55 x12_29 x61_4).f0),.int .i64 ((rd_T55 x12_29 x61_4).f1),.int .i64 ((rd_T55 x12_29 x61_4).f2),.int .i64 ((rd_T55 x12_29 x61_4).f3)] 55 (0,0)) ((bp_ BK395).out) hb);have n8_:=Aside0.mk (below_step (bl_ HB).out hb);clear HO_5;clear HO_7;clear HO_59;clear HO_385001;clear BK379;clear BK384;clear BK395;clear HB;revert n0_ n1_ n2_ n3_ n4_ n5_ n6_ n7_ n8_;intro HO_5 HO_7 HO_59 HO_385001 HO401 BK379 BK384 BK395 HB;(try clear hb);(try clear ho0))|((with_reducible refine gate_dst (N:=15) rfl ?_);refine be_ 15 #[.string (⟨#[]⟩:ByteArray),.string (⟨#[]⟩:ByteArray)] 37 ?_;intro gb402 hg w59 hbox hb;have BK402:=Aside0.mk (hbox);have GW402:=sz_ HB hg;have GE402:=sz_ HB hg;have NB379_402:=na_ BK379 hg;have NB402_379:=nb_ BK379 hg;have NB384_402:=na_ BK384 hg;have NB402_384:=nb_ BK384 hg;have NB395_402:=na_ BK395 hg;have NB402_395:=nb_ BK395 hg;replace HO_5:=Aside0.mk (Kd.S_below (Kd.S_elderB (krS_ HO_5) gb402 (Nat.le_of_eq hg.symm)) hb);replace HO_7:=Aside0.mk (Kd.S_below (krS_ HO_7) hb);replace HO_59:=kb_ HO_59 hb;replace HO_385001:=Aside0.mk (Kd.R_below (Kd.R_elderB (kr_ HO_385001) gb402 (Nat.le_of_eq hg.symm)) hb);replace HO401:=kb_ HO401 hb;replace BK379:=bb_ BK379 hb;replace BK384:=bb_ BK384 hb;replace BK395:=bb_ BK395 hb;replace HB:=Aside0.mk (below_step (bl_ HB).out hb);clear hb hbox hg;have hnb60:=NB402_379.out;have hnc60:=NB379_402.out;have hnb61:=NB402_384.out;have hnc61:=NB384_402.out;have hnb62:=NB402_395.out;have hnc62:=NB395_402.out;obtain⟨hcz63_0,hcz63_1,hfz63_0,hfz63_1⟩:=bo2_ BK402;obtain⟨hcz64_0,hcz64_1,hcz64_2,hfz64_0,hfz64_1,hfz64_2⟩:=bo3_ BK384)|((with_reducible refine gate_builtin (b:= .append) (xs:= #[.tmp 87,.tmp 89]) rfl ?_);at_builtin;refine Kd.R_append k37 (w0:=w) w.heap.size rfl (.tmp 87) (.tmp 89) 33 37 (.agg #[(.string ⟨#[]⟩),(.string ⟨#[]⟩)]) 32 rfl Tryd.underlying33 info37 rfl (by decide) (by omega) u385001 x385001_4 (⟨t396,t397⟩:S37) [.string t396,.string t397] (fun k_=>k_≠gb402) (fun _=>False) rfl (by first|(go_simp;done)|(go_simp;rfl)) ?aP (fun _ hk=>hk.elim) ?aF ?aO ?aB ?aS ?aL ?_;(case aP=>exact k37_mkM _ _ _ (⟨t396,t397⟩:S37));(case aB=>exact(bl_ HB).out);(case aF=>exact(fun k_ hk=>Kd.freshB (g:=gb402) (o:= .cells #[.string t396,.string t397] 37 (0,0)) ((bp_ BK402).out) k_ hk));(case aO=>exact(kdR_ (Kd.R_mono (Kd.R_far (Kd.R_far (Kd.R_mono HO_385001.out (fun k_ hk=>(⟨hk,hk.2⟩:_∧k_≠gb402))) (fun _ hk=>hk.2) _) (fun _ hk=>hk.2) _) (fun _ hk=>hk.1.2))));(case aS=>exact(below_size (bl_ HB).out));(case aL=>have:=LMc50.out;omega);intro v404 w65 ho hb hg hat;rw[← Ny403.out] at ho;have n0_:=Aside0.mk (Kd.S_after (ok:=(fun k_=>k_≠gb384∧k_≠gb402)) (by (with_reducible repeat(first|apply Kd.S_alloc|apply Kd.S_drewN|apply Kd.S_drew));exact Kd.S_mono (Kd.S_far (Kd.S_far (Kd.S_mono HO_5.out (fun k_ hk=>(⟨hk,hk.2⟩:_∧k_≠gb402))) (fun _ hk=>hk.2) _) (fun _ hk=>hk.2) _) (fun _ hk=>⟨⟨hk.1.1.2,hk.1.2⟩,hk.1.1.1⟩)) hg hat);have n1_:=Aside0.mk (Kd.S_over' (by (with_reducible repeat(first|apply Kd.S_alloc|apply Kd.S_drewN|apply Kd.S_drew));exact(Kd.S_mono (Kd.S_far (Kd.S_far (Kd.S_types HO_7.out BK402.out (by decide)) (fun _ hk=>hk.2) _) (fun _ hk=>hk.2) _) (fun _ h_=>h_.1))) (Kd.R_typed (kfR_ gb402 HO_385001)) (by decide) hg);have n2_:=Aside0.mk (Kd.R_over' (kdR_ ((Kd.R_mono (Kd.R_far (Kd.R_far (Kd.R_types HO_59.out BK402.out (by decide)) (fun _ hk=>hk.2) _) (fun _ hk=>hk.2) _) (fun _ h_=>h_.1)))) (Kd.R_typed (kfR_ gb402 HO_385001)) (by decide) hg);have n3_:=Aside0.mk (blk_grown (g:=gb379) (o:= .cells #[.bool ((rd_T53 l0 x22_1).f0),.slice A378_1 ((rd_T53 l0 x22_1).f1).length c378_1,.int .i64 ((rd_T53 l0 x22_1).f2),.int .i64 ((rd_T53 l0 x22_1).f3)] 53 (0,0)) ((bf_ BK379).out) hg (Kd.R_ne HO_385001.out BK379.out (by decide)));have n4_:=Aside0.mk (blk_grown (g:=gb384) (o:= .cells #[.bool ((rd_T53 l0 x22_1).f0),u385001,.bool false] 35 (0,0)) ((bf_ BK384).out) hg (Kd.R_ne HO_385001.out BK384.out (by decide)));have n5_:=Aside0.mk (blk_grown (g:=gb395) (o:= .cells #[.int .i64 ((rd_T55 x12_29 x61_4).f0),.int .i64 ((rd_T55 x12_29 x61_4).f1),.int .i64 ((rd_T55 x12_29 x61_4).f2),.int .i64 ((rd_T55 x12_29 x61_4).f3)] 55 (0,0)) ((bf_ BK395).out) hg (Kd.R_ne HO_385001.out BK395.out (by decide)));have n6_:=Aside0.mk (Kd.R_over' (kdR_ ((Kd.R_mono (Kd.R_far (Kd.R_far (Kd.R_types HO401.out BK402.out (by decide)) (fun _ hk=>hk.2) _) (fun _ hk=>hk.2) _) (fun _ h_=>h_.1)))) (Kd.R_typed (kfR_ gb402 HO_385001)) (by decide) hg);have n7_:=Aside0.mk (blk_grown (g:=gb402) (o:= .cells #[.string t396,.string t397] 37 (0,0)) ((bp_ BK402).out) hg (Kd.R_away HO_385001.out (fun _ hk=>hk.2)));have n8_:=Aside0.mk (hb);have n9_:=Aside0.mk (ho);clear HO_5;clear HO_7;clear HO_59;clear BK379;clear BK384;clear BK395;clear HO401;clear BK402;clear HB;clear HO_385001;revert n0_ n1_ n2_ n3_ n4_ n5_ n6_ n7_ n8_ n9_;intro HO_5 HO_7 HO_59 BK379 BK384 BK395 HO401 BK402 HB HO405;clear ho hb hg hat;obtain⟨Ao66,co66,eo66⟩:=Kd.R_slice HO405.out;subst eo66;obtain⟨hcz67_0,hcz67_1,hcz67_2,hfz67_0,hfz67_1,hfz67_2⟩:=bo3_ BK384)|((with_reducible refine gate_store (t:=33) (p:=91) rfl ?_);refine store_event (t:=33) (p:=91) (v:=?vo_w68) (w1:=(w65.setCell ⟨gb384,1,none⟩ (.slice Ao66 y403.length co66))) ?hg ?ho ?hn ?hr ?_;(case ho=>rfl);(case hg=>rfl);(case hn=>rfl);(case hr=>first|(go_simp;done)|(go_simp;rfl));intro w68 hw;have n0_:Aside0 (Kd.S k35 35 w68 w.heap.size (fun k_=>some k_≠(.slice Ao66 y403.length co66:Value).ownBlock∧k_≠gb384∧k_≠gb402) u5 x5_1):=⟨(by rw[hw];exact(by (with_reducible repeat(first|apply Kd.S_alloc|apply Kd.S_drewN|apply Kd.S_drew));exact Kd.S_mono (Kd.S_far (Kd.S_mono HO_5.out (fun k_ hk=>(⟨hk,hk.1.1⟩:_∧k_≠gb384))) (fun _ hk=>hk.2) _) (fun _ hk=>⟨hk.1.2,⟨hk.1.1.1,hk.1.1.2⟩⟩)))⟩;have n1_:Aside0 (Kd.S (Kd.slice 9 Kd.string) 38 w68 w.heap.size (fun k_=>some k_≠(v400:Value).ownBlock) u7 x7_4):=⟨(by rw[hw];exact(by (with_reducible repeat(first|apply Kd.S_alloc|apply Kd.S_drewN|apply Kd.S_drew));exact Kd.S_mono (Kd.S_far (Kd.S_types HO_7.out BK384.out (by decide)) (fun _ hk=>hk.2) _) (fun _ hk=>hk.1.2)))⟩;have n2_:Aside0 (Kd.R k55 55 w68 w.heap.size (fun k_=>k_≠gb395) (.slice (some ad394) x12_29.length co40) x12_29):=⟨(by rw[hw];exact(kdR_ (Kd.R_mono (Kd.R_far (Kd.R_types HO_59.out BK384.out (by decide)) (fun _ hk=>hk.2) _) (fun _ hk=>hk.1.2))))⟩;have n3_:Aside0 (Kd.R Kd.string 9 w68 w.heap.size (fun _=>True) v400 t399):=⟨(by rw[hw];exact(kdR_ (Kd.R_mono (Kd.R_far (Kd.R_types HO401.out BK384.out (by decide)) (fun _ hk=>hk.2) _) (fun _ hk=>trivial))))⟩;have n4_:Aside0 (Kd.R k37 37 w68 w.heap.size (fun k_=>k_≠gb402) (.slice Ao66 y403.length co66) y403):=⟨(by rw[hw];exact(kdR_ (Kd.R_mono (Kd.R_far (Kd.R_types HO405.out BK384.out (by decide)) (fun _ hk=>hk.2) _) (fun _ hk=>hk.1))))⟩;have n5_:Aside0 (w68.heap[gb379]? = some (.cells #[.bool ((rd_T53 l0 x22_1).f0),.slice A378_1 ((rd_T53 l0 x22_1).f1).length c378_1,.int .i64 ((rd_T53 l0 x22_1).f2),.int .i64 ((rd_T53 l0 x22_1).f3)] 53 (0,0))):=⟨(by rw[hw];exact((bf_ BK379).out))⟩;have n6_:Aside0 (w68.heap[gb384]? = some (.cells #[.bool ((rd_T53 l0 x22_1).f0),.slice Ao66 y403.length co66,.bool false] 35 (0,0))):=⟨(by rw[hw];exact((bp_ BK384).out))⟩;have n7_:Aside0 (w68.heap[gb395]? = some (.cells #[.int .i64 ((rd_T55 x12_29 x61_4).f0),.int .i64 ((rd_T55 x12_29 x61_4).f1),.int .i64 ((rd_T55 x12_29 x61_4).f2),.int .i64 ((rd_T55 x12_29 x61_4).f3)] 55 (0,0))):=⟨(by rw[hw];exact((bf_ BK395).out))⟩;have n8_:Aside0 (w68.heap[gb402]? = some (.cells #[.string t396,.string t397] 37 (0,0))):=⟨(by rw[hw];exact((bf_ BK402).out))⟩;have n9_:Aside0 (Below w.heap.size w w68):=⟨(by rw[hw];exact(bl_ HB).out)⟩;clear hw;clear HO_5;clear HO_7;clear HO_59;clear HO401;clear HO405;clear BK379;clear BK384;clear BK395;clear BK402;clear HB;revert n0_ n1_ n2_ n3_ n4_ n5_ n6_ n7_ n8_ n9_;intro HO_5 HO_7 HO_59 HO401 HO405 BK379 BK384 BK395 BK402 HB;obtain⟨Ao70,co70,eo70⟩:=Kd.R_slice HO401.out;subst eo70)|((with_reducible refine gate_builtin (b:= .append) (xs:= #[.tmp 92,.tmp 94]) rfl ?_);at_builtin;refine Kd.S_append (Kd.slice 9 Kd.string) (w0:=w) w.heap.size rfl (.tmp 92) (.tmp 94) 26 38 (.slice none 0 0) 24 rfl Tryd.underlying26 info38 rfl (by decide) (by omega) u7 x7_4 t399 [.slice Ao70 t399.length co70] (fun _=>True) (fun k_=>some k_=(.slice Ao70 t399.length co70:Value).ownBlock) rfl rfl ?aP (fun k_ hk_=>((Kd.R_mono (ok':=fun k_=>((fun _=>True)) k_∧some k_≠(u7:Value).ownBlock) (Kd.R_apart' (HO401.out) (Kd.S_typed HO_7.out) (by decide)) (fun k_ hk=>⟨trivial,hk.2⟩))).1 k_ hk_.symm) ?aF ?aO ?aB ?aS ?aL ?_;(case aP=>exact Kd.M_row (Kd.R_mono (Kd.R_tight rfl (Kd.R_mono (ok':=fun k_=>((fun _=>True)) k_∧some k_≠(u7:Value).ownBlock) (Kd.R_apart' (HO401.out) (Kd.S_typed HO_7.out) (by decide)) (fun k_ hk=>⟨trivial,hk.2⟩))) (fun _ h_=>h_)));(case aB=>exact(bl_ HB).out);(case aF=>exact(fun _ _=>trivial));(case aO=>exact(by (with_reducible repeat(first|apply Kd.S_alloc|apply Kd.S_drewN|apply Kd.S_drew));exact Kd.S_mono HO_7.out (fun k_ hk=>⟨trivial,fun e_=>hk e_⟩)));(case aS=>exact(below_size (bl_ HB).out));(case aL=>have:=LMc51.out;omega);intro v407 w69 ho hb hg hat;rw[← Ny406.out] at ho;have n0_:=Aside0.mk (Kd.S_over' (krS_ HO_5) (Kd.S_typed (krS_ HO_7)) (by decide) hg);have n1_:=Aside0.mk (Kd.R_over' (kr_ HO_59) (Kd.S_typed (krS_ HO_7)) (by decide) hg);have n2_:=Aside0.mk (blk_grown (bk_ BK379).out hg (Kd.S_ne HO_7.out BK379.out (by decide)));have n3_:=Aside0.mk (blk_grown (bk_ BK384).out hg (Kd.S_ne HO_7.out BK384.out (by decide)));have n4_:=Aside0.mk (blk_grown (bk_ BK395).out hg (Kd.S_ne HO_7.out BK395.out (by decide)));have n5_:=Aside0.mk (blk_grown (bk_ BK402).out hg (Kd.S_ne HO_7.out BK402.out (by decide)));have n6_:=Aside0.mk (Kd.R_over' (kr_ HO405) (Kd.S_typed (krS_ HO_7)) (by decide) hg);have n7_:=Aside0.mk (hb);have n8_:=Aside0.mk (ho);clear HO_5;clear HO_59;clear BK379;clear BK384;clear BK395;clear BK402;clear HO405;clear HB;clear HO_7;clear HO401;revert n0_ n1_ n2_ n3_ n4_ n5_ n6_ n7_ n8_;intro HO_5 HO_59 BK379 BK384 BK395 BK402 HO405 HB HO408;clear ho hb hg hat))
    go_roundg k4
    case measure=>have:=HK1.out;have:=HJ11.out;have:=HJ29.out;have:=HK4.out;omega
    case rel=>exact⟨((((x6_4++(rdOf ByteArray.empty y380 (Go.bits .and .i64 ((rd_T53 l0 x22_1).f3) 3)))++(⟨#[44]⟩:ByteArray))++(rdOf ByteArray.empty y380 (Go.bits .and .i64 ((rd_T53 l0 x22_1).f3) 3)))++t398),(y406),(wrap64 (x61_4+1)),(y403),(.slice Ao66 y403.length co66),eq_,eq_,H',⟨by have:=HK1.out;have:=HJ11.out;have:=HJ29.out;have:=HK4.out;omega⟩,⟨by (with_reducible repeat(first|apply Kd.S_alloc|apply Kd.S_drewN|apply Kd.S_drew));exact Kd.S_mono HO_5.out (fun _ hk=>⟨hk.1,hk.2.1⟩)⟩,⟨by (with_reducible repeat(first|apply Kd.S_alloc|apply Kd.S_drewN|apply Kd.S_drew));exact HO408.out⟩,⟨kdR_ (Kd.R_mono HO_59.out (fun _ hk=>trivial))⟩,⟨kdR_ (Kd.R_mono HO405.out (fun _ hk=>trivial))⟩,(bk_ BK379),(bk_ BK384),(bl_ HB)⟩
   rw[if_neg c45] at H
   have c45b0:decide (0<x61_4)=false:=decide_eq_false c45
   clear c45
   replace H:=ifn_ H
   obtain⟨c71,H⟩:=H
   have c71b0:=eq_true c71
   have c71b1:decide (x6_4.size+t398.size≤9223372036854775807)=true:=decide_eq_true c71
   try have c71b2:=eq_false (Nat.not_lt.2 c71)
   replace H:=ifn_ H
   obtain⟨c72,H⟩:=H
   have LMc72:=Aside0.mk c72
   clear c72
   obtain⟨y409,hy409⟩:∃y_:List (S37),y_=(x385001_4++[(⟨t396,t397⟩:S37)]):=⟨_,rfl⟩
   replace H:(if x7_4.length<5864062014805 then (florinlaw08_Write.l1 k4 x5_1 (x6_4++t398) (x7_4++[t399]) (rdOf ByteArray.empty y380 (Go.bits .and .i64 ((rd_T53 l0 x22_1).f3) 3)) l0 (l0.length:Int) x22_1 x12_29 (x12_29.length:Int) (wrap64 (x61_4+1)) ((rd_T53 l0 x22_1).f0) ((rd_T53 l0 x22_1).f1) ((rd_T53 l0 x22_1).f2) ((rd_T53 l0 x22_1).f3) ((rd_T53 l0 x22_1).f0) y409 false) else (none))=some (r1,r2,r3):=by first|(rw[hy409];with_reducible exact H)|(have H2_:=(Option.bind_some _ _).symm.trans H;rw[hy409];with_reducible exact H2_)|(have H2_:=(Option.bind_some _ _).symm.trans H;with_reducible exact H2_)|with_reducible exact H|(rw[hy409];exact H)|exact H
   have Ny409:=Aside0.mk hy409
   clear hy409
   replace H:=ifn_ H
   obtain⟨c73,H⟩:=H
   have LMc73:=Aside0.mk c73
   clear c73
   obtain⟨y412,hy412⟩:∃y_:List (List ByteArray),y_=(x7_4++[t399]):=⟨_,rfl⟩
   replace H:(florinlaw08_Write.l1 k4 x5_1 (x6_4++t398) y412 (rdOf ByteArray.empty y380 (Go.bits .and .i64 ((rd_T53 l0 x22_1).f3) 3)) l0 (l0.length:Int) x22_1 x12_29 (x12_29.length:Int) (wrap64 (x61_4+1)) ((rd_T53 l0 x22_1).f0) ((rd_T53 l0 x22_1).f1) ((rd_T53 l0 x22_1).f2) ((rd_T53 l0 x22_1).f3) ((rd_T53 l0 x22_1).f0) y409 false)=some (r1,r2,r3):=by first|(rw[hy412];with_reducible exact H)|(have H2_:=(Option.bind_some _ _).symm.trans H;rw[hy412];with_reducible exact H2_)|(have H2_:=(Option.bind_some _ _).symm.trans H;with_reducible exact H2_)|with_reducible exact H|(rw[hy412];exact H)|exact H
   have Ny412:=Aside0.mk hy412
   clear hy412
   have H':=Aside0.mk H
   clear H
   have p394:0≤(x61_4:Int):=od_
   have q394:x61_4<(x12_29.length:Int):=od_
   obtain⟨ad394,e394,hx394_0,hx394_1,hx394_2,hx394_3⟩:=at_T55 (Kd.R_reads' HO_59.out).2.2 x61_4 p394 q394
   cases e394
   replace p394:=eq_true p394
   replace q394:=eq_true q394
   go_wp2_with (first|((with_reducible refine gate_dst (N:=14) rfl ?_);refine be_ 14 #[.int .i64 0,.int .i64 0,.int .i64 0,.int .i64 0] 55 ?_;intro gb395 hg w74 hbox hb;have BK395:=Aside0.mk (hbox);have GW395:=sz_ HB hg;have GE395:=sz_ HB hg;have NB379_395:=na_ BK379 hg;have NB395_379:=nb_ BK379 hg;have NB384_395:=na_ BK384 hg;have NB395_384:=nb_ BK384 hg;replace HO_5:=Aside0.mk (Kd.S_below (krS_ HO_5) hb);replace HO_7:=Aside0.mk (Kd.S_below (krS_ HO_7) hb);replace HO_59:=Aside0.mk (Kd.R_below (Kd.R_elderB (kr_ HO_59) gb395 (Nat.le_of_eq hg.symm)) hb);replace HO_385001:=kb_ HO_385001 hb;replace BK379:=bb_ BK379 hb;replace BK384:=bb_ BK384 hb;replace HB:=Aside0.mk (below_step (bl_ HB).out hb);clear hb hbox hg;have hnb75:=NB395_379.out;have hnc75:=NB379_395.out;have hnb76:=NB395_384.out;have hnc76:=NB384_395.out;obtain⟨hcz77_0,hcz77_1,hcz77_2,hcz77_3,hfz77_0,hfz77_1,hfz77_2,hfz77_3⟩:=bo4_ BK395;have hnb78:=NB379_384.out;have hnc78:=NB384_379.out;obtain⟨hcz79_0,hcz79_1,hcz79_2,hcz79_3,hfz79_0,hfz79_1,hfz79_2,hfz79_3⟩:=bo4_ BK379)|((with_reducible refine gate_callee (f:=15) rfl ?_);refine gl_ (some 71) Tryd.func15 #[.agg #[.int .i64 ((rd_T55 x12_29 x61_4).f0),.int .i64 ((rd_T55 x12_29 x61_4).f1),.int .i64 ((rd_T55 x12_29 x61_4).f2),.int .i64 ((rd_T55 x12_29 x61_4).f3)],.bool ((rd_T53 l0 x22_1).f0),.string (rdOf ByteArray.empty y380 (Go.bits .and .i64 ((rd_T53 l0 x22_1).f3) 3))] ?_;(with_reducible refine(florinlaw08_One_item.calls k4 ((rd_T55 x12_29 x61_4).f0) ((rd_T55 x12_29 x61_4).f1) ((rd_T55 x12_29 x61_4).f2) ((rd_T55 x12_29 x61_4).f3) ((rd_T53 l0 x22_1).f0) (rdOf ByteArray.empty y380 (Go.bits .and .i64 ((rd_T53 l0 x22_1).f3) 3)) t396 t397 t398 t399 _ A44.out).mono ?_);rintro e w80 ⟨v400,rfl,ho0,hb⟩;refine⟨_,rfl,?_⟩;have n0_:=Aside0.mk (Kd.S_below (by (with_reducible repeat(first|apply Kd.S_alloc|apply Kd.S_drewN|apply Kd.S_drew));exact(Kd.S_mono (Kd.S_far (Kd.S_far (Kd.S_far (Kd.S_far (Kd.S_types HO_5.out BK395.out (by decide)) (fun _ hk=>hk.2) _) (fun _ hk=>hk.2) _) (fun _ hk=>hk.2) _) (fun _ hk=>hk.2) _) (fun _ h_=>h_.1))) hb);have n1_:=Aside0.mk (Kd.S_elder' (by (with_reducible repeat(first|apply Kd.S_alloc|apply Kd.S_drewN|apply Kd.S_drew));exact(Kd.S_mono (Kd.S_far (Kd.S_far (Kd.S_far (Kd.S_far (Kd.S_types HO_7.out BK395.out (by decide)) (fun _ hk=>hk.2) _) (fun _ hk=>hk.2) _) (fun _ hk=>hk.2) _) (fun _ hk=>hk.2) _) (fun _ h_=>h_.1))) (Kd.R_base ho0) hb);have n2_:=Aside0.mk (Kd.R_below (kfR_ gb395 HO_59) hb);have n3_:=Aside0.mk (Kd.R_below (kdR_ ((Kd.R_mono (Kd.R_far (Kd.R_far (Kd.R_far (Kd.R_far (Kd.R_types HO_385001.out BK395.out (by decide)) (fun _ hk=>hk.2) _) (fun _ hk=>hk.2) _) (fun _ hk=>hk.2) _) (fun _ hk=>hk.2) _) (fun _ h_=>h_.1)))) hb);have n4_:=Aside0.mk (Kd.R_lower ho0 (below_size (bl_ HB).out));have n5_:=bz_ BK379 hb;have n6_:=bz_ BK384 hb;have n7_:=Aside0.mk (blk_below (g:=gb395) (o:= .cells #[.int .i64 ((rd_T55 x12_29 x61_4).f0),.int .i64 ((rd_T55 x12_29 x61_4).f1),.int .i64 ((rd_T55 x12_29 x61_4).f2),.int .i64 ((rd_T55 x12_29 x61_4).f3)] 55 (0,0)) ((bp_ BK395).out) hb);have n8_:=Aside0.mk (below_step (bl_ HB).out hb);clear HO_5;clear HO_7;clear HO_59;clear HO_385001;clear BK379;clear BK384;clear BK395;clear HB;revert n0_ n1_ n2_ n3_ n4_ n5_ n6_ n7_ n8_;intro HO_5 HO_7 HO_59 HO_385001 HO401 BK379 BK384 BK395 HB;(try clear hb);(try clear ho0))|((with_reducible refine gate_dst (N:=15) rfl ?_);refine be_ 15 #[.string (⟨#[]⟩:ByteArray),.string (⟨#[]⟩:ByteArray)] 37 ?_;intro gb402 hg w81 hbox hb;have BK402:=Aside0.mk (hbox);have GW402:=sz_ HB hg;have GE402:=sz_ HB hg;have NB379_402:=na_ BK379 hg;have NB402_379:=nb_ BK379 hg;have NB384_402:=na_ BK384 hg;have NB402_384:=nb_ BK384 hg;have NB395_402:=na_ BK395 hg;have NB402_395:=nb_ BK395 hg;replace HO_5:=Aside0.mk (Kd.S_below (Kd.S_elderB (krS_ HO_5) gb402 (Nat.le_of_eq hg.symm)) hb);replace HO_7:=Aside0.mk (Kd.S_below (krS_ HO_7) hb);replace HO_59:=kb_ HO_59 hb;replace HO_385001:=Aside0.mk (Kd.R_below (Kd.R_elderB (kr_ HO_385001) gb402 (Nat.le_of_eq hg.symm)) hb);replace HO401:=kb_ HO401 hb;replace BK379:=bb_ BK379 hb;replace BK384:=bb_ BK384 hb;replace BK395:=bb_ BK395 hb;replace HB:=Aside0.mk (below_step (bl_ HB).out hb);clear hb hbox hg;have hnb82:=NB402_379.out;have hnc82:=NB379_402.out;have hnb83:=NB402_384.out;have hnc83:=NB384_402.out;have hnb84:=NB402_395.out;have hnc84:=NB395_402.out;obtain⟨hcz85_0,hcz85_1,hfz85_0,hfz85_1⟩:=bo2_ BK402;obtain⟨hcz86_0,hcz86_1,hcz86_2,hfz86_0,hfz86_1,hfz86_2⟩:=bo3_ BK384)|((with_reducible refine gate_builtin (b:= .append) (xs:= #[.tmp 87,.tmp 89]) rfl ?_);at_builtin;refine Kd.R_append k37 (w0:=w) w.heap.size rfl (.tmp 87) (.tmp 89) 33 37 (.agg #[(.string ⟨#[]⟩),(.string ⟨#[]⟩)]) 32 rfl Tryd.underlying33 info37 rfl (by decide) (by omega) u385001 x385001_4 (⟨t396,t397⟩:S37) [.string t396,.string t397] (fun k_=>k_≠gb402) (fun _=>False) rfl (by first|(go_simp;done)|(go_simp;rfl)) ?aP (fun _ hk=>hk.elim) ?aF ?aO ?aB ?aS ?aL ?_;(case aP=>exact k37_mkM _ _ _ (⟨t396,t397⟩:S37));(case aB=>exact(bl_ HB).out);(case aF=>exact(fun k_ hk=>Kd.freshB (g:=gb402) (o:= .cells #[.string t396,.string t397] 37 (0,0)) ((bp_ BK402).out) k_ hk));(case aO=>exact(kdR_ (Kd.R_mono (Kd.R_far (Kd.R_far (Kd.R_mono HO_385001.out (fun k_ hk=>(⟨hk,hk.2⟩:_∧k_≠gb402))) (fun _ hk=>hk.2) _) (fun _ hk=>hk.2) _) (fun _ hk=>hk.1.2))));(case aS=>exact(below_size (bl_ HB).out));(case aL=>have:=LMc72.out;omega);intro v410 w87 ho hb hg hat;rw[← Ny409.out] at ho;have n0_:=Aside0.mk (Kd.S_after (ok:=(fun k_=>k_≠gb384∧k_≠gb402)) (by (with_reducible repeat(first|apply Kd.S_alloc|apply Kd.S_drewN|apply Kd.S_drew));exact Kd.S_mono (Kd.S_far (Kd.S_far (Kd.S_mono HO_5.out (fun k_ hk=>(⟨hk,hk.2⟩:_∧k_≠gb402))) (fun _ hk=>hk.2) _) (fun _ hk=>hk.2) _) (fun _ hk=>⟨⟨hk.1.1.2,hk.1.2⟩,hk.1.1.1⟩)) hg hat);have n1_:=Aside0.mk (Kd.S_over' (by (with_reducible repeat(first|apply Kd.S_alloc|apply Kd.S_drewN|apply Kd.S_drew));exact(Kd.S_mono (Kd.S_far (Kd.S_far (Kd.S_types HO_7.out BK402.out (by decide)) (fun _ hk=>hk.2) _) (fun _ hk=>hk.2) _) (fun _ h_=>h_.1))) (Kd.R_typed (kfR_ gb402 HO_385001)) (by decide) hg);have n2_:=Aside0.mk (Kd.R_over' (kdR_ ((Kd.R_mono (Kd.R_far (Kd.R_far (Kd.R_types HO_59.out BK402.out (by decide)) (fun _ hk=>hk.2) _) (fun _ hk=>hk.2) _) (fun _ h_=>h_.1)))) (Kd.R_typed (kfR_ gb402 HO_385001)) (by decide) hg);have n3_:=Aside0.mk (blk_grown (g:=gb379) (o:= .cells #[.bool ((rd_T53 l0 x22_1).f0),.slice A378_1 ((rd_T53 l0 x22_1).f1).length c378_1,.int .i64 ((rd_T53 l0 x22_1).f2),.int .i64 ((rd_T53 l0 x22_1).f3)] 53 (0,0)) ((bf_ BK379).out) hg (Kd.R_ne HO_385001.out BK379.out (by decide)));have n4_:=Aside0.mk (blk_grown (g:=gb384) (o:= .cells #[.bool ((rd_T53 l0 x22_1).f0),u385001,.bool false] 35 (0,0)) ((bf_ BK384).out) hg (Kd.R_ne HO_385001.out BK384.out (by decide)));have n5_:=Aside0.mk (blk_grown (g:=gb395) (o:= .cells #[.int .i64 ((rd_T55 x12_29 x61_4).f0),.int .i64 ((rd_T55 x12_29 x61_4).f1),.int .i64 ((rd_T55 x12_29 x61_4).f2),.int .i64 ((rd_T55 x12_29 x61_4).f3)] 55 (0,0)) ((bf_ BK395).out) hg (Kd.R_ne HO_385001.out BK395.out (by decide)));have n6_:=Aside0.mk (Kd.R_over' (kdR_ ((Kd.R_mono (Kd.R_far (Kd.R_far (Kd.R_types HO401.out BK402.out (by decide)) (fun _ hk=>hk.2) _) (fun _ hk=>hk.2) _) (fun _ h_=>h_.1)))) (Kd.R_typed (kfR_ gb402 HO_385001)) (by decide) hg);have n7_:=Aside0.mk (blk_grown (g:=gb402) (o:= .cells #[.string t396,.string t397] 37 (0,0)) ((bp_ BK402).out) hg (Kd.R_away HO_385001.out (fun _ hk=>hk.2)));have n8_:=Aside0.mk (hb);have n9_:=Aside0.mk (ho);clear HO_5;clear HO_7;clear HO_59;clear BK379;clear BK384;clear BK395;clear HO401;clear BK402;clear HB;clear HO_385001;revert n0_ n1_ n2_ n3_ n4_ n5_ n6_ n7_ n8_ n9_;intro HO_5 HO_7 HO_59 BK379 BK384 BK395 HO401 BK402 HB HO411;clear ho hb hg hat;obtain⟨Ao88,co88,eo88⟩:=Kd.R_slice HO411.out;subst eo88;obtain⟨hcz89_0,hcz89_1,hcz89_2,hfz89_0,hfz89_1,hfz89_2⟩:=bo3_ BK384)|((with_reducible refine gate_store (t:=33) (p:=91) rfl ?_);refine store_event (t:=33) (p:=91) (v:=?vo_w90) (w1:=(w87.setCell ⟨gb384,1,none⟩ (.slice Ao88 y409.length co88))) ?hg ?ho ?hn ?hr ?_;(case ho=>rfl);(case hg=>rfl);(case hn=>rfl);(case hr=>first|(go_simp;done)|(go_simp;rfl));intro w90 hw;have n0_:Aside0 (Kd.S k35 35 w90 w.heap.size (fun k_=>some k_≠(.slice Ao88 y409.length co88:Value).ownBlock∧k_≠gb384∧k_≠gb402) u5 x5_1):=⟨(by rw[hw];exact(by (with_reducible repeat(first|apply Kd.S_alloc|apply Kd.S_drewN|apply Kd.S_drew));exact Kd.S_mono (Kd.S_far (Kd.S_mono HO_5.out (fun k_ hk=>(⟨hk,hk.1.1⟩:_∧k_≠gb384))) (fun _ hk=>hk.2) _) (fun _ hk=>⟨hk.1.2,⟨hk.1.1.1,hk.1.1.2⟩⟩)))⟩;have n1_:Aside0 (Kd.S (Kd.slice 9 Kd.string) 38 w90 w.heap.size (fun k_=>some k_≠(v400:Value).ownBlock) u7 x7_4):=⟨(by rw[hw];exact(by (with_reducible repeat(first|apply Kd.S_alloc|apply Kd.S_drewN|apply Kd.S_drew));exact Kd.S_mono (Kd.S_far (Kd.S_types HO_7.out BK384.out (by decide)) (fun _ hk=>hk.2) _) (fun _ hk=>hk.1.2)))⟩;have n2_:Aside0 (Kd.R k55 55 w90 w.heap.size (fun k_=>k_≠gb395) (.slice (some ad394) x12_29.length co40) x12_29):=⟨(by rw[hw];exact(kdR_ (Kd.R_mono (Kd.R_far (Kd.R_types HO_59.out BK384.out (by decide)) (fun _ hk=>hk.2) _) (fun _ hk=>hk.1.2))))⟩;have n3_:Aside0 (Kd.R Kd.string 9 w90 w.heap.size (fun _=>True) v400 t399):=⟨(by rw[hw];exact(kdR_ (Kd.R_mono (Kd.R_far (Kd.R_types HO401.out BK384.out (by decide)) (fun _ hk=>hk.2) _) (fun _ hk=>trivial))))⟩;have n4_:Aside0 (Kd.R k37 37 w90 w.heap.size (fun k_=>k_≠gb402) (.slice Ao88 y409.length co88) y409):=⟨(by rw[hw];exact(kdR_ (Kd.R_mono (Kd.R_far (Kd.R_types HO411.out BK384.out (by decide)) (fun _ hk=>hk.2) _) (fun _ hk=>hk.1))))⟩;have n5_:Aside0 (w90.heap[gb379]? = some (.cells #[.bool ((rd_T53 l0 x22_1).f0),.slice A378_1 ((rd_T53 l0 x22_1).f1).length c378_1,.int .i64 ((rd_T53 l0 x22_1).f2),.int .i64 ((rd_T53 l0 x22_1).f3)] 53 (0,0))):=⟨(by rw[hw];exact((bf_ BK379).out))⟩;have n6_:Aside0 (w90.heap[gb384]? = some (.cells #[.bool ((rd_T53 l0 x22_1).f0),.slice Ao88 y409.length co88,.bool false] 35 (0,0))):=⟨(by rw[hw];exact((bp_ BK384).out))⟩;have n7_:Aside0 (w90.heap[gb395]? = some (.cells #[.int .i64 ((rd_T55 x12_29 x61_4).f0),.int .i64 ((rd_T55 x12_29 x61_4).f1),.int .i64 ((rd_T55 x12_29 x61_4).f2),.int .i64 ((rd_T55 x12_29 x61_4).f3)] 55 (0,0))):=⟨(by rw[hw];exact((bf_ BK395).out))⟩;have n8_:Aside0 (w90.heap[gb402]? = some (.cells #[.string t396,.string t397] 37 (0,0))):=⟨(by rw[hw];exact((bf_ BK402).out))⟩;have n9_:Aside0 (Below w.heap.size w w90):=⟨(by rw[hw];exact(bl_ HB).out)⟩;clear hw;clear HO_5;clear HO_7;clear HO_59;clear HO401;clear HO411;clear BK379;clear BK384;clear BK395;clear BK402;clear HB;revert n0_ n1_ n2_ n3_ n4_ n5_ n6_ n7_ n8_ n9_;intro HO_5 HO_7 HO_59 HO401 HO411 BK379 BK384 BK395 BK402 HB;obtain⟨Ao92,co92,eo92⟩:=Kd.R_slice HO401.out;subst eo92)|((with_reducible refine gate_builtin (b:= .append) (xs:= #[.tmp 92,.tmp 94]) rfl ?_);at_builtin;refine Kd.S_append (Kd.slice 9 Kd.string) (w0:=w) w.heap.size rfl (.tmp 92) (.tmp 94) 26 38 (.slice none 0 0) 24 rfl Tryd.underlying26 info38 rfl (by decide) (by omega) u7 x7_4 t399 [.slice Ao92 t399.length co92] (fun _=>True) (fun k_=>some k_=(.slice Ao92 t399.length co92:Value).ownBlock) rfl rfl ?aP (fun k_ hk_=>((Kd.R_mono (ok':=fun k_=>((fun _=>True)) k_∧some k_≠(u7:Value).ownBlock) (Kd.R_apart' (HO401.out) (Kd.S_typed HO_7.out) (by decide)) (fun k_ hk=>⟨trivial,hk.2⟩))).1 k_ hk_.symm) ?aF ?aO ?aB ?aS ?aL ?_;(case aP=>exact Kd.M_row (Kd.R_mono (Kd.R_tight rfl (Kd.R_mono (ok':=fun k_=>((fun _=>True)) k_∧some k_≠(u7:Value).ownBlock) (Kd.R_apart' (HO401.out) (Kd.S_typed HO_7.out) (by decide)) (fun k_ hk=>⟨trivial,hk.2⟩))) (fun _ h_=>h_)));(case aB=>exact(bl_ HB).out);(case aF=>exact(fun _ _=>trivial));(case aO=>exact(by (with_reducible repeat(first|apply Kd.S_alloc|apply Kd.S_drewN|apply Kd.S_drew));exact Kd.S_mono HO_7.out (fun k_ hk=>⟨trivial,fun e_=>hk e_⟩)));(case aS=>exact(below_size (bl_ HB).out));(case aL=>have:=LMc73.out;omega);intro v413 w91 ho hb hg hat;rw[← Ny412.out] at ho;have n0_:=Aside0.mk (Kd.S_over' (krS_ HO_5) (Kd.S_typed (krS_ HO_7)) (by decide) hg);have n1_:=Aside0.mk (Kd.R_over' (kr_ HO_59) (Kd.S_typed (krS_ HO_7)) (by decide) hg);have n2_:=Aside0.mk (blk_grown (bk_ BK379).out hg (Kd.S_ne HO_7.out BK379.out (by decide)));have n3_:=Aside0.mk (blk_grown (bk_ BK384).out hg (Kd.S_ne HO_7.out BK384.out (by decide)));have n4_:=Aside0.mk (blk_grown (bk_ BK395).out hg (Kd.S_ne HO_7.out BK395.out (by decide)));have n5_:=Aside0.mk (blk_grown (bk_ BK402).out hg (Kd.S_ne HO_7.out BK402.out (by decide)));have n6_:=Aside0.mk (Kd.R_over' (kr_ HO411) (Kd.S_typed (krS_ HO_7)) (by decide) hg);have n7_:=Aside0.mk (hb);have n8_:=Aside0.mk (ho);clear HO_5;clear HO_59;clear BK379;clear BK384;clear BK395;clear BK402;clear HO411;clear HB;clear HO_7;clear HO401;revert n0_ n1_ n2_ n3_ n4_ n5_ n6_ n7_ n8_;intro HO_5 HO_59 BK379 BK384 BK395 BK402 HO411 HB HO414;clear ho hb hg hat))
   go_roundg k4
   case measure=>have:=HK1.out;have:=HJ11.out;have:=HJ29.out;have:=HK4.out;omega
   case rel=>exact⟨(x6_4++t398),(y412),(wrap64 (x61_4+1)),(y409),(.slice Ao88 y409.length co88),eq_,eq_,H',⟨by have:=HK1.out;have:=HJ11.out;have:=HJ29.out;have:=HK4.out;omega⟩,⟨by (with_reducible repeat(first|apply Kd.S_alloc|apply Kd.S_drewN|apply Kd.S_drew));exact Kd.S_mono HO_5.out (fun _ hk=>⟨hk.1,hk.2.1⟩)⟩,⟨by (with_reducible repeat(first|apply Kd.S_alloc|apply Kd.S_drewN|apply Kd.S_drew));exact HO414.out⟩,⟨kdR_ (Kd.R_mono HO_59.out (fun _ hk=>trivial))⟩,⟨kdR_ (Kd.R_mono HO411.out (fun _ hk=>trivial))⟩,(bk_ BK379),(bk_ BK384),(bl_ HB)⟩
  rw[if_neg c41] at H
  have c41b0:=decide_eq_false c41
  clear c41
  by_cases c93:(Go.bits .and .i64 ((rd_T53 l0 x22_1).f2) 3)>1
  ·rw[if_pos c93] at H
   have c93b0:decide (1<(Go.bits .and .i64 ((rd_T53 l0 x22_1).f2) 3))=true:=decide_eq_true c93
   clear c93
   replace H:=ifn_ H
   obtain⟨c94,H⟩:=H
   have c94b0:=eq_true c94
   have c94b1:decide (x6_4.size+1≤9223372036854775807)=true:=decide_eq_true c94
   try have c94b2:=eq_false (Nat.not_lt.2 c94)
   replace H:=ifn_ H
   obtain⟨c95,H⟩:=H
   have c95b0:=eq_true c95
   have c95b1:decide ((x6_4++(⟨#[44]⟩:ByteArray)).size+(rdOf ByteArray.empty y380 (Go.bits .and .i64 ((rd_T53 l0 x22_1).f3) 3)).size≤9223372036854775807)=true:=decide_eq_true c95
   try (have c95b5:=c95b0;simp only[ByteArray.size_append,Int.natCast_add] at c95b5)
   try have c95b2:=eq_false (Nat.not_lt.2 c95)
   try have c95b3:(9223372036854775807<x6_4.size+1+(rdOf ByteArray.empty y380 (Go.bits .and .i64 ((rd_T53 l0 x22_1).f3) 3)).size)=False:=eq_false (Nat.not_lt.2 (by have h_:=c95;simp only[ByteArray.size_append] at h_;exact h_))
   try have c95b4:(x6_4.size+1+(rdOf ByteArray.empty y380 (Go.bits .and .i64 ((rd_T53 l0 x22_1).f3) 3)).size≤9223372036854775807)=True:=eq_true (by have h_:=c95;simp only[ByteArray.size_append] at h_;exact h_)
   obtain⟨y415,hy415⟩:∃y_:List ByteArray,y_=(([(⟨#[226,128,166]⟩:ByteArray),(⟨#[46,46,46]⟩:ByteArray)]:List ByteArray)):=⟨_,rfl⟩
   replace H:(if 0≤(Go.bits .and .i64 ((rd_T53 l0 x22_1).f2) 1) then (if (Go.bits .and .i64 ((rd_T53 l0 x22_1).f2) 1)<(y415.length:Int) then (if ((x6_4++(⟨#[44]⟩:ByteArray))++(rdOf ByteArray.empty y380 (Go.bits .and .i64 ((rd_T53 l0 x22_1).f3) 3))).size+(rdOf ByteArray.empty y415 (Go.bits .and .i64 ((rd_T53 l0 x22_1).f2) 1)).size≤9223372036854775807 then (if (((x6_4++(⟨#[44]⟩:ByteArray))++(rdOf ByteArray.empty y380 (Go.bits .and .i64 ((rd_T53 l0 x22_1).f3) 3)))++(rdOf ByteArray.empty y415 (Go.bits .and .i64 ((rd_T53 l0 x22_1).f2) 1))).size+(rdOf ByteArray.empty y380 (Go.bits .and .i64 ((rd_T53 l0 x22_1).f3) 3)).size≤9223372036854775807 then (if x5_1.length<3518437208883 then (florinlaw08_Write.l0 k4 (x5_1++[(⟨((rd_T53 l0 x22_1).f0),x385001_4,true⟩:S35)]) ((((x6_4++(⟨#[44]⟩:ByteArray))++(rdOf ByteArray.empty y380 (Go.bits .and .i64 ((rd_T53 l0 x22_1).f3) 3)))++(rdOf ByteArray.empty y415 (Go.bits .and .i64 ((rd_T53 l0 x22_1).f2) 1)))++(rdOf ByteArray.empty y380 (Go.bits .and .i64 ((rd_T53 l0 x22_1).f3) 3))) x7_4 l0 (l0.length:Int) (wrap64 (x22_1+1))) else (none)) else (none)) else (none)) else (none)) else (none))=some (r1,r2,r3):=by first|(rw[hy415];with_reducible exact H)|(have H2_:=(Option.bind_some _ _).symm.trans H;rw[hy415];with_reducible exact H2_)|(have H2_:=(Option.bind_some _ _).symm.trans H;with_reducible exact H2_)|with_reducible exact H|(rw[hy415];exact H)|exact H
   have Ny415:=Aside0.mk hy415
   clear hy415
   replace H:=ifn_ H
   obtain⟨c96,H⟩:=H
   have c96b0:decide (0≤(Go.bits .and .i64 ((rd_T53 l0 x22_1).f2) 1))=true:=decide_eq_true c96
   clear c96
   replace H:=ifn_ H
   obtain⟨c97,H⟩:=H
   have c97b0:decide ((Go.bits .and .i64 ((rd_T53 l0 x22_1).f2) 1)<(y415.length:Int))=true:=decide_eq_true c97
   clear c97
   replace H:=ifn_ H
   obtain⟨c98,H⟩:=H
   have c98b0:=eq_true c98
   have c98b1:decide (((x6_4++(⟨#[44]⟩:ByteArray))++(rdOf ByteArray.empty y380 (Go.bits .and .i64 ((rd_T53 l0 x22_1).f3) 3))).size+(rdOf ByteArray.empty y415 (Go.bits .and .i64 ((rd_T53 l0 x22_1).f2) 1)).size≤9223372036854775807)=true:=decide_eq_true c98
   try (have c98b5:=c98b0;simp only[ByteArray.size_append,Int.natCast_add] at c98b5)
   try have c98b2:=eq_false (Nat.not_lt.2 c98)
   try have c98b3:(9223372036854775807<x6_4.size+1+(rdOf ByteArray.empty y380 (Go.bits .and .i64 ((rd_T53 l0 x22_1).f3) 3)).size+(rdOf ByteArray.empty y415 (Go.bits .and .i64 ((rd_T53 l0 x22_1).f2) 1)).size)=False:=eq_false (Nat.not_lt.2 (by have h_:=c98;simp only[ByteArray.size_append] at h_;exact h_))
   try have c98b4:(x6_4.size+1+(rdOf ByteArray.empty y380 (Go.bits .and .i64 ((rd_T53 l0 x22_1).f3) 3)).size+(rdOf ByteArray.empty y415 (Go.bits .and .i64 ((rd_T53 l0 x22_1).f2) 1)).size≤9223372036854775807)=True:=eq_true (by have h_:=c98;simp only[ByteArray.size_append] at h_;exact h_)
   replace H:=ifn_ H
   obtain⟨c99,H⟩:=H
   have c99b0:=eq_true c99
   have c99b1:decide ((((x6_4++(⟨#[44]⟩:ByteArray))++(rdOf ByteArray.empty y380 (Go.bits .and .i64 ((rd_T53 l0 x22_1).f3) 3)))++(rdOf ByteArray.empty y415 (Go.bits .and .i64 ((rd_T53 l0 x22_1).f2) 1))).size+(rdOf ByteArray.empty y380 (Go.bits .and .i64 ((rd_T53 l0 x22_1).f3) 3)).size≤9223372036854775807)=true:=decide_eq_true c99
   try (have c99b5:=c99b0;simp only[ByteArray.size_append,Int.natCast_add] at c99b5)
   try have c99b2:=eq_false (Nat.not_lt.2 c99)
   try have c99b3:(9223372036854775807<x6_4.size+1+(rdOf ByteArray.empty y380 (Go.bits .and .i64 ((rd_T53 l0 x22_1).f3) 3)).size+(rdOf ByteArray.empty y415 (Go.bits .and .i64 ((rd_T53 l0 x22_1).f2) 1)).size+(rdOf ByteArray.empty y380 (Go.bits .and .i64 ((rd_T53 l0 x22_1).f3) 3)).size)=False:=eq_false (Nat.not_lt.2 (by have h_:=c99;simp only[ByteArray.size_append] at h_;exact h_))
   try have c99b4:(x6_4.size+1+(rdOf ByteArray.empty y380 (Go.bits .and .i64 ((rd_T53 l0 x22_1).f3) 3)).size+(rdOf ByteArray.empty y415 (Go.bits .and .i64 ((rd_T53 l0 x22_1).f2) 1)).size+(rdOf ByteArray.empty y380 (Go.bits .and .i64 ((rd_T53 l0 x22_1).f3) 3)).size≤9223372036854775807)=True:=eq_true (by have h_:=c99;simp only[ByteArray.size_append] at h_;exact h_)
   replace H:=ifn_ H
   obtain⟨c100,H⟩:=H
   have LMc100:=Aside0.mk c100
   clear c100
   obtain⟨y419,hy419⟩:∃y_:List (S35),y_=(x5_1++[(⟨((rd_T53 l0 x22_1).f0),x385001_4,true⟩:S35)]):=⟨_,rfl⟩
   replace H:(florinlaw08_Write.l0 k4 y419 ((((x6_4++(⟨#[44]⟩:ByteArray))++(rdOf ByteArray.empty y380 (Go.bits .and .i64 ((rd_T53 l0 x22_1).f3) 3)))++(rdOf ByteArray.empty y415 (Go.bits .and .i64 ((rd_T53 l0 x22_1).f2) 1)))++(rdOf ByteArray.empty y380 (Go.bits .and .i64 ((rd_T53 l0 x22_1).f3) 3))) x7_4 l0 (l0.length:Int) (wrap64 (x22_1+1)))=some (r1,r2,r3):=by first|(rw[hy419];with_reducible exact H)|(have H2_:=(Option.bind_some _ _).symm.trans H;rw[hy419];with_reducible exact H2_)|(have H2_:=(Option.bind_some _ _).symm.trans H;with_reducible exact H2_)|with_reducible exact H|(rw[hy419];exact H)|exact H
   have Ny419:=Aside0.mk hy419
   clear hy419
   have H':=Aside0.mk H
   clear H
   have hnb101:=NB379_384.out
   have hnc101:=NB384_379.out
   obtain⟨hcz102_0,hcz102_1,hcz102_2,hcz102_3,hfz102_0,hfz102_1,hfz102_2,hfz102_3⟩:=bo4_ BK379
   obtain⟨hcz103_0,hcz103_1,hcz103_2,hfz103_0,hfz103_1,hfz103_2⟩:=bo3_ BK384
   go_wp2_with (first|((with_reducible refine gate_dst (N:=106) rfl ?_);refine Kd.R_lit Kd.string _ 9 ?hg (N:=106) ?hd (xs:=([(⟨#[226,128,166]⟩:ByteArray),(⟨#[46,46,46]⟩:ByteArray)]:List ByteArray)) (inner:=[.string (⟨#[226,128,166]⟩:ByteArray),.string (⟨#[46,46,46]⟩:ByteArray)]) (ok:=fun _=>True) (okp:=fun _=>True) ?hr ?hp (fun _ hk=>hk) trivial (Below.refl _ _) (Nat.le_refl _) (by simp) ?_;(case hd=>rfl);(case hg=>rfl);(case hr=>first|(go_simp;done)|(go_simp;rfl));(case hp=>exact(Reps.one (show Kd.M Kd.string _ _ _ (⟨#[226,128,166]⟩:ByteArray) [.string (⟨#[226,128,166]⟩:ByteArray)] from rfl) (Reps.one (show Kd.M Kd.string _ _ _ (⟨#[46,46,46]⟩:ByteArray) [.string (⟨#[46,46,46]⟩:ByteArray)] from rfl) (Reps.none _ _))));intro v416 w104 ho105 hb hg_ hnew_;clear hg_ hnew_;(first|rw[← Ny415.out] at ho105|(simp only[Int.reduceToNat] at ho105;rw[← Ny415.out] at ho105));have n0_:=Aside0.mk (Kd.S_below (by (with_reducible repeat(first|apply Kd.S_alloc|apply Kd.S_drewN|apply Kd.S_drew));exact(Kd.S_mono (Kd.S_far (Kd.S_mono HO_5.out (fun k_ hk=>(⟨hk,hk.2⟩:_∧k_≠gb384))) (fun _ hk=>hk.2) _) (fun _ h_=>h_.1))) hb);have n1_:=Aside0.mk (Kd.S_elder' (by (with_reducible repeat(first|apply Kd.S_alloc|apply Kd.S_drewN|apply Kd.S_drew));exact(Kd.S_mono (Kd.S_far (Kd.S_types HO_7.out BK384.out (by decide)) (fun _ hk=>hk.2) _) (fun _ h_=>h_.1))) (Kd.R_base ho105) hb);have n2_:=Aside0.mk (Kd.R_below (kdR_ ((Kd.R_mono (Kd.R_far (Kd.R_types HO_59.out BK384.out (by decide)) (fun _ hk=>hk.2) _) (fun _ h_=>h_.1)))) hb);have n3_:=Aside0.mk (Kd.R_below (kdR_ ((Kd.R_mono (Kd.R_far (Kd.R_types HO_385001.out BK384.out (by decide)) (fun _ hk=>hk.2) _) (fun _ h_=>h_.1)))) hb);have n4_:=Aside0.mk (Kd.R_lower ho105 (below_size (bl_ HB).out));have n5_:=bz_ BK379 hb;have n6_:=Aside0.mk (blk_below (g:=gb384) (o:= .cells #[.bool ((rd_T53 l0 x22_1).f0),u385001,.bool true] 35 (0,0)) ((bp_ BK384).out) hb);have n7_:=Aside0.mk (below_step (bl_ HB).out hb);clear HO_5;clear HO_7;clear HO_59;clear HO_385001;clear BK379;clear BK384;clear HB;revert n0_ n1_ n2_ n3_ n4_ n5_ n6_ n7_;intro HO_5 HO_7 HO_59 HO_385001 HO417 BK379 BK384 HB;clear hb ho105;obtain⟨hcz106_0,hcz106_1,hcz106_2,hcz106_3,hfz106_0,hfz106_1,hfz106_2,hfz106_3⟩:=bo4_ BK379;obtain⟨Ao107,co107,eo107⟩:=Kd.R_slice HO417.out;subst eo107;have p418:0≤((Go.bits .and .i64 ((rd_T53 l0 x22_1).f2) 1):Int):=od_;have q418:(Go.bits .and .i64 ((rd_T53 l0 x22_1).f2) 1)<(y415.length:Int):=od_;obtain⟨ad418,e418,hx418_0⟩:=Kd.at_string (Kd.R_reads' HO417.out).2.2 (Go.bits .and .i64 ((rd_T53 l0 x22_1).f2) 1) p418 q418;cases e418;replace p418:=eq_true p418;replace q418:=eq_true q418;obtain⟨hcz108_0,hcz108_1,hcz108_2,hfz108_0,hfz108_1,hfz108_2⟩:=bo3_ BK384;obtain⟨Ao110,co110,eo110⟩:=Kd.R_slice HO_385001.out;subst eo110)|((with_reducible refine gate_builtin (b:= .append) (xs:= #[.tmp 116,.tmp 118]) rfl ?_);at_builtin;refine Kd.S_append k35 (w0:=w) w.heap.size rfl (.tmp 116) (.tmp 118) 25 35 (.agg #[(.bool false),(.slice none 0 0),(.bool false)]) 40 rfl Tryd.underlying25 info35 rfl (by decide) (by omega) u5 x5_1 (⟨((rd_T53 l0 x22_1).f0),x385001_4,true⟩:S35) [.bool ((rd_T53 l0 x22_1).f0),.slice Ao110 x385001_4.length co110,.bool true] (fun k_=>k_≠gb384) (fun k_=>some k_=(.slice Ao110 x385001_4.length co110:Value).ownBlock) rfl rfl ?aP (fun k_ hk_=>((Kd.R_mono (ok':=fun k_=>((fun k_=>k_≠gb384)) k_∧some k_≠(u5:Value).ownBlock) (Kd.R_types (Kd.R_apart' (HO_385001.out) (Kd.S_typed HO_5.out) (by decide)) BK384.out (by decide)) (fun k_ hk=>⟨hk.2,hk.1.2⟩))).1 k_ hk_.symm) ?aF ?aO ?aB ?aS ?aL ?_;(case aP=>exact k35_mkM _ _ _ (⟨((rd_T53 l0 x22_1).f0),x385001_4,true⟩:S35) (Kd.R_mono (Kd.R_tight rfl (Kd.R_mono (ok':=fun k_=>((fun k_=>k_≠gb384)) k_∧some k_≠(u5:Value).ownBlock) (Kd.R_types (Kd.R_apart' (HO_385001.out) (Kd.S_typed HO_5.out) (by decide)) BK384.out (by decide)) (fun k_ hk=>⟨hk.2,hk.1.2⟩))) (fun _ h_=>h_)));(case aB=>exact(bl_ HB).out);(case aF=>exact(fun k_ hk=>Kd.freshB (bk_ BK384).out k_ hk));(case aO=>exact(by (with_reducible repeat(first|apply Kd.S_alloc|apply Kd.S_drewN|apply Kd.S_drew));exact Kd.S_mono HO_5.out (fun k_ hk=>⟨hk.2,fun e_=>hk.1 e_⟩)));(case aS=>exact(below_size (bl_ HB).out));(case aL=>have:=LMc100.out;omega);intro v420 w109 ho hb hg hat;rw[← Ny419.out] at ho;have n0_:=Aside0.mk (Kd.S_over' (krS_ HO_7) (Kd.S_typed (krS_ HO_5)) (by decide) hg);have n1_:=Aside0.mk (Kd.R_over' (kr_ HO_59) (Kd.S_typed (krS_ HO_5)) (by decide) hg);have n2_:=Aside0.mk (blk_grown (bk_ BK379).out hg (Kd.S_ne HO_5.out BK379.out (by decide)));have n3_:=Aside0.mk (blk_grown (bk_ BK384).out hg (Kd.S_away HO_5.out (fun _ hk=>hk.2)));have n4_:=Aside0.mk (Kd.R_over' (kr_ HO417) (Kd.S_typed (krS_ HO_5)) (by decide) hg);have n5_:=Aside0.mk (hb);have n6_:=Aside0.mk (ho);clear HO_7;clear HO_59;clear BK379;clear BK384;clear HO417;clear HB;clear HO_5;clear HO_385001;revert n0_ n1_ n2_ n3_ n4_ n5_ n6_;intro HO_7 HO_59 BK379 BK384 HO417 HB HO421;clear ho hb hg hat))
   go_roundg k4
   case measure=>have:=HK1.out;have:=HJ11.out;have:=HJ29.out;have:=HK4.out;omega
   case rel=>exact⟨(y419),((((x6_4++(⟨#[44]⟩:ByteArray))++(rdOf ByteArray.empty y380 (Go.bits .and .i64 ((rd_T53 l0 x22_1).f3) 3)))++(rdOf ByteArray.empty y415 (Go.bits .and .i64 ((rd_T53 l0 x22_1).f2) 1)))++(rdOf ByteArray.empty y380 (Go.bits .and .i64 ((rd_T53 l0 x22_1).f3) 3))),(x7_4),(wrap64 (x22_1+1)),eq_,eq_,H',⟨by have:=HK1.out;have:=HJ11.out;have:=HJ29.out;have:=HK4.out;omega⟩,⟨by (with_reducible repeat(first|apply Kd.S_alloc|apply Kd.S_drewN|apply Kd.S_drew));exact Kd.S_mono HO421.out (fun _ hk=>trivial)⟩,⟨by (with_reducible repeat(first|apply Kd.S_alloc|apply Kd.S_drewN|apply Kd.S_drew));exact Kd.S_mono HO_7.out (fun _ hk=>trivial)⟩,(bl_ HB)⟩
  rw[if_neg c93] at H
  have c93b0:decide (1<(Go.bits .and .i64 ((rd_T53 l0 x22_1).f2) 3))=false:=decide_eq_false c93
  clear c93
  replace H:=ifn_ H
  obtain⟨c111,H⟩:=H
  have c111b0:=eq_true c111
  have c111b1:decide (x6_4.size+(rdOf ByteArray.empty y380 (Go.bits .and .i64 ((rd_T53 l0 x22_1).f3) 3)).size≤9223372036854775807)=true:=decide_eq_true c111
  try have c111b2:=eq_false (Nat.not_lt.2 c111)
  replace H:=ifn_ H
  obtain⟨c112,H⟩:=H
  have LMc112:=Aside0.mk c112
  clear c112
  obtain⟨y422,hy422⟩:∃y_:List (S35),y_=(x5_1++[(⟨((rd_T53 l0 x22_1).f0),x385001_4,false⟩:S35)]):=⟨_,rfl⟩
  replace H:(florinlaw08_Write.l0 k4 y422 (x6_4++(rdOf ByteArray.empty y380 (Go.bits .and .i64 ((rd_T53 l0 x22_1).f3) 3))) x7_4 l0 (l0.length:Int) (wrap64 (x22_1+1)))=some (r1,r2,r3):=by first|(rw[hy422];with_reducible exact H)|(have H2_:=(Option.bind_some _ _).symm.trans H;rw[hy422];with_reducible exact H2_)|(have H2_:=(Option.bind_some _ _).symm.trans H;with_reducible exact H2_)|with_reducible exact H|(rw[hy422];exact H)|exact H
  have Ny422:=Aside0.mk hy422
  clear hy422
  have H':=Aside0.mk H
  clear H
  have hnb113:=NB379_384.out
  have hnc113:=NB384_379.out
  obtain⟨hcz114_0,hcz114_1,hcz114_2,hcz114_3,hfz114_0,hfz114_1,hfz114_2,hfz114_3⟩:=bo4_ BK379
  obtain⟨hcz115_0,hcz115_1,hcz115_2,hfz115_0,hfz115_1,hfz115_2⟩:=bo3_ BK384
  obtain⟨Ao117,co117,eo117⟩:=Kd.R_slice HO_385001.out
  subst eo117
  go_wp2_with (first|((with_reducible refine gate_builtin (b:= .append) (xs:= #[.tmp 116,.tmp 118]) rfl ?_);at_builtin;refine Kd.S_append k35 (w0:=w) w.heap.size rfl (.tmp 116) (.tmp 118) 25 35 (.agg #[(.bool false),(.slice none 0 0),(.bool false)]) 40 rfl Tryd.underlying25 info35 rfl (by decide) (by omega) u5 x5_1 (⟨((rd_T53 l0 x22_1).f0),x385001_4,false⟩:S35) [.bool ((rd_T53 l0 x22_1).f0),.slice Ao117 x385001_4.length co117,.bool false] (fun k_=>k_≠gb384) (fun k_=>some k_=(.slice Ao117 x385001_4.length co117:Value).ownBlock) rfl rfl ?aP (fun k_ hk_=>((Kd.R_mono (ok':=fun k_=>((fun k_=>k_≠gb384)) k_∧some k_≠(u5:Value).ownBlock) (Kd.R_types (Kd.R_apart' (HO_385001.out) (Kd.S_typed HO_5.out) (by decide)) BK384.out (by decide)) (fun k_ hk=>⟨hk.2,hk.1.2⟩))).1 k_ hk_.symm) ?aF ?aO ?aB ?aS ?aL ?_;(case aP=>exact k35_mkM _ _ _ (⟨((rd_T53 l0 x22_1).f0),x385001_4,false⟩:S35) (Kd.R_mono (Kd.R_tight rfl (Kd.R_mono (ok':=fun k_=>((fun k_=>k_≠gb384)) k_∧some k_≠(u5:Value).ownBlock) (Kd.R_types (Kd.R_apart' (HO_385001.out) (Kd.S_typed HO_5.out) (by decide)) BK384.out (by decide)) (fun k_ hk=>⟨hk.2,hk.1.2⟩))) (fun _ h_=>h_)));(case aB=>exact(bl_ HB).out);(case aF=>exact(fun k_ hk=>Kd.freshB (bk_ BK384).out k_ hk));(case aO=>exact(by (with_reducible repeat(first|apply Kd.S_alloc|apply Kd.S_drewN|apply Kd.S_drew));exact Kd.S_mono HO_5.out (fun k_ hk=>⟨hk.2,fun e_=>hk.1 e_⟩)));(case aS=>exact(below_size (bl_ HB).out));(case aL=>have:=LMc112.out;omega);intro v423 w116 ho hb hg hat;rw[← Ny422.out] at ho;have n0_:=Aside0.mk (Kd.S_over' (krS_ HO_7) (Kd.S_typed (krS_ HO_5)) (by decide) hg);have n1_:=Aside0.mk (Kd.R_over' (kr_ HO_59) (Kd.S_typed (krS_ HO_5)) (by decide) hg);have n2_:=Aside0.mk (blk_grown (bk_ BK379).out hg (Kd.S_ne HO_5.out BK379.out (by decide)));have n3_:=Aside0.mk (blk_grown (bk_ BK384).out hg (Kd.S_away HO_5.out (fun _ hk=>hk.2)));have n4_:=Aside0.mk (hb);have n5_:=Aside0.mk (ho);clear HO_7;clear HO_59;clear BK379;clear BK384;clear HB;clear HO_5;clear HO_385001;revert n0_ n1_ n2_ n3_ n4_ n5_;intro HO_7 HO_59 BK379 BK384 HB HO424;clear ho hb hg hat))
  go_roundg k4
  case measure=>have:=HK1.out;have:=HJ11.out;have:=HJ29.out;have:=HK4.out;omega
  case rel=>exact⟨(y422),(x6_4++(rdOf ByteArray.empty y380 (Go.bits .and .i64 ((rd_T53 l0 x22_1).f3) 3))),(x7_4),(wrap64 (x22_1+1)),eq_,eq_,H',⟨by have:=HK1.out;have:=HJ11.out;have:=HJ29.out;have:=HK4.out;omega⟩,⟨by (with_reducible repeat(first|apply Kd.S_alloc|apply Kd.S_drewN|apply Kd.S_drew));exact Kd.S_mono HO424.out (fun _ hk=>trivial)⟩,⟨by (with_reducible repeat(first|apply Kd.S_alloc|apply Kd.S_drewN|apply Kd.S_drew));exact HO_7.out⟩,(bl_ HB)⟩
 rw[if_neg c6] at H
 have c6b0:=decide_eq_false c6
 clear c6
 simp only[Option.some.injEq,Prod.mk.injEq] at H
 obtain⟨rfl,rfl,rfl⟩:=H
 go_wp2
 go_ret3
 exact⟨_,_,by first|rfl|(simp[errW_none,errW_some] <;> rfl)|(simp[*,errW_none,errW_some] <;> first|rfl|exact given_isEmpty _|exact(given_isEmpty _).symm),by (with_reducible repeat(first|apply Kd.S_alloc|apply Kd.S_drewN|apply Kd.S_drew));exact HO_5.out,by (with_reducible repeat(first|apply Kd.S_alloc|apply Kd.S_drewN|apply Kd.S_drew));exact HO_7.out,by repeat(first|(with_reducible first|exact HB.out|apply below_alloc|apply pw_below_drewN|apply below_drew1)|exact HB.out)⟩

end Go.Proofs.YtbhhfpjiacfofaaDoor.P
