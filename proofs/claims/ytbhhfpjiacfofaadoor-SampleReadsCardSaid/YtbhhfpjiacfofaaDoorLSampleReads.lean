import Derived.Test.YtbhhfpjiacfofaaDoorSB
import Derived.KernelRfl
import Derived.Test.YtbhhfpjiacfofaaDoorPx4
import Derived.Test.YtbhhfpjiacfofaaDoorPx7
import Derived.Test.YtbhhfpjiacfofaaDoorPx8
import Derived.Test.YtbhhfpjiacfofaaDoorPx9
namespace Go.Proofs.YtbhhfpjiacfofaaDoor.P
open Go.RowKit Go.Proofs.YtbhhfpjiacfofaaDoorW.PrintWords Go.Proofs.YtbhhfpjiacfofaaDoorW.PrintLast Go.Proofs.YtbhhfpjiacfofaaDoorW.PrintMore Go.Proofs.YtbhhfpjiacfofaaDoor.FM
set_option linter.unusedVariables false
set_option linter.unusedSimpArgs false

namespace SR
set_option maxRecDepth 100000 in
theorem head8_k (k:Nat):florinlaw08_head.f (k+60)=some true:=by kernel_rfl
theorem head8_ev:Ev (fun k=>florinlaw08_head.f k) true:=⟨60,fun k hk=>by obtain⟨j,rfl⟩:=Nat.exists_eq_add_of_le hk;rw[Nat.add_comm];exact head8_k j⟩
/-- an item's numbers, as the law asks -/
theorem item_nums {dec:Bool} {lo hi:List UInt8} (h:ItemOk dec lo hi) (h1:lo.length≤20000) (h2:hi.length≤20000):∃(ys:List (List UInt8)) (a b:List UInt8) (c:Int),
    Ev (fun k=>sample_Item_All.f k (S lo) (S hi)) (ys.map S)∧0<ys.length∧ys.length≤1000∧ys.getD 0 []=lo∧(hi=[]→ys.length=1)∧Ev (fun k=>operand_Read.f k (S (ys.getD (ys.length-1) []))) (S a,S b,c,0)∧(hi≠[]→Ev (fun k=>operand_Read.f k (S hi)) (S a,S b,c,0))∧(dec=false→b=[]):=by
  obtain⟨g1,f1,h3⟩:=h
  by_cases he:hi=[]
  · subst he
    exact⟨[lo],_,_,_,all_one h1,Nat.one_pos,(by show 1≤1000;omega),rfl,fun _=>rfl,Read_good (d:=lo) g1 (by omega),fun h=>absurd rfl h,f1⟩
  · rcases h3 with h3|⟨g2,f2,n,hs,hn⟩
    · exact absurd h3 he
    · obtain⟨a,b,r1,r2,r3⟩:=last_reads g1 g2 hs hn
      refine⟨(List.range (n+1)).map (numAt lo),a,b,0,?_,by simp,by simp;omega,?_,fun h=>absurd h he,?_,fun _=>r2,fun hd=>r3.trans (f2 hd)⟩
      · have:=all_ev h1 h2 he hs hn
        rw[List.map_map]
        exact this
      · rw[List.range_succ_eq_map,List.map_cons,numAt_zero g1.1 (steps_is hs hn).1]
        rfl
      · have:((List.range (n+1)).map (numAt lo)).getD (((List.range (n+1)).map (numAt lo)).length-1) []=numAt lo n:=by
          rw[List.length_map,List.length_range,Nat.add_sub_cancel,List.getD_eq_getElem?_getD,List.getElem?_map,List.getElem?_range (by omega)]
          rfl
        rw[this]
        exact r1
theorem rdOf_S {ys:List (List UInt8)} {i:Nat} (h:i<ys.length):rdOf ByteArray.empty (ys.map S) (i:Int)=S (ys.getD i []):=by
  unfold rdOf
  rw[Int.toNat_natCast,List.getD_eq_getElem?_getD,List.getD_eq_getElem?_getD,List.getElem?_map,List.getElem?_eq_getElem h]
  rfl
theorem rdI {L:List It} {i:Nat} {z:It} {zs:List It} (h:L.drop i=z::zs):rd_T37 L (i:Int)=z∧i<L.length∧z∈L:=by
  have hl:=congrArg List.length h
  rw[List.length_drop,List.length_cons] at hl
  have hi:i<L.length:=by omega
  have e:L[i]=z:=by
    have:=List.drop_eq_getElem_cons hi
    rw[h] at this
    exact(List.cons.inj this).1.symm
  refine⟨?_,hi,e▸List.getElem_mem hi⟩
  unfold rd_T37
  rw[Int.toNat_natCast,List.getD_eq_getElem?_getD,List.getElem?_eq_getElem hi, ← e];rfl
theorem rdS {L:List St} {i:Nat} {z:St} {zs:List St} (h:L.drop i=z::zs):rd_T35 L (i:Int)=z∧i<L.length∧z∈L:=by
  have hl:=congrArg List.length h
  rw[List.length_drop,List.length_cons] at hl
  have hi:i<L.length:=by omega
  have e:L[i]=z:=by
    have:=List.drop_eq_getElem_cons hi
    rw[h] at this
    exact(List.cons.inj this).1.symm
  refine⟨?_,hi,e▸List.getElem_mem hi⟩
  unfold rd_T35
  rw[Int.toNat_natCast,List.getD_eq_getElem?_getD,List.getElem?_eq_getElem hi, ← e];rfl
theorem some_ev {lo hi:List UInt8} {ys:List (List UInt8)} (h:Ev (fun k=>sample_Item_All.f k (S lo) (S hi)) (ys.map S)) (hl:ys.length≤1000) (b:Nat):Ev (fun k=>florinlaw08_some.f k (S lo) (S hi) ((b+1:Nat):Int)) (mn (ys.length:Int) ((b+1:Nat):Int)):=by
  unfold florinlaw08_some.f
  refine Ev.bind h (Ev.if_pos (by rw[List.length_map];omega) ?_)
  rw[List.length_map]
  have:(if 1≤((b+1:Nat):Int)∧((b+1:Nat):Int)≤(ys.length:Int) then ((b+1:Nat):Int) else (ys.length:Int))=mn (ys.length:Int) ((b+1:Nat):Int):=by
    unfold mn
    repeat' split
    all_goals omega
  rw[this]
  exact Ev.now _
theorem texts_ev {lo hi:List UInt8} {ys:List (List UInt8)} (h:Ev (fun k=>sample_Item_All.f k (S lo) (S hi)) (ys.map S)) (hl:ys.length≤1000):Ev (fun k=>florinlaw08_texts.f k (S lo) (S hi)) (ys.map S):=by
  unfold florinlaw08_texts.f
  exact Ev.bind h (Ev.if_pos (by rw[List.length_map];omega) (Ev.now _))
theorem reads_j2 (a1:Int) (b:Nat) (hb:Go.bits .and .i64 a1 7=(b:Int)) (hb7:b<8) (X:List St) (j:Nat) (dec m:Bool) (fx L:List It) (i:Nat) {lo hi' u v:List UInt8} {c:Int} {ys:List (List UInt8)}
    (y1:Ev (fun k=>sample_Item_All.f k (S lo) (S hi')) (ys.map S)) (y2:0<ys.length) (y3:ys.length≤1000) (y6:Ev (fun k=>operand_Read.f k (S (ys.getD (ys.length-1) []))) (S u,S v,c,0)) (y7:hi'≠[]→Ev (fun k=>operand_Read.f k (S hi')) (S u,S v,c,0)) (y8:dec=false→v=[])
    (ih:Ev (fun k=>florinlaw08_SampleReads.l1 k a1 X (X.length:Int) (j:Int) L (L.length:Int) (wrap64 ((i:Int)+1)) dec fx m) true) :
    Ev (fun k=>florinlaw08_SampleReads.j2 k a1 (ys.map S) X (X.length:Int) (j:Int) L (L.length:Int) (i:Int) false dec fx m (S lo) (S hi')) true:=by
  have hlen:(ys.map S).length=ys.length:=List.length_map ..
  have j4:Ev (fun k=>florinlaw08_SampleReads.j4 k a1 (ys.map S) X (X.length:Int) (j:Int) L (L.length:Int) (i:Int) false dec fx m (S lo) (S hi')) true:=by
    refine Ev.step (fun k=>florinlaw08_SampleReads.j4.eq_2 ..) (Ev.if_neg Bool.false_ne_true ?_)
    have e2:wrap64 (Go.bits .and .i64 a1 7+1)=((b+1:Nat):Int):=by rw[hb,w64 (by omega) (by omega)];omega
    rw[e2,hlen]
    exact Ev.bind (some_ev y1 y3 b) (Ev.if_pos rfl ih)
  have j3:∀w:ByteArray × ByteArray × Int × Int,w=(S u,S v,c,0)→Ev (fun k=>florinlaw08_SampleReads.j3 k a1 (ys.map S) 0 X (X.length:Int) (j:Int) L (L.length:Int) (i:Int) dec fx m (S lo) (S hi') (S u) (S v) c w.1 w.2.1 w.2.2.1) true:=by
    rintro w rfl
    refine Ev.step (fun k=>florinlaw08_SampleReads.j3.eq_2 ..) (Ev.if_pos rfl (Ev.if_neg (by simp) ?_))
    cases hd:dec with
    | true=>rw[hd] at j4;exact Ev.if_pos rfl j4
    | false =>
      rw[hd] at j4
      refine Ev.if_neg Bool.false_ne_true (Ev.const (V_ev _ _ _) ?_)
      rw[y8 hd]
      exact j4
  have e2:wrap64 (((ys.map S).length:Int)-1)=((ys.length-1:Nat):Int):=by rw[hlen,w64 (by omega) (by omega)];omega
  refine Ev.step (fun k=>florinlaw08_SampleReads.j2.eq_2 ..) (Ev.if_neg Bool.false_ne_true ?_)
  rw[e2,rdOf_S (by omega)]
  refine Ev.if_pos (by omega) (Ev.if_pos (by rw[hlen];omega) (Ev.bind y6 ?_))
  by_cases he:hi'=[]
  · exact Ev.if_pos (by rw[S_toList];exact he) (j3 (S u,S v,c,0) rfl)
  · exact Ev.if_neg (by rw[S_toList];exact he) (Ev.bind (y7 he) (j3 (S u,S v,c,0) rfl))
theorem reads_l1 (a1:Int) (b:Nat) (hb:Go.bits .and .i64 a1 7=(b:Int)) (hb7:b<8) (X:List St) (j:Nat) (hX:X.length≤100000) (hj:j<X.length) (dec m:Bool) (fx L:List It) (hL:L.length≤100000) (hok:ItemsOk dec L) (hnext:Ev (fun k=>florinlaw08_SampleReads.l0 k a1 X (X.length:Int) ((j+1:Nat):Int)) true) :
    ∀(d i:Nat),i+d=L.length→Ev (fun k=>florinlaw08_SampleReads.l1 k a1 X (X.length:Int) (j:Int) L (L.length:Int) (i:Int) dec fx m) true:=by
  intro d
  induction d with
  | zero =>
    intro i h
    refine Ev.step (fun k=>florinlaw08_SampleReads.l1.eq_2 ..) (Ev.if_neg (by omega) ?_)
    rw[w64 (by omega) (by omega)]
    exact hnext
  | succ d ihd =>
    intro i h
    have hi:i<L.length:=by omega
    obtain⟨r1,-,r3⟩:=rdI (List.drop_eq_getElem_cons hi)
    obtain⟨lo,hi',e,hlo,hhi,hio⟩:=hok _ r3
    rw[e] at r1
    obtain⟨ys,u,v,c,y1,y2,y3,y4,y5,y6,y7,y8⟩:=item_nums hio hlo hhi
    have hlen:(ys.map S).length=ys.length:=List.length_map ..
    have ih:=ihd (i+1) (by omega)
    have e1:wrap64 ((i:Int)+1)=((i+1:Nat):Int):=by rw[w64 (by omega) (by omega)];omega
    have j2:=reads_j2 a1 b hb hb7 X j dec m fx L i y1 y2 y3 y6 y7 y8 (by rw[e1];exact ih)
    have c1:¬((ys.map S).length:Int)=0:=by rw[hlen];omega
    have c2:¬((ys.map S).length:Int)>1000:=by rw[hlen];omega
    have c3:0<((ys.map S).length:Int):=by rw[hlen];omega
    have c4:(rdOf ByteArray.empty (ys.map S) 0).toList=(S lo).toList:=by rw[show(0:Int)=((0:Nat):Int) from rfl,rdOf_S y2,y4]
    have b1:(i:Int)<(L.length:Int):=Int.ofNat_lt.2 hi
    have b2:0≤(i:Int):=Int.natCast_nonneg i
    refine Ev.step (fun k=>florinlaw08_SampleReads.l1.eq_2 ..) ?_
    refine Ev.if_pos b1 ?_
    refine Ev.if_pos b2 ?_
    refine Ev.if_pos b1 ?_
    rw[r1]
    refine Ev.bind (a:=ys.map S) (texts_ev y1 y3) ?_
    generalize hzs:ys.map S=zs at c1 c2 c3 c4 hlen j2 ⊢
    refine Ev.if_neg c1 ?_
    refine Ev.if_neg c2 ?_
    refine Ev.if_pos c3 ?_
    refine Ev.if_pos c4 ?_
    · by_cases he:hi'=[]
      · refine Ev.if_pos (by show(S hi').toList=[];rw[S_toList];exact he) ?_
        have:((zs.length:Int) !=1)=false:=by rw[hlen,y5 he];rfl
        rw[this]
        exact j2
      · exact Ev.if_neg (by show ¬(S hi').toList=[];rw[S_toList];exact he) j2
theorem reads_l0 (a1:Int) (b:Nat) (hb:Go.bits .and .i64 a1 7=(b:Int)) (hb7:b<8) (X:List St) (hX:X.length≤100000) (hok:SetsOk X):∀(d j:Nat),j+d=X.length→Ev (fun k=>florinlaw08_SampleReads.l0 k a1 X (X.length:Int) (j:Int)) true
  | 0,j,h=>Ev.step (fun k=>florinlaw08_SampleReads.l0.eq_2 ..) (Ev.if_neg (by omega) (Ev.now _))
  | d+1,j,h=>by
    have hj:j<X.length:=by omega
    obtain⟨r1,-,r3⟩:=rdS (List.drop_eq_getElem_cons hj)
    obtain⟨⟨h1,h3⟩,h2⟩:=hok _ r3
    have hp:=List.length_pos_iff.2 h1
    refine Ev.step (fun k=>florinlaw08_SampleReads.l0.eq_2 ..) (Ev.if_pos (by omega) (Ev.if_pos (by omega) (Ev.if_pos (by omega) ?_)))
    rw[r1]
    exact Ev.if_neg (by omega) (reads_l1 a1 b hb hb7 X j hX hj _ _ _ _ h3 h2 (reads_l0 a1 b hb hb7 X hX hok d (j+1) (by omega)) _ 0 (Nat.zero_add _))
end SR
open SR
theorem pureSampleReads (a0:ByteArray) (a1:Int) (w0:a0.size≤140737488351232) (w1:(Lit.int .i64 a1).wf=true):∃k,florinlaw08_SampleReads.f k a0 a1=some true:=by
  refine Ev.rounds ?_
  obtain⟨b,h1,h2⟩:=low64 3 (by omega) a1 7 (by decide)
  unfold florinlaw08_SampleReads.f
  refine Ev.bind head8_ev (Ev.if_pos rfl ?_)
  rw[S_of a0]
  generalize a0.data.toList=l
  by_cases hs:((S l).size:Int)>200
  · exact Ev.if_pos hs (Ev.now _)
  · rw[S_size] at hs
    have hl:Le l:=by unfold Le;omega
    refine Ev.if_neg (by rw[S_size];exact hs) ?_
    rcases parse_dich hl with ⟨r,hr,hlen,he⟩|⟨e,r,hr,he⟩
    · exact Ev.bind he (Ev.if_pos rfl (reads_l0 a1 b h1 h2 r hlen hr r.length 0 (Nat.zero_add _)))
    · refine Ev.bind he (Ev.if_neg (show ¬code e=0 by cases e <;> decide) (Ev.if_pos rfl (Ev.if_pos (ps_nn hr) (Ev.if_pos (by rw[S_size];exact ps_le _ _) ?_))))
      show Ev (fun k=>if code e=1 then (some true) else (if code e=2 then (some true) else (if code e=3 then (some true) else (some (code e==4))))) true
      cases e
      · exact Ev.now _
      · exact Ev.now _
      · exact Ev.now _
      · exact Ev.now _
      · exact Ev.now _
end Go.Proofs.YtbhhfpjiacfofaaDoor.P
