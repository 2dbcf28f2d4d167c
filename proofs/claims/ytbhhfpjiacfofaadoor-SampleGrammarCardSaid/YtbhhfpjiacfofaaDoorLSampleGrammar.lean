import Derived.Test.YtbhhfpjiacfofaaDoorSB
import Derived.KernelRfl
import Derived.Test.YtbhhfpjiacfofaaDoorPx12
import Derived.Test.YtbhhfpjiacfofaaDoorPx13
import Derived.Test.YtbhhfpjiacfofaaDoorPx7
import Derived.Test.YtbhhfpjiacfofaaDoorPx8
namespace Go.Proofs.YtbhhfpjiacfofaaDoor.P
open Go.RowKit Go.Proofs.YtbhhfpjiacfofaaDoorW.PrintWords Go.Proofs.YtbhhfpjiacfofaaDoorW.PrintLast Go.Proofs.YtbhhfpjiacfofaaDoorW.PrintMore Go.Proofs.YtbhhfpjiacfofaaDoor.FM
set_option linter.unusedVariables false
set_option linter.unusedSimpArgs false

namespace SR
set_option maxRecDepth 100000 in
theorem head8_k (k:Nat):florinlaw08_head.f (k+60)=some true:=by kernel_rfl
theorem head8_ev:Ev (fun k=>florinlaw08_head.f k) true:=⟨60,fun k hk=>by obtain⟨j,rfl⟩:=Nat.exists_eq_add_of_le hk;rw[Nat.add_comm];exact head8_k j⟩
theorem rdI {L:List It} {i:Nat} {z:It} {zs:List It} (h:L.drop i=z::zs):rd_T37 L (i:Int)=z∧i<L.length∧L.drop (i+1)=zs:=by
  have hl:=congrArg List.length h
  rw[List.length_drop,List.length_cons] at hl
  have hi:i<L.length:=by omega
  have h2:=List.drop_eq_getElem_cons hi
  rw[h] at h2
  obtain⟨e1,e2⟩:=List.cons.inj h2
  refine⟨?_,hi,e2.symm⟩
  unfold rd_T37
  rw[Int.toNat_natCast,List.getD_eq_getElem?_getD,List.getElem?_eq_getElem hi,e1];rfl
theorem rdS {L:List St} {i:Nat} {z:St} {zs:List St} (h:L.drop i=z::zs):rd_T35 L (i:Int)=z∧i<L.length∧L.drop (i+1)=zs:=by
  have hl:=congrArg List.length h
  rw[List.length_drop,List.length_cons] at hl
  have hi:i<L.length:=by omega
  have h2:=List.drop_eq_getElem_cons hi
  rw[h] at h2
  obtain⟨e1,e2⟩:=List.cons.inj h2
  refine⟨?_,hi,e2.symm⟩
  unfold rd_T35
  rw[Int.toNat_natCast,List.getD_eq_getElem?_getD,List.getElem?_eq_getElem hi,e1];rfl
theorem rdA {L:List (List ByteArray)} {i:Nat} {z:List ByteArray} {zs:List (List ByteArray)} (h:L.drop i=z::zs):rd_L8 L (i:Int)=z∧i<L.length∧L.drop (i+1)=zs:=by
  have hl:=congrArg List.length h
  rw[List.length_drop,List.length_cons] at hl
  have hi:i<L.length:=by omega
  have h2:=List.drop_eq_getElem_cons hi
  rw[h] at h2
  obtain⟨e1,e2⟩:=List.cons.inj h2
  refine⟨?_,hi,e2.symm⟩
  unfold rd_L8
  rw[Int.toNat_natCast,List.getD_eq_getElem?_getD,List.getElem?_eq_getElem hi,e1];rfl
theorem w1 {i:Nat} (h:i≤1000000):wrap64 ((i:Int)+1)=((i+1:Nat):Int):=by rw[w64 (by omega) (by omega)];omega
/-! the same rows -/
theorem same_l1 (X:List St) (n:Int) (j:Nat) (hj:j<X.length) (z:St) (hz:rd_T35 X (j:Int)=z) (hl:z.f1.length≤1000) (hnext:Ev (fun k=>florinlaw08_Same.l0 k X X n (wrap64 ((j:Int)+1))) true):∀(d i:Nat),i+d=z.f1.length→Ev (fun k=>florinlaw08_Same.l1 k X X (j:Int) n (j:Int) (z.f1.length:Int) (i:Int)) true:=by
  intro d
  induction d with
  | zero =>
    intro i hi
    have:i=z.f1.length:=hi
    subst this
    exact Ev.step (fun k=>florinlaw08_Same.l1.eq_2 ..) (Ev.if_neg (Int.lt_irrefl _) hnext)
  | succ d ih =>
    intro i hi
    have hlt:i<z.f1.length:=by omega
    have b1:(i:Int)<(z.f1.length:Int):=Int.ofNat_lt.2 hlt
    have b2:(j:Int)<(X.length:Int):=Int.ofNat_lt.2 hj
    have h:=ih (i+1) (by omega)
    refine Ev.step (fun k=>florinlaw08_Same.l1.eq_2 ..) ?_
    rw[hz,w1 (by omega)]
    refine Ev.if_pos b1 (Ev.if_pos (Int.natCast_nonneg j) (Ev.if_pos b2 (Ev.if_pos (Int.natCast_nonneg i) (Ev.if_pos b1 (Ev.if_pos b2 (Ev.if_pos b1 (Ev.if_neg (by simp) h)))))))
theorem same_l0 (X:List St) (hX:X.length≤1000) (hl:∀z∈X,z.f1.length≤1000):∀(d j:Nat),j+d=X.length→Ev (fun k=>florinlaw08_Same.l0 k X X (X.length:Int) (j:Int)) true:=by
  intro d
  induction d with
  | zero =>
    intro j hj
    have:j=X.length:=hj
    subst this
    exact Ev.step (fun k=>florinlaw08_Same.l0.eq_2 ..) (Ev.if_neg (Int.lt_irrefl _) (Ev.now _))
  | succ d ih =>
    intro j hj
    have hlt:j<X.length:=by omega
    have b2:(j:Int)<(X.length:Int):=Int.ofNat_lt.2 hlt
    obtain⟨r1,-,-⟩:=rdS (List.drop_eq_getElem_cons hlt)
    have hz:=hl _ (List.getElem_mem hlt)
    have h:=ih (j+1) (by omega)
    rw[← w1 (by omega)] at h
    have h1:=same_l1 X (X.length:Int) j hlt _ r1 hz h _ 0 (Nat.zero_add _)
    have j1:∀b,b=false→Ev (fun k=>florinlaw08_Same.j1 k X X (j:Int) (X.length:Int) (j:Int) b) true:=by
      rintro b rfl
      refine Ev.step (fun k=>florinlaw08_Same.j1.eq_2 ..) (Ev.if_neg Bool.false_ne_true (Ev.if_pos (Int.natCast_nonneg j) (Ev.if_pos b2 ?_)))
      rw[r1]
      exact h1
    refine Ev.step (fun k=>florinlaw08_Same.l0.eq_2 ..) (Ev.if_pos b2 (Ev.if_pos (Int.natCast_nonneg j) (Ev.if_pos b2 (Ev.if_pos b2 ?_))))
    exact Ev.if_neg (by simp) (Ev.if_neg (by simp) (j1 _ (by simp)))
theorem same_ev (X:List St) (hX:X.length≤1000) (hl:∀z∈X,z.f1.length≤1000):Ev (fun k=>florinlaw08_Same.f k X X) true:=by
  unfold florinlaw08_Same.f
  exact Ev.if_pos rfl (same_l0 X hX hl _ 0 (Nat.zero_add _))
/-! all numbers are gone through -/
theorem gr_l2 (A:List (List ByteArray)) (c:Nat) (T:List ByteArray) (hT:T.length≤1000) (hr:rd_L8 A (c:Int)=T) (hc:c<A.length) (X:List St) (n j:Int) (L:List It) (m i:Int)
    (hnext:Ev (fun k=>florinlaw08_SampleGrammar.l1 k A (wrap64 ((c:Int)+1)) X n j L m (wrap64 (i+1))) true):∀(d q:Nat),q+d=T.length→Ev (fun k=>florinlaw08_SampleGrammar.l2 k A (c:Int) T X n j L m i (T.length:Int) (q:Int)) true:=by
  intro d
  induction d with
  | zero =>
    intro q hq
    have:q=T.length:=hq
    subst this
    exact Ev.step (fun k=>florinlaw08_SampleGrammar.l2.eq_2 ..) (Ev.if_neg (Int.lt_irrefl _) hnext)
  | succ d ih =>
    intro q hq
    have b1:(q:Int)<(T.length:Int):=Int.ofNat_lt.2 (by omega)
    have b2:(c:Int)<(A.length:Int):=Int.ofNat_lt.2 hc
    have h:=ih (q+1) (by omega)
    refine Ev.step (fun k=>florinlaw08_SampleGrammar.l2.eq_2 ..) ?_
    rw[hr,w1 (by omega)]
    exact Ev.if_pos b1 (Ev.if_pos (Int.natCast_nonneg q) (Ev.if_pos b1 (Ev.if_pos (Int.natCast_nonneg c) (Ev.if_pos b2 (Ev.if_pos b1 (Ev.if_pos rfl h))))))
theorem texts_it (dec:Bool) (o:One):Ev (fun k=>florinlaw08_texts.f k (S (itLo dec o)) (S (itHi dec o))) ((itA dec o).map S):=by
  obtain⟨h,hl⟩:=it_all dec o
  unfold florinlaw08_texts.f
  exact Ev.bind h (Ev.if_pos (by rw[List.length_map];omega) (Ev.now _))
theorem gr_l1 (A:List (List ByteArray)) (hA:A.length≤1000) (X:List St) (n:Int) (j:Nat) (dec:Bool) (os:List One) (ho:os.length≤100) (R:List (List ByteArray)):∀(zs:List One) (i c:Nat),i≤os.length→os.drop i=zs→A.drop c=(zs.map fun o=>(itA dec o).map S)++R→c≤A.length →
    (∀c':Nat,A.drop c'=R→c'≤A.length→Ev (fun k=>florinlaw08_SampleGrammar.l0 k A (c':Int) X n (wrap64 ((j:Int)+1))) true) →
    Ev (fun k=>florinlaw08_SampleGrammar.l1 k A (c:Int) X n (j:Int) (os.map (itI dec)) ((os.map (itI dec)).length:Int) (i:Int)) true:=by
  intro zs
  induction zs with
  | nil =>
    intro i c hi hd hAc hc hnext
    have e:i=(os.map (itI dec)).length:=by
      have:=congrArg List.length hd
      rw[List.length_drop,List.length_nil] at this
      rw[List.length_map]
      omega
    subst e
    exact Ev.step (fun k=>florinlaw08_SampleGrammar.l1.eq_2 ..) (Ev.if_neg (Int.lt_irrefl _) (hnext c hAc hc))
  | cons o zs ih =>
    intro i c hi hd hAc hc hnext
    have hd2:(os.map (itI dec)).drop i=itI dec o::zs.map (itI dec):=by rw[← List.map_drop,hd,List.map_cons]
    obtain⟨r1,r2,-⟩:=rdI hd2
    rw[List.map_cons,List.cons_append] at hAc
    obtain⟨a1,a2,a3⟩:=rdA hAc
    have hd3:os.drop (i+1)=zs:=by
      have:=congrArg List.tail hd
      rw[List.tail_drop,List.tail_cons] at this
      exact this
    have hi2:i+1≤os.length:=by rw[List.length_map] at r2;exact r2
    have h:=ih (i+1) (c+1) hi2 hd3 a3 a2 hnext
    have b1:(i:Int)<((os.map (itI dec)).length:Int):=Int.ofNat_lt.2 r2
    have b2:(c:Int)<(A.length:Int):=Int.ofNat_lt.2 a2
    rw[← w1 (by omega), ← w1 (by omega)] at h
    obtain⟨-,hl⟩:=it_all dec o
    refine Ev.step (fun k=>florinlaw08_SampleGrammar.l1.eq_2 ..) (Ev.if_pos b1 (Ev.if_pos (Int.natCast_nonneg i) (Ev.if_pos b1 ?_)))
    rw[r1,a1]
    refine Ev.bind (texts_it dec o) (Ev.if_pos (Int.natCast_nonneg c) (Ev.if_pos b2 (Ev.if_pos rfl ?_)))
    exact gr_l2 A c _ (by rw[List.length_map];omega) a1 a2 X n (j:Int) _ _ (i:Int) h _ 0 (Nat.zero_add _)
theorem gr_l0 (A:List (List ByteArray)) (hA:A.length≤1000) (Ks:List Kn) (hF:FewS Ks):∀(ms:List Kn) (j c:Nat),j≤Ks.length→Ks.drop j=ms→A.drop c=(ms.map setA).flatten→c≤A.length →
    Ev (fun k=>florinlaw08_SampleGrammar.l0 k A (c:Int) (Ks.map setR) ((Ks.map setR).length:Int) (j:Int)) true:=by
  intro ms
  induction ms with
  | nil =>
    intro j c hj hd hAc hc
    have e:j=(Ks.map setR).length:=by
      have:=congrArg List.length hd
      rw[List.length_drop,List.length_nil] at this
      rw[List.length_map]
      omega
    have e2:c=A.length:=by
      have:=congrArg List.length hAc
      rw[List.length_drop] at this
      change A.length-c=0 at this
      omega
    subst e e2
    refine Ev.step (fun k=>florinlaw08_SampleGrammar.l0.eq_2 ..) (Ev.if_neg (Int.lt_irrefl _) (Ev.yes ?_))
    exact beq_self_eq_true _
  | cons m ms ih =>
    intro j c hj hd hAc hc
    have hm:m∈Ks:=List.mem_of_mem_drop (by rw[hd];exact List.mem_cons_self ..)
    have h4:=hF.1
    obtain⟨ho,-⟩:=os_len (hF.2 m hm)
    have hd2:(Ks.map setR).drop j=setR m::ms.map setR:=by rw[← List.map_drop,hd,List.map_cons]
    obtain⟨r1,r2,-⟩:=rdS hd2
    have hd3:Ks.drop (j+1)=ms:=by
      have:=congrArg List.tail hd
      rw[List.tail_drop,List.tail_cons] at this
      exact this
    have hj2:j+1≤Ks.length:=by rw[List.length_map] at r2;exact r2
    rw[List.map_cons,List.flatten_cons] at hAc
    have b1:(j:Int)<((Ks.map setR).length:Int):=Int.ofNat_lt.2 r2
    refine Ev.step (fun k=>florinlaw08_SampleGrammar.l0.eq_2 ..) (Ev.if_pos b1 (Ev.if_pos (Int.natCast_nonneg j) (Ev.if_pos b1 ?_)))
    rw[r1]
    refine gr_l1 A hA (Ks.map setR) _ j m.f0 (osOf m) (by omega) (ms.map setA).flatten (osOf m) 0 c (Nat.zero_le _) rfl hAc hc (fun c' h1 h2=>?_)
    have h:=ih (j+1) c' hj2 hd3 h1 h2
    rw[← w1 (by omega)] at h
    exact h
theorem allA_len:∀ms:List Kn,(∀m∈ms,m.f1.length≤6)→((ms.map setA).flatten).length≤6*ms.length
  | [],_=>Nat.zero_le _
  | m::ms,h=>by
    have h1:=allA_len ms (fun z hz=>h z (List.mem_cons_of_mem _ hz))
    have h2:=setA_len (h m (List.mem_cons_self ..))
    rw[List.map_cons,List.flatten_cons,List.length_append,List.length_cons];omega
end SR
open SR
theorem pureSampleGrammar (l0:List SR.Kn):∃k,florinlaw08_SampleGrammar.f k l0=some true:=by
  refine Ev.rounds ?_
  unfold florinlaw08_SampleGrammar.f
  refine Ev.bind head8_ev (Ev.if_pos rfl ?_)
  obtain⟨b,h1,h2⟩:=few_ev l0
  refine Ev.bind h1 ?_
  cases b with
  | false=>exact Ev.if_neg Bool.false_ne_true (Ev.now _)
  | true =>
    have hF:=h2 rfl
    have h4:=hF.1
    have hA:=allA_len l0 hF.2
    refine Ev.if_pos rfl (Ev.bind (write_ev hF) (Ev.bind (parse_w hF) (Ev.if_pos rfl (Ev.if_pos rfl (Ev.bind (same_ev _ (by rw[List.length_map];omega) ?_) ?_)))))
    · intro z hz
      obtain⟨m,hm,rfl⟩:=List.mem_map.1 hz
      have:=(os_len (hF.2 m hm)).1
      show((osOf m).map _).length≤1000
      rw[List.length_map];omega
    · refine Ev.step (fun k=>florinlaw08_SampleGrammar.j0.eq_2 ..) (Ev.if_neg Bool.false_ne_true ?_)
      exact gr_l0 _ (Nat.le_trans hA (by omega)) l0 hF l0 0 0 (Nat.zero_le _) rfl rfl (Nat.zero_le _)
end Go.Proofs.YtbhhfpjiacfofaaDoor.P
