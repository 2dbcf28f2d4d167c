import Derived.Test.YtadagjgkanlmdaaGreatDoorSB
import Derived.Test.YtadagjgkanlmdaaGreatDoorPx19
namespace Go.Proofs.YtadagjgkanlmdaaGreatDoor.P
open Go.RowKit Go.Proofs.YtadagjgkanlmdaaGreatDoorW.PrintWords Go.Proofs.YtadagjgkanlmdaaGreatDoorW.PrintLast Go.Proofs.YtadagjgkanlmdaaGreatDoorW.PrintMore Go.Proofs.YtadagjgkanlmdaaGreatDoor.FM
set_option linter.unusedVariables false
set_option linter.unusedSimpArgs false

namespace RR
theorem OkW_made {m:Mad} (h:FewM m):OkW (ruN m):=by
  obtain⟨h1,h2⟩:=OkU_made h
  refine⟨h1,fun a ha=>⟨(h2 a ha).1,fun r hr=>?_⟩⟩
  obtain⟨q1,q2,q3⟩:=(h2 a ha).2 r hr
  refine⟨q1,q2,q3,fun z hz=>?_⟩
  have ha':a∈(if catN m=5 then ([]:List (List RG.Rl)) else (anyN m).map alN):=ha
  by_cases h5:catN m=5
  · rw[_root_.if_pos h5] at ha'
    cases ha'
  · rw[_root_.if_neg h5] at ha'
    obtain⟨b,hb,rfl⟩:=List.mem_map.1 ha'
    obtain⟨q,hq,rfl⟩:=List.mem_map.1 hr
    obtain⟨y,hy,rfl⟩:=List.mem_map.1 hz
    obtain⟨l1,l2⟩:=spN_lt y
    have l3:(10:Nat) ^ 9=1000000000:=by decide
    rw[l3] at l2
    exact⟨by omega,by omega⟩
theorem OkW_all {ms:List Mad} (h:FewL ms):∀x∈allOut ms,OkW x:=by
  obtain⟨_,h2,_⟩:=selM_sub ms []
  intro x hx
  obtain⟨m,hm,rfl⟩:=List.mem_map.1 hx
  exact OkW_made (h.2 m (h2 m hm).1)
theorem opMade_okH {a b:List UInt8} (da:Dig a) (db:Dig b) (la:a.length≤41) (lb:b.length≤40) {e:Int} (he:ofE e≤15):OkH (opMade a b e):=by
  refine⟨db.drop _,?_,?_,?_⟩
  · show(b.drop (ofN b e)).length≤_
    rw[List.length_drop];omega
  · exact Nat.lt_of_lt_of_le (ofInt_lt a b da db e) (Nat.pow_le_pow_right (by decide) (by omega))
  · show ofE e≤_
    omega
section
variable {o:EV.Op} {T:Nat} {R:List RuleT} {RR':List RuleT}
theorem hl2 (hT:T=10 ^ 40) (h:OkH o) {i:Int} {A:List (List RelT)} {j:Int} {B:List RelT} (hB:B.length≤1000000) {c:Int} {Q:List (List RelT)} {p:ByteArray}:∀(zs:List RG.Rl) (m:Nat),B.drop m=zs.map toL→(∀q∈zs,OkP q) →
    Ev (fun k=>florinlaw07_EvalHolds.l1 k R R (R.length:Int) i A (A.length:Int) (wrap64 (j+1)) (S (mkl o.n)) (S o.f) (o.e:Int) c Q p) true →
    Ev (fun k=>florinlaw07_EvalHolds.l2 k R R (R.length:Int) i A (A.length:Int) j B (B.length:Int) (m:Int) (S (mkl o.n)) (S o.f) (o.e:Int) c Q p) true
  | [],m,hd,hq,hk=>by
    have:=drop_nil_le hd
    exact Ev.step (fun k=>florinlaw07_EvalHolds.l2.eq_2 ..) (Ev.if_neg (by omega) hk)
  | z::zs,m,hd,hq,hk=>by
    rw[List.map_cons] at hd
    obtain⟨_,hj,hd2⟩:=getD_drop (toL z) hd
    have ih:=hl2 hT h hB zs (m+1) hd2 (fun q hm=>hq q (List.mem_cons_of_mem _ hm)) hk
    have hz:=hq z List.mem_cons_self
    refine Ev.step (fun k=>florinlaw07_EvalHolds.l2.eq_2 ..) (Ev.if_pos (by omega) (Ev.if_pos (by omega) (Ev.if_pos (by omega) ?_)))
    rw[rdL' hd,w_succ (i:=m) (by omega)]
    exact Ev.bind (holds_ev h.ok hz.ok) (Ev.bind (page_holds hT h hz) (Ev.if_neg (by simp) ih))
theorem hl1 (hT:T=10 ^ 40) (h:OkH o) {i:Int} {A:List (List RelT)} (hA:A.length≤1000000) {x:RG.Ru} (hx:OkW x) (hk:Ev (fun k=>florinlaw07_EvalHolds.l0 k R R (R.length:Int) (wrap64 (i+1)) (S (mkl o.n)) (S o.f) (o.e:Int)) true):∀(zs:List (List RG.Rl)) (j:Nat),A.drop j=zs.map (fun a=>a.map toL)→(∀a∈zs,a.length≤1000000∧∀r∈a,OkP r) →
    Ev (fun k=>florinlaw07_EvalHolds.l1 k R R (R.length:Int) i A (A.length:Int) (j:Int) (S (mkl o.n)) (S o.f) (o.e:Int) (toU x).f0 (toU x).f1 (toU x).f2) true
  | [],j,hd,hq=>by
    have:=drop_nil_le hd
    exact Ev.step (fun k=>florinlaw07_EvalHolds.l1.eq_2 ..) (Ev.if_neg (by omega) (Ev.bind (meets_ev h.ok hx.ok) (Ev.bind (page_meets hT h hx) (Ev.if_neg (by simp) hk))))
  | z::zs,j,hd,hq=>by
    rw[List.map_cons] at hd
    obtain⟨_,hj,hd2⟩:=getD_drop (z.map toL) hd
    obtain⟨a1,a2⟩:=hq z List.mem_cons_self
    have ih:=hl1 hT h hA hx hk zs (j+1) hd2 (fun q hm=>hq q (List.mem_cons_of_mem _ hm))
    refine Ev.step (fun k=>florinlaw07_EvalHolds.l1.eq_2 ..) (Ev.if_pos (by omega) (Ev.if_pos (by omega) (Ev.if_pos (by omega) ?_)))
    rw[rdLL' hd]
    refine hl2 hT h (by rw[List.length_map];exact a1) z 0 rfl a2 ?_
    rw[w_succ (i:=j) (by omega)]
    exact ih
theorem hl0 (hT:T=10 ^ 40) (h:OkH o) {l:List RG.Ru} (hl:l.length≤1000000) (hq:∀x∈l,OkW x):∀(zs:List RG.Ru) (i:Nat),l.drop i=zs →
    Ev (fun k=>florinlaw07_EvalHolds.l0 k (l.map toU) (l.map toU) ((l.map toU).length:Int) (i:Int) (S (mkl o.n)) (S o.f) (o.e:Int)) true
  | [],i,hd=>by
    have:=drop_nil_le hd
    have h0:=pick_ev h.ok (l:=[]) (by decide) (fun x hx=>by cases hx)
    exact Ev.step (fun k=>florinlaw07_EvalHolds.l0.eq_2 ..) (Ev.if_neg (by rw[List.length_map];omega) (Ev.bind (pick_ev h.ok hl (fun x hx=>(hq x hx).ok)) (Ev.bind (page_pick hT h hl hq) (Ev.if_pos rfl (Ev.bind h0 (Ev.yes rfl))))))
  | z::zs,i,hd=>by
    obtain⟨_,hi,hd2⟩:=getD_drop z hd
    have hz:=hq z (List.mem_of_mem_drop (i:=i) (by rw[hd];exact List.mem_cons_self))
    have ih:=hl0 hT h hl hq zs (i+1) hd2
    have hru:rd_T41 (l.map toU) (i:Int)=toU z:=rdU' (zs:=zs.map toU) (by rw[← List.map_drop,hd,List.map_cons])
    refine Ev.step (fun k=>florinlaw07_EvalHolds.l0.eq_2 ..) (Ev.if_pos (by rw[List.length_map];omega) (Ev.if_pos (by omega) (Ev.if_pos (by rw[List.length_map];omega) ?_)))
    rw[hru]
    have hA:(toU z).f1.length≤1000000:=by
      show(z.any.map (fun a=>a.map toL)).length≤1000000
      rw[List.length_map]
      exact hz.1
    refine hl1 hT h hA hz ?_ z.any 0 rfl hz.2
    rw[w_succ (i:=i) (by omega)]
    exact ih
end
end RR
theorem pureEvalHolds (l0:List RR.Mad) (l1 l2:List Int) (a3:Int) (m1:l1.length≤maxLen) (y1:l1.length*1≤140737488351232) (w1:∀x∈l1,(Lit.int .u8 x).wf=true) (m2:l2.length≤maxLen) (y2:l2.length*1≤140737488351232) (w2:∀x∈l2,(Lit.int .u8 x).wf=true)
    (f3:(Lit.int .i64 a3).wf=true):∃k,florinlaw07_EvalHolds.f k l0 l1 l2 a3=some true:=by
  refine Ev.rounds ?_
  unfold florinlaw07_EvalHolds.f
  refine Ev.bind RR.head7_ev (Ev.if_pos rfl ?_)
  obtain⟨b,h1,h2⟩:=RR.few_ev l0
  refine Ev.bind h1 ?_
  have yes:Ev (fun k=>florinlaw07_EvalHolds.j0 k l0 l1 l2 a3 true) true:=Ev.step (fun k=>florinlaw07_EvalHolds.j0.eq_2 ..) (Ev.if_pos rfl (Ev.now _))
  cases b with
  | false=>exact Ev.if_neg (by decide) yes
  | true =>
    have hF:=h2 rfl
    refine Ev.if_pos rfl ?_
    by_cases g1:l1.length>40
    · exact Ev.if_pos (by omega) yes
    refine Ev.if_neg (by omega) ?_
    by_cases g2:l2.length>40
    · rw[show decide ((l2.length:Int)>40)=true from decide_eq_true (by omega)]
      exact yes
    rw[show decide ((l2.length:Int)>40)=false from decide_eq_false (by omega)]
    obtain⟨a,b,da,db,la,lb,eb,ea,hs,hof⟩:=RR.made_ev l1 l2 (by omega) (by omega) w1 w2
    obtain⟨ok,ho⟩:=hof (Go.bits .and .i64 a3 15)
    obtain⟨o1,_,_⟩:=RR.OkU_all hF
    obtain⟨x,q1,q2⟩:=low64 4 (by omega) a3 15 (by decide)
    have hx:x<16:=q2
    have hE:ofE (Go.bits .and .i64 a3 15)≤15:=by rw[q1];unfold ofE;omega
    have okH:=RR.opMade_okH da db (by omega) (by omega) hE
    obtain⟨T,hT⟩:∃T:Nat,T=10 ^ 40:=⟨_,rfl⟩
    exact Ev.step (fun k=>florinlaw07_EvalHolds.j0.eq_2 ..) (Ev.if_neg (by decide) (Ev.bind hs (Ev.bind ho (Ev.bind (RR.all_ev hF 0) (RR.hl0 hT okH (by omega) (RR.OkW_all hF) (RR.allOut l0) 0 rfl)))))
end Go.Proofs.YtadagjgkanlmdaaGreatDoor.P
