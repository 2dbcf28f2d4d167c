import Derived.Test.YtcokjmnkieakiaaDoorSA
import Derived.KernelRfl
import Derived.Test.YtcokjmnkieakiaaDoorPx10
import Derived.Test.YtcokjmnkieakiaaDoorPx11
import Derived.Test.YtcokjmnkieakiaaDoorPx8
import Derived.Test.YtcokjmnkieakiaaDoorPx9
namespace Go.Proofs.YtcokjmnkieakiaaDoor.P
open Go.RowKit Go.Proofs.YtcokjmnkieakiaaDoorW.PrintWords Go.Proofs.YtcokjmnkieakiaaDoorW.PrintLast Go.Proofs.YtcokjmnkieakiaaDoorW.PrintMore Go.Proofs.YtcokjmnkieakiaaDoor.FM
set_option linter.unusedVariables false
set_option linter.unusedSimpArgs false

namespace RR
set_option maxRecDepth 100000 in
theorem head6_k (k:Nat):florinlaw06_head.f (k+60)=some true:=by kernel_rfl
theorem head6_ev:Ev (fun k=>florinlaw06_head.f k) true:=⟨60,fun k hk=>by obtain⟨j,rfl⟩:=Nat.exists_eq_add_of_le hk;rw[Nat.add_comm];exact head6_k j⟩
theorem SmR_len {x:RG.Ru} (hw:RG.WfU x) (hl:(RG.wrRule x).length≤1000000):SmR x:=by
  by_cases ha0:x.any=[]
  · unfold SmR;rw[ha0];exact⟨by simp,by simp⟩
  have hA:(RG.wrAny x.any).length≤1000000:=by
    unfold RG.wrRule at hl
    rw[_root_.if_neg ha0] at hl
    simp only[List.length_append,List.length_cons] at hl
    omega
  have hwf:∀a∈x.any,RG.WfA a:=by
    rcases hw.2.1 with ⟨_,h⟩|⟨_,_,h⟩
    · exact absurd h ha0
    · exact h
  have h1:=len_le_jn (sep:=[32,111,114,32]) (by decide) (xs:=x.any.map RG.wrAll) (fun y hy=>by obtain⟨a,ha,rfl⟩:=List.mem_map.1 hy;exact wrAll_pos (hwf a ha).1)
  rw[List.length_map] at h1
  have h1':x.any.length≤(RG.wrAny x.any).length:=h1
  refine⟨by omega,fun a ha=>?_⟩
  have h2:(RG.wrAll a).length≤(RG.wrAny x.any).length:=jn_mem (sep:=[32,111,114,32]) (List.mem_map_of_mem ha)
  have h3:=len_le_jn (sep:=[32,97,110,100,32]) (by decide) (xs:=a.map RG.wrRel) (fun y hy=>by obtain⟨r,hr,rfl⟩:=List.mem_map.1 hy;exact wrRel_pos r)
  rw[List.length_map] at h3
  have h3':a.length≤(RG.wrAll a).length:=h3
  refine⟨by omega,fun r hr=>?_⟩
  have h4:(RG.wrRel r).length≤(RG.wrAll a).length:=jn_mem (sep:=[32,97,110,100,32]) (List.mem_map_of_mem hr)
  have h5:(RG.wrSpans r.rs).length≤(RG.wrRel r).length:=by
    unfold RG.wrRel;simp only[List.length_append,List.length_cons];omega
  have h6:=jn_len (sep:=[44]) (by decide) (r.rs.map RG.wrSpan)
  rw[List.length_map] at h6
  have h6':r.rs.length≤(RG.wrSpans r.rs).length+1:=h6
  have h7:(RG.wrRel r).length≥(RG.wrSpans r.rs).length+1:=by
    unfold RG.wrRel;simp only[List.length_append,List.length_cons];omega
  omega
section
variable {L:List RuleT} {x63:Int}
theorem reads_l3 {A:List (List RelT)} {a:List RelT} {x62 x96 x97 x105 x106:Int} {b0 b1 b2 b3 b4 b5:Bool} {rs:List (Nat × Nat)} (hl:rs.length≤1000000) (hw:∀y∈rs,RG.WfS y)
    (hk:Ev (fun k=>florinlaw06_RuleReads.l2 k L L x62 x63 A x96 x97 a x105 (wrap64 (x106+1)) b0 b1 b2 b3 b4 b5) true):∀(zs:List (Nat × Nat)) (i:Nat),rs.drop i=zs →
    Ev (fun k=>florinlaw06_RuleReads.l3 k L L x62 x63 A x96 x97 a x105 x106 (rs.map toG) ((rs.map toG).length:Int) (i:Int) b0 b1 b2 b3 b4 b5) true
  | [],i,hd=>by
    have hle:=drop_nil_le hd
    exact Ev.step (fun k=>florinlaw06_RuleReads.l3.eq_2 ..) (Ev.if_neg (by rw[List.length_map];omega) hk)
  | z::zs,i,hd=>by
    obtain⟨_,hi,hd2⟩:=getD_drop z hd
    have c1:(i:Int)<((rs.map toG).length:Int):=by rw[List.length_map];omega
    have c2:(0:Int)≤(i:Int):=by omega
    have hwi:=w_succ (i:=i) (by omega)
    have hz:z∈rs:=List.mem_of_mem_drop (by rw[hd];simp)
    have hd':(rs.map toG).drop i=toG z::zs.map toG:=by rw[← List.map_drop,hd];rfl
    obtain⟨w1,w2⟩:=hw z hz
    refine Ev.step (fun k=>florinlaw06_RuleReads.l3.eq_2 ..) (Ev.if_pos c1 (Ev.if_pos c2 (Ev.if_pos c1 ?_)))
    rw[rdG hd',hwi]
    show Ev (fun k=>if ((z.1:Nat):Int)<0 then none else if ((z.2:Nat):Int)<((z.1:Nat):Int) then none else if ((z.2:Nat):Int)>999999999 then none else _) true
    exact Ev.if_neg (by omega) (Ev.if_neg (by omega) (Ev.if_neg (by omega) (reads_l3 hl hw hk zs (i+1) hd2)))
theorem reads_l2 {A:List (List RelT)} {x62 x96 x97:Int} {b0 b1 b2 b3 b4 b5:Bool} {a:List RG.Rl} (hl:a.length≤1000000) (hw:∀r∈a,RG.WfR r∧r.rs.length≤1000000)
    (hk:Ev (fun k=>florinlaw06_RuleReads.l1 k L L x62 x63 A x96 (wrap64 (x97+1)) b0 b1 b2 b3 b4 b5) true):∀(zs:List RG.Rl) (i:Nat),a.drop i=zs →
    Ev (fun k=>florinlaw06_RuleReads.l2 k L L x62 x63 A x96 x97 (a.map toL) ((a.map toL).length:Int) (i:Int) b0 b1 b2 b3 b4 b5) true
  | [],i,hd=>by
    have hle:=drop_nil_le hd
    exact Ev.step (fun k=>florinlaw06_RuleReads.l2.eq_2 ..) (Ev.if_neg (by rw[List.length_map];omega) hk)
  | z::zs,i,hd=>by
    obtain⟨_,hi,hd2⟩:=getD_drop z hd
    have c1:(i:Int)<((a.map toL).length:Int):=by rw[List.length_map];omega
    have c2:(0:Int)≤(i:Int):=by omega
    have hwi:=w_succ (i:=i) (by omega)
    have hz:z∈a:=List.mem_of_mem_drop (by rw[hd];simp)
    have hd':(a.map toL).drop i=toL z::zs.map toL:=by rw[← List.map_drop,hd];rfl
    obtain⟨⟨w1,w2,w3,w4⟩,w5⟩:=hw z hz
    have ih:=reads_l2 hl hw hk zs (i+1) hd2
    rw[← hwi] at ih
    have h3:=reads_l3 w5 w4 ih z.rs 0 rfl
    have hne:¬((z.rs.map toG).length:Int)=0:=by
      have:=List.length_pos_iff.2 w3
      rw[List.length_map];omega
    refine Ev.step (fun k=>florinlaw06_RuleReads.l2.eq_2 ..) (Ev.if_pos c1 (Ev.if_pos c2 (Ev.if_pos c1 ?_)))
    rw[rdL hd']
    refine Ev.if_neg hne (Ev.step (fun k=>florinlaw06_RuleReads.j4.eq_2 ..) (Ev.if_neg ?_ h3))
    show ¬decide (((z.md:Nat):Int)<0)=true
    rw[decide_eq_true_eq];omega
theorem reads_l1 {x62:Int} {b0 b1 b2 b3 b4 b5:Bool} {any:List (List RG.Rl)} (hl:any.length≤1000000) (hw:∀a∈any,RG.WfA a∧a.length≤1000000∧∀r∈a,r.rs.length≤1000000)
    (hk:Ev (fun k=>florinlaw06_RuleReads.l0 k L L x62 (wrap64 (x63+1)) b0 b1 b2 b3 b4 b5) true):∀(zs:List (List RG.Rl)) (i:Nat),any.drop i=zs →
    Ev (fun k=>florinlaw06_RuleReads.l1 k L L x62 x63 (any.map (fun a=>a.map toL)) ((any.map (fun a=>a.map toL)).length:Int) (i:Int) b0 b1 b2 b3 b4 b5) true
  | [],i,hd=>by
    have hle:=drop_nil_le hd
    exact Ev.step (fun k=>florinlaw06_RuleReads.l1.eq_2 ..) (Ev.if_neg (by rw[List.length_map];omega) hk)
  | z::zs,i,hd=>by
    obtain⟨_,hi,hd2⟩:=getD_drop z hd
    have c1:(i:Int)<((any.map (fun a=>a.map toL)).length:Int):=by rw[List.length_map];omega
    have c2:(0:Int)≤(i:Int):=by omega
    have hwi:=w_succ (i:=i) (by omega)
    have hz:z∈any:=List.mem_of_mem_drop (by rw[hd];simp)
    have hd':(any.map (fun a=>a.map toL)).drop i=z.map toL::zs.map (fun a=>a.map toL):=by rw[← List.map_drop,hd];rfl
    obtain⟨w1,w2,w3⟩:=hw z hz
    have ih:=reads_l1 hl hw hk zs (i+1) hd2
    rw[← hwi] at ih
    have h3:=reads_l2 (A:=any.map (fun a=>a.map toL)) w2 (fun r hr=>⟨w1.2 r hr,w3 r hr⟩) ih z 0 rfl
    have hne:¬((z.map toL).length:Int)=0:=by
      have:=List.length_pos_iff.2 w1.1
      rw[List.length_map];omega
    refine Ev.step (fun k=>florinlaw06_RuleReads.l1.eq_2 ..) (Ev.if_pos c1 (Ev.if_pos c2 (Ev.if_pos c1 ?_)))
    rw[rdLL hd']
    exact Ev.if_neg hne h3
end
theorem reads_l0 {out:List RG.Ru} (hL:out.length≤1000000) (hw:∀x∈out,RG.WfU x∧SmR x) (hd0:(out.map (·.cat)).Nodup)
    (hk:Ev (fun k=>(rule_Rules_String.f k (out.map toU)).bind fun t957=>((rule_Parse.f k t957).bind fun bt958=>(if bt958.2.1=0 then ((florinlaw06_Same.f k bt958.1 (out.map toU)).bind fun t963=>(some t963)) else (none)))) true):∀(zs:List RG.Ru) (i:Nat) (seen:List Nat),out.drop i=zs→seen=(out.take i).map (·.cat) →
    Ev (fun k=>florinlaw06_RuleReads.l0 k (out.map toU) (out.map toU) ((out.map toU).length:Int) (i:Int) (sn seen 0) (sn seen 1) (sn seen 2) (sn seen 3) (sn seen 4) (sn seen 5)) true
  | [],i,seen,hd,hs=>by
    have hle:=drop_nil_le hd
    exact Ev.step (fun k=>florinlaw06_RuleReads.l0.eq_2 ..) (Ev.if_neg (by rw[List.length_map];omega) hk)
  | z::zs,i,seen,hd,hs=>by
    obtain⟨_,hi,hd2⟩:=getD_drop z hd
    have c1:(i:Int)<((out.map toU).length:Int):=by rw[List.length_map];omega
    have c2:(0:Int)≤(i:Int):=by omega
    have hwi:=w_succ (i:=i) (by omega)
    have hz:z∈out:=List.mem_of_mem_drop (by rw[hd];simp)
    have hd':(out.map toU).drop i=toU z::zs.map toU:=by rw[← List.map_drop,hd];rfl
    obtain⟨⟨w1,w2,w3⟩,w4⟩:=hw z hz
    have hout:out=out.take i++z::zs:=by rw[← hd,List.take_append_drop]
    have htk:out.take (i+1)=out.take i++[z]:=by
      rw[List.take_add,hd];rfl
    have hns:z.cat∉seen:=by
      rw[hs]
      rw[hout,List.map_append,List.nodup_append] at hd0
      intro hm
      exact hd0.2.2 _ hm _ (by simp) rfl
    have ih:=reads_l0 hL hw hd0 hk zs (i+1) (seen++[z.cat]) hd2 (by rw[hs,htk,List.map_append];rfl)
    rw[← hwi] at ih
    have hread:=rd6 _ _ _ _ _ _ (fun i=>sn seen i) rfl rfl rfl rfl rfl rfl w1
    have g0:=seen_put seen z.cat 0
    have g1:=seen_put seen z.cat 1
    have g2:=seen_put seen z.cat 2
    have g3:=seen_put seen z.cat 3
    have g4:=seen_put seen z.cat 4
    have g5:=seen_put seen z.cat 5
    have h1:=reads_l1 (any:=z.any) w4.1 (fun a ha=>⟨by
      rcases w2 with ⟨_,h⟩|⟨_,_,h⟩
      · rw[h] at ha;cases ha
      · exact h a ha,(w4.2 a ha).1,(w4.2 a ha).2⟩) ih z.any 0 rfl
    refine Ev.step (fun k=>florinlaw06_RuleReads.l0.eq_2 ..) (Ev.if_pos c1 (Ev.if_pos c2 (Ev.if_pos c1 ?_)))
    rw[rdU hd']
    show Ev (fun k=>if ((z.cat:Nat):Int)<0 then none else if ((z.cat:Nat):Int)>5 then none else if 0≤((z.cat:Nat):Int) then (if ((z.cat:Nat):Int)<6 then (if rdOf false [sn seen 0,sn seen 1,sn seen 2,sn seen 3,sn seen 4,sn seen 5] ((z.cat:Nat):Int)=true then none else florinlaw06_RuleReads.j1 k (out.map toU) (out.map toU) ((out.map toU).length:Int) (i:Int) ((((z.cat:Nat):Int)==5) !=(((z.any.map (fun a=>a.map toL)).length:Int)==0)) (sn seen 0) (sn seen 1) (sn seen 2) (sn seen 3) (sn seen 4) (sn seen 5) ((z.cat:Nat):Int) (z.any.map (fun a=>a.map toL)) (S z.smp)) else none) else none) true
    refine Ev.if_neg (by omega) (Ev.if_neg (by omega) (Ev.if_pos (by omega) (Ev.if_pos (by omega) (Ev.if_neg (by rw[hread];simpa using hns) ?_))))
    have e:((((z.cat:Nat):Int)==5) !=(((z.any.map (fun a=>a.map toL)).length:Int)==0))=false:=by
      rw[List.length_map]
      rcases w2 with ⟨a1,a2⟩|⟨a1,a2,_⟩
      · rw[a1,a2];rfl
      · have:=List.length_pos_iff.2 a2
        have e1:(((z.cat:Nat):Int)==5)=false:=by rw[beq_eq_false_iff_ne];omega
        have e2:(((z.any.length:Nat):Int)==0)=false:=by rw[beq_eq_false_iff_ne];omega
        rw[e1,e2];rfl
    rw[e]
    refine Ev.step (fun k=>florinlaw06_RuleReads.j1.eq_2 ..) (Ev.if_neg (by decide) (Ev.if_pos (by omega) (Ev.if_pos (by omega) ?_)))
    rw[show(0:Int)=((0:Nat):Int) from rfl,show(1:Int)=((1:Nat):Int) from rfl,show(2:Int)=((2:Nat):Int) from rfl,show(3:Int)=((3:Nat):Int) from rfl,show(4:Int)=((4:Nat):Int) from rfl,show(5:Int)=((5:Nat):Int) from rfl,g0,g1,g2,g3,g4,g5]
    exact h1
end RR
open RR
theorem pureRuleReads:florinlaw06_RuleReads.Pure:=by
  intro a0 hsz
  refine Ev.rounds ?_
  obtain⟨l,rfl⟩:∃l,a0=S l:=⟨_,S_of a0⟩
  unfold florinlaw06_RuleReads.f
  refine Ev.bind head6_ev (Ev.if_pos rfl ?_)
  rw[S_size]
  by_cases hl:l.length>300
  · exact Ev.if_pos (by omega) (Ev.now _)
  refine Ev.if_neg (by omega) ?_
  cases h:RG.parse l with
  | ok out =>
    obtain⟨w1,w2,w3,w4⟩:=RG.parse_good h
    have hw4:(RG.wr out).length≤4000:=by omega
    have hr:∀x∈out,(RG.wrRule x).length≤1000000:=fun x hx=>by
      have:(RG.wrRule x).length≤(RG.wr out).length:=jn_mem (sep:=[59,32]) (List.mem_map_of_mem hx)
      omega
    have hlen:=len_le_jn (sep:=[59,32]) (by decide) (xs:=out.map RG.wrRule) (fun x hx=>by obtain⟨y,_,rfl⟩:=List.mem_map.1 hx;exact wrRule_pos y)
    rw[List.length_map] at hlen
    have hlen':out.length≤(RG.wr out).length:=hlen
    refine Ev.bind (parse_ok (by omega) h) (Ev.if_pos rfl ?_)
    refine reads_l0 (by omega) (fun x hx=>⟨w1 x hx,SmR_len (w1 x hx) (hr x hx)⟩) w3 ?_ out 0 [] rfl rfl
    refine Ev.bind (wr_str w1 (by omega)) (Ev.bind (parse_ok hw4 (RG.parse_wr w1 w2 w3)) (Ev.if_pos rfl (Ev.bind (same_ev ?_ ?_) (Ev.now _))))
    · rw[List.length_map];omega
    · intro x hx
      obtain⟨y,hy,rfl⟩:=List.mem_map.1 hx
      exact SmU_toU (SmR_len (w1 y hy) (hr y hy))
  | error p =>
    obtain⟨e,r⟩:=p
    obtain⟨h1,h2⟩:=parse_err (by omega) h
    have hr:=h1.length_le
    have hnm:e≠ .many:=by
      rintro rfl
      have:=RG.parse_nm h
      omega
    refine Ev.bind h2 ?_
    have p0:ps l r≥0:=ps_nn h1
    have p1:ps l r≤(l.length:Int):=ps_le l r
    cases e with
    | many=>exact absurd rfl hnm
    | form=>exact Ev.if_neg (by simp[cd]) (Ev.if_pos rfl (Ev.if_pos p0 (Ev.if_pos p1 (Ev.if_pos rfl (Ev.now _)))))
    | long=>exact Ev.if_neg (by simp[cd]) (Ev.if_pos rfl (Ev.if_pos p0 (Ev.if_pos p1 (Ev.if_neg (by simp[cd]) (Ev.if_pos rfl (Ev.now _))))))
    | arg=>exact Ev.if_neg (by simp[cd]) (Ev.if_pos rfl (Ev.if_pos p0 (Ev.if_pos p1 (Ev.if_neg (by simp[cd]) (Ev.if_neg (by simp[cd]) (Ev.if_pos rfl (Ev.now _)))))))
    | cat=>exact Ev.if_neg (by simp[cd]) (Ev.if_pos rfl (Ev.if_pos p0 (Ev.if_pos p1 (Ev.if_neg (by simp[cd]) (Ev.if_neg (by simp[cd]) (Ev.if_neg (by simp[cd]) (Ev.yes rfl)))))))
end Go.Proofs.YtcokjmnkieakiaaDoor.P
