import Derived.Test.YtadagjgkanlmdaaGreatDoorSA
import Derived.Test.YtadagjgkanlmdaaGreatDoorMA
import Derived.Test.YtadagjgkanlmdaaGreatDoorO2
import Derived.Test.YtadagjgkanlmdaaGreatDoorPx1
import Derived.Test.YtadagjgkanlmdaaGreatDoorPx13
import Derived.Test.YtadagjgkanlmdaaGreatDoorPx14
import Derived.Test.YtadagjgkanlmdaaGreatDoorPx16
import Derived.Test.YtadagjgkanlmdaaGreatDoorPx17
import Derived.Test.YtadagjgkanlmdaaGreatDoorPx18
import Derived.Test.YtadagjgkanlmdaaGreatDoorPx2
import Derived.Test.YtadagjgkanlmdaaGreatDoorPx5
import Derived.Test.YtadagjgkanlmdaaGreatDoorPx6
import Derived.Test.YtadagjgkanlmdaaGreatDoorPx9
import Derived.KernelRfl
import Derived.Test.YtadagjgkanlmdaaGreatDoorDA
namespace Go.Proofs.YtadagjgkanlmdaaGreatDoor.P
open Go.RowKit Go.Proofs.YtadagjgkanlmdaaGreatDoorW.PrintWords Go.Proofs.YtadagjgkanlmdaaGreatDoorW.PrintLast Go.Proofs.YtadagjgkanlmdaaGreatDoorW.PrintMore Go.Proofs.YtadagjgkanlmdaaGreatDoor.FM
set_option linter.unusedVariables false
set_option linter.unusedSimpArgs false
/-! what eval's functions answer -/
namespace RR
/-- a number that is short enough -/
structure OkO (o:EV.Op):Prop where
  dig:Dig o.f
  fl:o.f.length≤100000
  nl:(mkl o.n).length≤100000
  el:o.e≤100000
section
variable {o:EV.Op}
theorem tr_dig {l:List UInt8} (h:Dig l):Dig (tr l)∧(tr l).length≤l.length:=by
  obtain⟨h1,h2⟩:=tr_eq l
  refine⟨fun c hc=>h c ?_,h2⟩
  rw[h1]
  exact List.mem_append_left _ hc
theorem opI_ev (h:OkO o):Ev (fun k=>operand_Ops_I.f k (S (mkl o.n)) (S o.f) (o.e:Int)) (S (mkl o.n)):=by
  have h1:=Trim_dig (mkl o.n) (Nat.le_trans h.nl (by decide)) (dig_mkl o.n)
  rw[nvl_mkl] at h1
  exact Ev.bind h1 (Ev.now _)
theorem opF_ev (h:OkO o):Ev (fun k=>operand_Ops_F.f k (S (mkl o.n)) (S o.f) (o.e:Int)) (S (mkl (nvl o.f))) :=
  Ev.bind (Trim_dig o.f (Nat.le_trans h.fl (by decide)) h.dig) (Ev.now _)
theorem opT_ev (h:OkO o):Ev (fun k=>operand_Ops_T.f k (S (mkl o.n)) (S o.f) (o.e:Int)) (S (mkl (nvl (tr o.f)))):=by
  obtain⟨h1,h2⟩:=tr_dig h.dig
  unfold operand_Ops_T.f
  have hf:=h.fl
  exact Ev.const (OpBare_ev o.f (by omega)) (Ev.bind (Trim_dig (tr o.f) (by omega) h1) (Ev.now _))
theorem opWhole_ev (h:OkO o):Ev (fun k=>operand_Ops_Whole.f k (S (mkl o.n)) (S o.f) (o.e:Int)) (decide (nvl (tr o.f)=0)):=by
  unfold operand_Ops_Whole.f
  refine Ev.bind (opT_ev h) ?_
  rw[S_toList]
  have e:(mkl (nvl (tr o.f))==([]:List UInt8))=decide (nvl (tr o.f)=0):=by
    by_cases h0:nvl (tr o.f)=0
    · rw[h0,mkl_zero];rfl
    · rw[decide_eq_false h0]
      exact beq_eq_false_iff_ne.2 (fun e=>h0 (mkl_eq_nil.1 e))
  rw[← e]
  exact Ev.now _
theorem opW_eq (h:OkO o):operand_Ops_W.f (S (mkl o.n)) (S o.f) (o.e:Int)=some ((tr o.f).length:Int):=by
  unfold operand_Ops_W.f
  have hf:=h.fl
  rw[OpBare_ev o.f (by omega)];rfl
theorem value_op (h:OkO o) {c:UInt8} (hc:c∈RG.ops):Ev (fun k=>eval_value.f k (c.toNat:Int) (S (mkl o.n)) (S o.f) (o.e:Int)) (S (mkl (EV.val o c)),EV.whl o c):=by
  have hf:=h.fl
  have he:=h.el
  obtain⟨_,h2⟩:=tr_dig h.dig
  unfold eval_value.f
  simp only[RG.ops,List.mem_cons,List.not_mem_nil,or_false] at hc
  rcases hc with rfl|rfl|rfl|rfl|rfl|rfl|rfl|rfl
  · exact Ev.if_pos rfl (Ev.bind (opI_ev h) (Ev.bind (opWhole_ev h) (Ev.now _)))
  · exact Ev.if_neg (by decide) (Ev.if_pos rfl (Ev.bind (opI_ev h) (Ev.now _)))
  · refine Ev.if_neg (by decide) (Ev.if_neg (by decide) (Ev.if_pos rfl (Ev.const (a:=(o.f.length:Int)) ?_ (Ev.bind (Of_ev o.f.length (by omega)) (Ev.now _)))))
    unfold operand_Ops_V.f;rw[S_size]
  · exact Ev.if_neg (by decide) (Ev.if_neg (by decide) (Ev.if_neg (by decide) (Ev.if_pos rfl (Ev.const (opW_eq h) (Ev.bind (Of_ev (tr o.f).length (by omega)) (Ev.now _))))))
  · exact Ev.if_neg (by decide) (Ev.if_neg (by decide) (Ev.if_neg (by decide) (Ev.if_neg (by decide) (Ev.if_pos rfl (Ev.bind (opF_ev h) (Ev.now _))))))
  · exact Ev.if_neg (by decide) (Ev.if_neg (by decide) (Ev.if_neg (by decide) (Ev.if_neg (by decide) (Ev.if_neg (by decide) (Ev.if_pos rfl (Ev.bind (opT_ev h) (Ev.now _)))))))
  · exact Ev.if_neg (by decide) (Ev.if_neg (by decide) (Ev.if_neg (by decide) (Ev.if_neg (by decide) (Ev.if_neg (by decide) (Ev.if_neg (by decide) (Ev.if_pos rfl (Ev.bind (Of_ev o.e (by omega)) (Ev.now _))))))))
  · exact Ev.if_neg (by decide) (Ev.if_neg (by decide) (Ev.if_neg (by decide) (Ev.if_neg (by decide) (Ev.if_neg (by decide) (Ev.if_neg (by decide) (Ev.if_neg (by decide) (Ev.if_pos rfl (Ev.bind (Of_ev o.e (by omega)) (Ev.now _)))))))))
theorem val_len (h:OkO o) (c:UInt8):(mkl (EV.val o c)).length≤100000:=by
  have hf:=h.fl
  have he:=h.el
  obtain⟨h1,h2⟩:=tr_dig h.dig
  have small:∀n:Nat,n≤100000→(mkl n).length≤100000:=fun n hn=>Nat.le_trans (mkl_length_le.2 (show n<10 ^ 6 by omega)) (by decide)
  have dl:∀l:List UInt8,Dig l→l.length≤100000→(mkl (nvl l)).length≤100000:=fun l hd hl=>Nat.le_trans (mkl_length_le.2 (nvl_lt hd)) hl
  unfold EV.val
  split
  · exact h.nl
  split
  · exact h.nl
  split
  · exact small _ hf
  split
  · exact small _ (by omega)
  split
  · exact dl _ h.dig hf
  split
  · exact dl _ h1 (by omega)
  · exact small _ he
theorem rdG' {L:List Rng} {i:Nat} {z:Rng} {zs:List Rng} (h:L.drop i=z::zs):rd_T57 L (i:Int)=z:=by
  unfold rd_T57
  rw[Int.toNat_natCast]
  exact(getD_drop _ h).1
theorem rdL' {L:List RelT} {i:Nat} {z:RelT} {zs:List RelT} (h:L.drop i=z::zs):rd_T53 L (i:Int)=z:=by
  unfold rd_T53
  rw[Int.toNat_natCast]
  exact(getD_drop _ h).1
theorem rdU' {L:List RuleT} {i:Nat} {z:RuleT} {zs:List RuleT} (h:L.drop i=z::zs):rd_T41 L (i:Int)=z:=by
  unfold rd_T41
  rw[Int.toNat_natCast]
  exact(getD_drop _ h).1
theorem rdLL' {L:List (List RelT)} {i:Nat} {z:List RelT} {zs:List (List RelT)} (h:L.drop i=z::zs):rd_L7 L (i:Int)=z:=by
  show L.getD (i:Int).toNat _=z
  rw[Int.toNat_natCast]
  exact(getD_drop _ h).1
theorem within_loop (x:Nat) {L:List Rng} (hL:L.length≤1000000):∀(zs:List (Nat × Nat)) (i:Nat),L.drop i=zs.map toG→Ev (fun k=>eval_within.l0 k (x:Int) L (L.length:Int) (i:Int)) (EV.inn x zs)
  | [],i,hd=>by
    have:=drop_nil_le hd
    exact Ev.step (fun k=>eval_within.l0.eq_2 ..) (Ev.if_neg (by omega) (Ev.now _))
  | z::zs,i,hd=>by
    rw[List.map_cons] at hd
    obtain⟨_,hi,hd2⟩:=getD_drop (toG z) hd
    have ih:=within_loop x hL zs (i+1) hd2
    refine Ev.step (fun k=>eval_within.l0.eq_2 ..) (Ev.if_pos (by omega) (Ev.if_pos (by omega) (Ev.if_pos (by omega) ?_)))
    rw[rdG' hd,w_succ (i:=i) (by omega),EV.inn_cons]
    show Ev (fun k=>if (x:Int)≥(z.1:Int) then (if (x:Int)≤(z.2:Int) then some true else _) else _) _
    by_cases h1:z.1≤x
    · refine Ev.if_pos (by omega) ?_
      by_cases h2:x≤z.2
      · rw[decide_eq_true (And.intro h1 h2)]
        exact Ev.if_pos (by omega) (Ev.now _)
      · rw[decide_eq_false (fun h=>h2 h.2)]
        exact Ev.if_neg (by omega) ih
    · rw[decide_eq_false (fun h=>h1 h.1)]
      exact Ev.if_neg (by omega) ih
theorem within_ev (x:Nat) {rs:List (Nat × Nat)} (h:rs.length≤1000000):Ev (fun k=>eval_within.f k (x:Int) (rs.map toG)) (EV.inn x rs) :=
  within_loop x (L:=rs.map toG) (by rw[List.length_map];exact h) rs 0 rfl
/-- a relation that may be asked -/
def OkR (r:RG.Rl):Prop:=r.op∈RG.ops∧r.md≤1000000000∧r.rs.length≤1000000
theorem holds_ev (h:OkO o) {r:RG.Rl} (hr:OkR r):Ev (fun k=>eval_Holds.f k (toL r).f0 (toL r).f1 (toL r).f2 (toL r).f3 (S (mkl o.n)) (S o.f) (o.e:Int)) (EV.hold o r):=by
  obtain⟨h1,h2,h3⟩:=hr
  have hl:=val_len h r.op
  have e1:=value_op h h1
  unfold eval_Holds.f
  refine Ev.bind e1 ?_
  unfold EV.hold EV.inR
  have fin:∀b:Bool,Ev (fun k:Nat=>if EV.whl o r.op=true then some (b !=r.nt) else some (false !=r.nt)) ((EV.whl o r.op&&b) !=r.nt):=by
    intro b
    cases EV.whl o r.op with
    | true=>exact Ev.if_pos rfl (Ev.now _)
    | false=>exact Ev.if_neg (by decide) (Ev.now _)
  by_cases hm:r.md=0
  · rw[if_pos hm]
    refine Ev.if_neg (show ¬((r.md:Int)>0) by omega) ?_
    by_cases hb:EV.val o r.op<10 ^ 18
    · have e2:=Int_ev (mkl (EV.val o r.op)) (Nat.le_trans hl (by decide)) (dig_mkl _) (by rw[nvl_mkl];exact hb)
      rw[nvl_mkl] at e2
      rw[decide_eq_true hb,Bool.true_and]
      exact Ev.bind e2 (Ev.if_pos rfl (Ev.bind (within_ev _ h3) (fin _)))
    · have e2:=Int_long (mkl (EV.val o r.op)) (Nat.le_trans hl (by decide)) (dig_mkl _) (by rw[nvl_mkl];omega)
      rw[decide_eq_false hb,Bool.false_and]
      exact Ev.bind e2 (Ev.if_neg (by decide) (fin _))
  · rw[if_neg hm]
    have e2:=Div_ev (mkl (EV.val o r.op)) (Nat.le_trans hl (by decide)) (dig_mkl _) r.md (by omega) h2
    rw[nvl_mkl] at e2
    exact Ev.if_pos (show(r.md:Int)>0 by omega) (Ev.bind e2 (Ev.bind (within_ev _ h3) (fin _)))
theorem all_loop' (h:OkO o) {L:List RelT} (hL:L.length≤1000000):∀(zs:List RG.Rl) (i:Nat),L.drop i=zs.map toL→(∀r∈zs,OkR r)→Ev (fun k=>eval_all.l0 k L (L.length:Int) (i:Int) (S (mkl o.n)) (S o.f) (o.e:Int)) (zs.all (EV.hold o))
  | [],i,hd,hr=>by
    have:=drop_nil_le hd
    exact Ev.step (fun k=>eval_all.l0.eq_2 ..) (Ev.if_neg (by omega) (Ev.now _))
  | z::zs,i,hd,hr=>by
    rw[List.map_cons] at hd
    obtain⟨_,hi,hd2⟩:=getD_drop (toL z) hd
    have ih:=all_loop' h hL zs (i+1) hd2 (fun r hm=>hr r (List.mem_cons_of_mem _ hm))
    refine Ev.step (fun k=>eval_all.l0.eq_2 ..) (Ev.if_pos (by omega) (Ev.if_pos (by omega) (Ev.if_pos (by omega) ?_)))
    rw[rdL' hd,w_succ (i:=i) (by omega),List.all_cons]
    refine Ev.bind (holds_ev h (hr z List.mem_cons_self)) ?_
    cases EV.hold o z with
    | true=>exact Ev.if_pos rfl ih
    | false=>exact Ev.if_neg (by decide) (Ev.now _)
/-- a rule that may be asked -/
def OkU (x:RG.Ru):Prop:=x.any.length≤1000000∧∀a∈x.any,a.length≤1000000∧∀r∈a,OkR r
theorem meets_loop (h:OkO o) {L:List (List RelT)} (hL:L.length≤1000000) (c:Nat) (Q:List (List RelT)) (p:ByteArray):∀(zs:List (List RG.Rl)) (i:Nat),L.drop i=zs.map (fun a=>a.map toL)→(∀a∈zs,a.length≤1000000∧∀r∈a,OkR r) →
    Ev (fun k=>eval_Meets.l0 k L (L.length:Int) (i:Int) (c:Int) Q p (S (mkl o.n)) (S o.f) (o.e:Int)) (zs.any (fun l=>l.all (EV.hold o))||decide (c=5))
  | [],i,hd,hr=>by
    have:=drop_nil_le hd
    refine Ev.step (fun k=>eval_Meets.l0.eq_2 ..) (Ev.if_neg (by omega) ?_)
    have e:((c:Int)==5)=decide (c=5):=by
      by_cases h5:c=5
      · subst h5;rfl
      · rw[decide_eq_false h5]
        exact beq_eq_false_iff_ne.2 (by omega)
    rw[List.any_nil,Bool.false_or, ← e]
    exact Ev.now _
  | z::zs,i,hd,hr=>by
    rw[List.map_cons] at hd
    obtain⟨_,hi,hd2⟩:=getD_drop (z.map toL) hd
    have ih:=meets_loop h hL c Q p zs (i+1) hd2 (fun r hm=>hr r (List.mem_cons_of_mem _ hm))
    obtain⟨a1,a2⟩:=hr z List.mem_cons_self
    have ha:Ev (fun k=>eval_all.f k (z.map toL) (S (mkl o.n)) (S o.f) (o.e:Int)) (z.all (EV.hold o)):=all_loop' h (L:=z.map toL) (by rw[List.length_map];exact a1) z 0 rfl a2
    refine Ev.step (fun k=>eval_Meets.l0.eq_2 ..) (Ev.if_pos (by omega) (Ev.if_pos (by omega) (Ev.if_pos (by omega) ?_)))
    rw[rdLL' hd,w_succ (i:=i) (by omega),List.any_cons]
    refine Ev.bind ha ?_
    cases z.all (EV.hold o) with
    | true=>exact Ev.if_pos rfl (Ev.now _)
    | false=>rw[Bool.false_or];exact Ev.if_neg (by decide) ih
theorem meets_ev (h:OkO o) {x:RG.Ru} (hx:OkU x):Ev (fun k=>eval_Meets.f k (toU x).f0 (toU x).f1 (toU x).f2 (S (mkl o.n)) (S o.f) (o.e:Int)) (EV.meet o x):=by
  have h0:(toU x).f1.length≤1000000:=by
    show(x.any.map (fun a=>a.map toL)).length≤1000000
    rw[List.length_map]
    exact hx.1
  exact meets_loop h h0 x.cat (toU x).f1 (toU x).f2 x.any 0 rfl hx.2
theorem pick_loop (h:OkO o) {L:List RuleT} (hL:L.length≤1000000):∀(zs:List RG.Ru) (i b:Nat),L.drop i=zs.map toU→(∀x∈zs,OkU x)→Ev (fun k=>eval_Pick.l0 k (b:Int) L (L.length:Int) (i:Int) (S (mkl o.n)) (S o.f) (o.e:Int)) ((EV.pick o b zs:Nat):Int)
  | [],i,b,hd,hr=>by
    have:=drop_nil_le hd
    exact Ev.step (fun k=>eval_Pick.l0.eq_2 ..) (Ev.if_neg (by omega) (Ev.now _))
  | z::zs,i,b,hd,hr=>by
    rw[List.map_cons] at hd
    obtain⟨_,hi,hd2⟩:=getD_drop (toU z) hd
    have ih:=fun b=>pick_loop h hL zs (i+1) b hd2 (fun r hm=>hr r (List.mem_cons_of_mem _ hm))
    refine Ev.step (fun k=>eval_Pick.l0.eq_2 ..) (Ev.if_pos (by omega) (Ev.if_pos (by omega) (Ev.if_pos (by omega) ?_)))
    rw[rdU' hd,w_succ (i:=i) (by omega),EV.pick]
    unfold EV.pick1
    by_cases hc:z.cat<b
    · rw[if_pos hc]
      refine Ev.if_pos (show(z.cat:Int)<(b:Int) by omega) (Ev.bind (meets_ev h (hr z List.mem_cons_self)) ?_)
      cases EV.meet o z with
      | true=>exact Ev.if_pos rfl (ih z.cat)
      | false=>exact Ev.if_neg (by decide) (ih b)
    · rw[if_neg hc]
      exact Ev.if_neg (show ¬(z.cat:Int)<(b:Int) by omega) (ih b)
theorem pick_ev (h:OkO o) {l:List RG.Ru} (hl:l.length≤1000000) (hr:∀x∈l,OkU x):Ev (fun k=>eval_Pick.f k (l.map toU) (S (mkl o.n)) (S o.f) (o.e:Int)) ((EV.pick o 5 l:Nat):Int) :=
  pick_loop h (L:=l.map toU) (by rw[List.length_map];exact hl) l 0 5 rfl hr
end
end RR
end Go.Proofs.YtadagjgkanlmdaaGreatDoor.P
namespace Go.Proofs.YtadagjgkanlmdaaGreatDoor.P
open Go.RowKit Go.Proofs.YtadagjgkanlmdaaGreatDoorW.PrintWords Go.Proofs.YtadagjgkanlmdaaGreatDoorW.PrintLast Go.Proofs.YtadagjgkanlmdaaGreatDoorW.PrintMore Go.Proofs.YtadagjgkanlmdaaGreatDoor.FM
set_option linter.unusedVariables false
set_option linter.unusedSimpArgs false
/-! the head of eval's laws; the number that a law makes -/
namespace RR
set_option maxRecDepth 100000 in
theorem head7_k (k:Nat):florinlaw07_head.f (k+60)=some true:=by kernel_rfl
theorem head7_ev:Ev (fun k=>florinlaw07_head.f k) true:=⟨60,fun k hk=>by obtain⟨j,rfl⟩:=Nat.exists_eq_add_of_le hk;rw[Nat.add_comm];exact head7_k j⟩
end RR
namespace RR
/-- a number as it is made out of two rows of digits -/
def opMade (a b:List UInt8) (e:Int):EV.Op:=⟨ofInt a b e,b.drop (ofN b e),ofE e⟩
theorem opMade_ok {a b:List UInt8} (da:Dig a) (db:Dig b) (la:a.length≤10000) (lb:b.length≤10000) (e:Int):OkO (opMade a b e):=by
  have hE:ofE e≤10000:=by unfold ofE;omega
  refine⟨db.drop _,?_,?_,?_⟩
  · show(b.drop (ofN b e)).length≤_
    rw[List.length_drop];omega
  · exact Nat.le_trans (mkl_length_le.2 (ofInt_lt a b da db e)) (by omega)
  · show ofE e≤_
    omega
theorem made_ev (l1 l2:List Int) (h1:l1.length≤9000) (h2:l2.length≤9000) (w1:∀x∈l1,(Lit.int .u8 x).wf=true) (w2:∀x∈l2,(Lit.int .u8 x).wf=true) :
    ∃a b,Dig a∧Dig b∧a.length≤l1.length+1∧b.length=l2.length∧b=digs l2∧nvl a=nvl (digs l1)∧Ev (fun k=>florinlaw05_Shown.f k l1 l2) (false,S a,S b) ∧
      ∀e,OkO (opMade a b e)∧Ev (fun k=>operand_Of.f k false (S a) (S b) e) (S (mkl (opMade a b e).n),S (opMade a b e).f,((opMade a b e).e:Int)):=by
  obtain⟨a,b,da,db,la,lb,eb,ea,hs⟩:=Shown_ev l1 l2 (by omega) (by omega) w1 w2
  exact⟨a,b,da,db,la,lb,eb,ea,hs,fun e=>⟨opMade_ok da db (by omega) (by omega) e,OpOf_ev false a b (by omega) (by omega) da db e⟩⟩
end RR
namespace RR
theorem OkU_made {m:Mad} (h:FewM m):OkU (ruN m):=by
  obtain⟨h1,h2⟩:=h.any
  unfold ruN
  by_cases h5:catN m=5
  · refine⟨?_,?_⟩
    · show(if catN m=5 then ([]:List (List RG.Rl)) else (anyN m).map alN).length≤_
      rw[_root_.if_pos h5];decide
    · intro a ha
      have ha':a∈(if catN m=5 then ([]:List (List RG.Rl)) else (anyN m).map alN):=ha
      rw[_root_.if_pos h5] at ha'
      cases ha'
  · refine⟨?_,?_⟩
    · show(if catN m=5 then ([]:List (List RG.Rl)) else (anyN m).map alN).length≤_
      rw[_root_.if_neg h5,List.length_map];omega
    · intro a ha
      have ha':a∈(if catN m=5 then ([]:List (List RG.Rl)) else (anyN m).map alN):=ha
      rw[_root_.if_neg h5] at ha'
      obtain⟨b,hb,rfl⟩:=List.mem_map.1 ha'
      obtain⟨h3,h4⟩:=(h2 b hb).rels
      refine⟨by unfold alN;rw[List.length_map];omega,fun r hr=>?_⟩
      obtain⟨q,hq,rfl⟩:=List.mem_map.1 hr
      obtain⟨_,_,_,_,h6,_⟩:=rlN_op q
      obtain⟨h7,_⟩:=rlN_md q
      refine⟨h6,by omega,?_⟩
      have h8:=h4 q hq
      unfold FewR at h8
      show((numsOf q.f4).map spN).length≤_
      rw[List.length_map]
      obtain⟨z,zs,e,hl⟩:=numsOf_ne q.f4
      rw[e,List.length_cons]
      omega
theorem OkU_all {ms:List Mad} (h:FewL ms):(allOut ms).length≤8∧(∀x∈allOut ms,OkU x)∧∀x∈allOut ms,x.cat<6:=by
  obtain⟨h1,h2,_⟩:=selM_sub ms []
  have h8:=h.1
  refine⟨by unfold allOut;rw[List.length_map];omega,fun x hx=>?_,fun x hx=>?_⟩
  · obtain⟨m,hm,rfl⟩:=List.mem_map.1 hx
    exact OkU_made (h.2 m (h2 m hm).1)
  · obtain⟨m,hm,rfl⟩:=List.mem_map.1 hx
    exact(cat_ev m).2
end RR
end Go.Proofs.YtadagjgkanlmdaaGreatDoor.P
namespace Go.Proofs.YtadagjgkanlmdaaGreatDoor.P
open Go.RowKit Go.Proofs.YtadagjgkanlmdaaGreatDoorW.PrintWords Go.Proofs.YtadagjgkanlmdaaGreatDoorW.PrintLast Go.Proofs.YtadagjgkanlmdaaGreatDoorW.PrintMore Go.Proofs.YtadagjgkanlmdaaGreatDoor.FM
set_option linter.unusedVariables false
set_option linter.unusedSimpArgs false
/-! relations, rules and categories as the page tells them: by decimals -/
namespace RR
structure OkH (o:EV.Op):Prop where
  dig:Dig o.f
  fl:o.f.length≤40
  nl:o.n<10 ^ 100
  el:o.e≤100
theorem OkH.ok {o:EV.Op} (h:OkH o):OkO o:=⟨h.dig,by have:=h.fl;omega,Nat.le_trans (mkl_length_le.2 h.nl) (by decide),by have:=h.el;omega⟩
/-- a number's value at forty places behind the point -/
def xv (T:Nat) (o:EV.Op) (c:UInt8):Nat:=if c=110 then nvl (mkl o.n++o.f)*10 ^ (40-o.f.length) else EV.val o c*T
def yv (T x md:Nat):Nat:=if md=0 then x else (x/T%md)*T+x%T
section
variable {o:EV.Op} {T:Nat}
theorem val_lt (h:OkH o) (c:UInt8):EV.val o c<10 ^ 100:=by
  have hf:=h.fl
  have he:=h.el
  obtain⟨h1,h2⟩:=tr_dig h.dig
  have small:∀n:Nat,n≤100→n<10 ^ 100:=fun n hn=>Nat.lt_of_le_of_lt hn (by decide)
  have dl:∀l:List UInt8,Dig l→l.length≤100→nvl l<10 ^ 100:=fun l hd hl=>Nat.lt_of_lt_of_le (nvl_lt hd) (Nat.pow_le_pow_right (by decide) hl)
  unfold EV.val
  split
  · exact h.nl
  split
  · exact h.nl
  split
  · exact small _ (by omega)
  split
  · exact small _ (by omega)
  split
  · exact dl _ h.dig (by omega)
  split
  · exact dl _ h1 (by omega)
  · exact small _ he
theorem cat_lt (h:OkH o):nvl (mkl o.n++o.f)<10 ^ 140:=by
  have hf:=h.fl
  have h1:(mkl o.n).length≤100:=mkl_length_le.2 h.nl
  refine Nat.lt_of_lt_of_le (nvl_lt ((dig_mkl _).append h.dig)) (Nat.pow_le_pow_right (by decide) ?_)
  rw[List.length_append]
  omega
theorem xv_lt (hT:T=10 ^ 40) (h:OkH o) (c:UInt8):xv T o c<10 ^ 180:=by
  subst hT
  unfold xv
  split
  · have h1:=cat_lt h
    have h2:10 ^ (40-o.f.length)≤10 ^ 40:=Nat.pow_le_pow_right (by decide) (by omega)
    calc nvl (mkl o.n++o.f)*10 ^ (40-o.f.length)<10 ^ 140*10 ^ (40-o.f.length):=Nat.mul_lt_mul_of_pos_right h1 (Nat.pow_pos (by decide))
      _≤10 ^ 140*10 ^ 40:=Nat.mul_le_mul_left _ h2
      _=10 ^ 180:=by rw[← Nat.pow_add]
  · have h1:=val_lt h c
    calc EV.val o c*10 ^ 40<10 ^ 100*10 ^ 40:=Nat.mul_lt_mul_of_pos_right h1 (by decide)
      _≤10 ^ 180:=by rw[← Nat.pow_add];exact Nat.pow_le_pow_right (by decide) (by decide)
theorem plcN {x:Nat} (h:x<10 ^ 180):Plc 200 40 (x:Int):=⟨by decide,by decide,by rw[Int.natAbs_natCast];exact Nat.lt_of_lt_of_le h (Nat.pow_le_pow_right (by decide) (by decide))⟩
theorem nrm40 {n j:Nat} (hj:j≤40) (hn:n<10 ^ 140):nrm false n (-(j:Int))=dk 40 ((n*10 ^ (40-j):Nat):Int):=by
  have h:=(nrm_raw (K:=40) (k:=140) (M:=200) (neg:=false) (n:=n) (e:= -(j:Int)) (by decide) (by decide) (by omega) hn (by omega)).1
  rw[h]
  unfold raw sg
  rw[_root_.if_neg (by decide),show(-(j:Int)+((40:Nat):Int)).toNat=40-j by omega]
theorem made40 {l:List UInt8} {j:Nat} (hd:Dig l) (hl:l.length≤140) (hj:j≤40):Ev (fun k=>dec_Made.f k false (S l) (-(j:Int))) (tri (dk 40 ((nvl l*10 ^ (40-j):Nat):Int))):=by
  have h:=Made_ev false l (by omega) hd (-(j:Int))
  rw[nrm40 hj (Nat.lt_of_lt_of_le (nvl_lt hd) (Nat.pow_le_pow_right (by decide) hl))] at h
  exact h
theorem made0 (hT:T=10 ^ 40) {l:List UInt8} (hd:Dig l) (hl:l.length≤140):Ev (fun k=>dec_Made.f k false (S l) 0) (tri (dk 40 ((nvl l*T:Nat):Int))):=by
  rw[hT]
  exact made40 (j:=0) hd hl (by decide)
theorem madeN (hT:T=10 ^ 40) {n:Nat} (h:n<10 ^ 140):Ev (fun k=>dec_Made.f k false (S (mkl n)) 0) (tri (dk 40 ((n*T:Nat):Int))):=by
  have:=made0 hT (dig_mkl n) (mkl_length_le.2 h)
  rwa [nvl_mkl] at this
theorem small140 {n:Nat} (h:n≤9223372036854775807):n<10 ^ 140:=Nat.lt_of_le_of_lt h (by decide)
theorem value_l0 (h:OkH o) (a0:Int) (I:ByteArray) (r:Bool × ByteArray × Int) (hj:Ev (fun k=>florinlaw07_value.j1 k a0 ((tr o.f).length:Int) I (S o.f) (o.e:Int)) r) :
    ∀i:Nat,i≤o.f.length→tr (o.f.take i)=tr o.f→Ev (fun k=>florinlaw07_value.l0 k a0 (i:Int) I (S o.f) (o.e:Int)) r
  | 0,hi,ht=>by
    have hz:(tr o.f).length=0:=by rw[← ht,List.take_zero,tr_nil];rfl
    rw[hz] at hj
    exact Ev.step (fun k=>florinlaw07_value.l0.eq_2 ..) (Ev.if_neg (by decide) hj)
  | i+1,hi,ht=>by
    have hf:=h.fl
    have w:wrap64 (((i+1:Nat):Int)-1)=(i:Int):=by rw[w64 (by omega) (by omega)];omega
    have hb:bt (S o.f) (i:Int)=((o.f.getD i 0).toNat:Int):=by rw[bt_S,Int.toNat_natCast]
    have hlt:i<o.f.length:=by omega
    have hg:o.f.getD i 0=o.f[i]:=by rw[List.getD_eq_getElem?_getD,List.getElem?_eq_getElem hlt];rfl
    have htk:o.f.take (i+1)=o.f.take i++[o.f[i]]:=by rw[List.take_add_one,List.getElem?_eq_getElem hlt];rfl
    refine Ev.step (fun k=>florinlaw07_value.l0.eq_2 ..) (Ev.if_pos (by omega) ?_)
    rw[w,hb]
    refine Ev.if_pos (by omega) (Ev.if_pos (by rw[S_size];omega) ?_)
    by_cases h48:o.f[i]=48
    · refine Ev.if_pos (by rw[hg,h48];rfl) (value_l0 h a0 I r hj i (by omega) ?_)
      rw[← ht,htk,h48,tr_snoc_zero]
    · have hne:¬((o.f.getD i 0).toNat:Int)=48:=by
        rw[hg]
        intro e
        apply h48
        apply UInt8.toNat_inj.1
        show o.f[i].toNat=48
        omega
      have hl:(tr o.f).length=i+1:=by
        rw[← ht,htk,tr_snoc h48, ← htk,List.length_take]
        omega
      rw[hl] at hj
      exact Ev.if_neg hne hj
theorem value_page (hT:T=10 ^ 40) (h:OkH o) {c:UInt8} (hc:c∈RG.ops):Ev (fun k=>florinlaw07_value.f k (c.toNat:Int) (S (mkl o.n)) (S o.f) (o.e:Int)) (tri (dk 40 ((xv T o c:Nat):Int))):=by
  have hf:=h.fl
  have he:=h.el
  obtain⟨d1,d2⟩:=tr_dig h.dig
  have hfull:tr (o.f.take o.f.length)=tr o.f:=by rw[List.take_length]
  have lp:=fun (a0:Int) (r:Bool × ByteArray × Int) hj=>value_l0 h a0 (S (mkl o.n)) r hj o.f.length (Nat.le_refl _) hfull
  unfold florinlaw07_value.f
  clear hfull
  have xe:∀d:UInt8,d≠110→xv T o d=EV.val o d*T:=fun d hd=>_root_.if_neg hd
  have mv:∀d:UInt8,Ev (fun k=>dec_Made.f k false (S (mkl (EV.val o d))) 0) (tri (dk 40 ((EV.val o d*T:Nat):Int))):=fun d=>madeN hT (Nat.lt_of_lt_of_le (val_lt h d) (Nat.pow_le_pow_right (by decide) (by decide)))
  simp only[RG.ops,List.mem_cons,List.not_mem_nil,or_false] at hc
  rcases hc with rfl|rfl|rfl|rfl|rfl|rfl|rfl|rfl
  · refine Ev.if_pos rfl ?_
    have hl:(mkl o.n).length≤100:=mkl_length_le.2 h.nl
    have hm:=made40 (l:=mkl o.n++o.f) (j:=o.f.length) ((dig_mkl _).append h.dig) (by rw[List.length_append];omega) hf
    have hm':Ev (fun k=>dec_Made.f k false (S (mkl o.n)++S o.f) (-((S o.f).size:Int))) (tri (dk 40 ((xv T o 110:Nat):Int))):=by
      rw[S_append,S_size,show xv T o 110=nvl (mkl o.n++o.f)*10 ^ (40-o.f.length) from _root_.if_pos rfl]
      exact hm
    exact Ev.if_pos (by rw[S_size,S_size];omega) (Ev.bind hm' (Ev.now _))
  · rw[xe 105 (by decide)]
    exact Ev.if_neg (by decide) (Ev.if_pos rfl (Ev.bind (mv 105) (Ev.now _)))
  · rw[xe 118 (by decide)]
    exact Ev.if_neg (by decide) (Ev.if_neg (by decide) (Ev.if_pos rfl (Ev.bind (Of_ev o.f.length (by omega)) (Ev.bind (mv 118) (Ev.now _)))))
  · rw[xe 119 (by decide)]
    refine Ev.if_neg (by decide) (Ev.if_neg (by decide) (Ev.if_neg (by decide) (Ev.if_neg (by decide) (lp _ _ ?_))))
    exact Ev.step (fun k=>florinlaw07_value.j1.eq_2 ..) (Ev.if_pos rfl (Ev.bind (Of_ev (tr o.f).length (by omega)) (Ev.bind (mv 119) (Ev.now _))))
  · rw[xe 102 (by decide)]
    have hm:Ev (fun k=>dec_Made.f k false (S o.f) 0) (tri (dk 40 ((EV.val o 102*T:Nat):Int))):=made0 hT h.dig (by omega)
    exact Ev.if_neg (by decide) (Ev.if_neg (by decide) (Ev.if_neg (by decide) (Ev.if_pos rfl (Ev.bind hm (Ev.now _)))))
  · rw[xe 116 (by decide)]
    refine Ev.if_neg (by decide) (Ev.if_neg (by decide) (Ev.if_neg (by decide) (Ev.if_neg (by decide) (lp _ _ ?_))))
    have e:o.f.take (tr o.f).length=tr o.f:=by
      obtain⟨z,hz⟩:∃z,o.f=tr o.f++z:=⟨_,(tr_eq o.f).1⟩
      obtain⟨t,ht⟩:∃t,tr o.f=t:=⟨_,rfl⟩
      rw[ht] at hz ⊢
      rw[hz,List.take_left]
    have hm:Ev (fun k=>dec_Made.f k false ((S o.f).extract 0 (((tr o.f).length:Int).toNat)) 0) (tri (dk 40 ((EV.val o 116*T:Nat):Int))):=by
      rw[Int.toNat_natCast,S_extract,List.drop_zero,e]
      exact made0 hT d1 (by omega)
    exact Ev.step (fun k=>florinlaw07_value.j1.eq_2 ..) (Ev.if_neg (by decide) (Ev.if_pos rfl (Ev.if_pos (by omega) (Ev.if_pos (by rw[S_size];omega) (Ev.bind hm (Ev.now _))))))
  · rw[xe 99 (by decide)]
    refine Ev.if_neg (by decide) (Ev.if_neg (by decide) (Ev.if_neg (by decide) (Ev.if_neg (by decide) (lp _ _ ?_))))
    exact Ev.step (fun k=>florinlaw07_value.j1.eq_2 ..) (Ev.if_neg (by decide) (Ev.if_neg (by decide) (Ev.bind (Of_ev o.e (by omega)) (Ev.bind (mv 99) (Ev.now _)))))
  · rw[xe 101 (by decide)]
    refine Ev.if_neg (by decide) (Ev.if_neg (by decide) (Ev.if_neg (by decide) (Ev.if_neg (by decide) (lp _ _ ?_))))
    exact Ev.step (fun k=>florinlaw07_value.j1.eq_2 ..) (Ev.if_neg (by decide) (Ev.if_neg (by decide) (Ev.bind (Of_ev o.e (by omega)) (Ev.bind (mv 101) (Ev.now _)))))
end
/-- the parts of a decimal of forty places -/
theorem parts_of {T:Nat} (hT:T=10 ^ 40) {x:Nat}:wholeN (dk 40 (x:Int)).m (dk 40 (x:Int)).e=x/T ∧
    ∃L:Nat,L≤40∧(partL (dk 40 (x:Int)).m (dk 40 (x:Int)).e).length=L∧nvl (partL (dk 40 (x:Int)).m (dk 40 (x:Int)).e)*10 ^ (40-L)=x%T∧(L=0↔x%T=0):=by
  subst hT
  have hv:=dk_val 40 (x:Int)
  have hge:=dk_e_ge 40 (x:Int)
  rw[Int.natAbs_natCast] at hv
  have hmod:x≠0→(dk 40 (x:Int)).m%10≠0:=fun h0=>by
    rw[dk_m]
    exact st_mod (by omega)
  have hz:x=0→(dk 40 (x:Int)).e=0:=fun h0=>by
    subst h0
    rw[show((0:Nat):Int)=0 from rfl,dk_zero];rfl
  obtain⟨m,hm⟩:∃m,(dk 40 (x:Int)).m=m:=⟨_,rfl⟩
  obtain⟨e,he⟩:∃e,(dk 40 (x:Int)).e=e:=⟨_,rfl⟩
  rw[hm,he] at hv
  rw[he] at hge hz
  rw[hm] at hmod
  rw[hm,he]
  rw[partL_length,nvl_partL]
  unfold wholeN
  by_cases h0:0≤e
  · have e1:(e+((40:Nat):Int)).toNat=e.toNat+40:=by omega
    have e2:(-e).toNat=0:=by omega
    rw[e1,Nat.pow_add, ← Nat.mul_assoc] at hv
    rw[_root_.if_pos h0,e2]
    have hx:x%10 ^ 40=0:=by rw[← hv];exact Nat.mul_mod_left _ _
    refine⟨by rw[← hv,Nat.mul_div_cancel _ (by decide)],0,by decide,rfl,?_,?_⟩
    · rw[hx,Nat.pow_zero,Nat.mod_one,Nat.zero_mul]
    · exact⟨fun _=>hx,fun _=>rfl⟩
  · obtain⟨L,hL⟩:∃L:Nat,(-e).toNat=L:=⟨_,rfl⟩
    have hL40:L≤40:=by omega
    have hL0:0<L:=by omega
    have e1:(e+((40:Nat):Int)).toNat=40-L:=by omega
    rw[e1] at hv
    rw[_root_.if_neg h0,hL]
    have hp:(10:Nat) ^ 40=10 ^ L*10 ^ (40-L):=by rw[← Nat.pow_add];congr 1;omega
    have hpos:0<10 ^ (40-L):=Nat.pow_pos (by decide)
    refine⟨?_,L,hL40,rfl,?_,?_⟩
    · rw[← hv,hp,Nat.mul_div_mul_right _ _ hpos]
    · rw[← hv,hp,Nat.mul_mod_mul_right]
    · constructor
      · intro h;omega
      · intro h
        exfalso
        have hx:x≠0:=fun hx=>by have:=hz hx;omega
        rw[← hv,hp,Nat.mul_mod_mul_right] at h
        have h2:m%10 ^ L=0:=by
          rcases Nat.mul_eq_zero.1 h with h|h
          · exact h
          · omega
        have h3:(10:Nat)∣10 ^ L:=by
          obtain⟨q,rfl⟩:∃q,L=q+1:=⟨L-1,by omega⟩
          rw[Nat.pow_succ]
          exact Nat.dvd_mul_left _ _
        have h4:m%10=0:=Nat.mod_eq_zero_of_dvd (Nat.dvd_trans h3 (Nat.dvd_of_mod_eq_zero h2))
        exact hmod hx h4
theorem parts40 {T:Nat} (hT:T=10 ^ 40) {x:Nat} (h:x<10 ^ 180):Ev (fun k=>dec_Dec_Parts.f k (tri (dk 40 (x:Int))).1 (tri (dk 40 (x:Int))).2.1 (tri (dk 40 (x:Int))).2.2) (S (mkl (x/T)),S (partL (dk 40 (x:Int)).m (dk 40 (x:Int)).e)):=by
  have hp:=plcN h
  have h1:=Parts_tri (dk 40 (x:Int)) (Val.dk hp).few
  rw[← dk_norm hp,(parts_of hT (x:=x)).1] at h1
  exact h1
theorem lt9 {T:Nat} (hT:T=10 ^ 40) {n:Nat} (h:n≤1000000000):n*T<10 ^ 180:=by
  subst hT
  exact Nat.lt_of_le_of_lt (Nat.mul_le_mul_right _ h) (by decide)
theorem yv_lt {T:Nat} (hT:T=10 ^ 40) {x md:Nat} (h:x<10 ^ 180):yv T x md<10 ^ 180:=by
  subst hT
  unfold yv
  split
  · exact h
  · have h1:x/10 ^ 40%md≤x/10 ^ 40:=Nat.mod_le _ _
    have h2:=Nat.div_add_mod x (10 ^ 40)
    have h3:x/10 ^ 40%md*10 ^ 40≤x/10 ^ 40*10 ^ 40:=Nat.mul_le_mul_right _ h1
    have h4:x/10 ^ 40*10 ^ 40=10 ^ 40*(x/10 ^ 40):=Nat.mul_comm _ _
    exact Nat.lt_of_le_of_lt (Nat.add_le_add_right h3 _) (by rw[h4,h2];exact h)
theorem wneg {L:Nat} (h:L≤40):wrap64 (-((L:Nat):Int))= -(L:Int):=w64 (by omega) (by omega)
theorem left_page {T:Nat} (hT:T=10 ^ 40) {x:Nat} (h:x<10 ^ 180) {md:Nat} (hm:md≤1000000000):Ev (fun k=>florinlaw07_left.f k (tri (dk 40 (x:Int))).1 (tri (dk 40 (x:Int))).2.1 (tri (dk 40 (x:Int))).2.2 (md:Int)) (tri (dk 40 ((yv T x md:Nat):Int))):=by
  unfold florinlaw07_left.f yv
  by_cases h0:md=0
  · rw[_root_.if_pos h0]
    exact Ev.if_pos (by omega) (Ev.now _)
  rw[_root_.if_neg h0]
  refine Ev.if_neg (fun e=>h0 (by have e2:(md:Int)=((0:Nat):Int):=e;exact Int.ofNat_inj.1 e2)) (Ev.bind (parts40 hT h) ?_)
  obtain⟨_,L,hL,hlen,hval,_⟩:=parts_of hT (x:=x)
  have hw:(mkl (x/T)).length≤180:=mkl_length_le.2 (Nat.lt_of_le_of_lt (Nat.div_le_self _ _) h)
  have hmp:0<md:=Nat.pos_of_ne_zero h0
  have hd:=Div_ev (mkl (x/T)) (Nat.le_trans hw (by decide)) (dig_mkl _) md hmp hm
  rw[nvl_mkl] at hd
  have hr:x/T%md<1000000000:=Nat.lt_of_lt_of_le (Nat.mod_lt _ hmp) hm
  have hwr:=wneg hL
  have hr9:x/T%md≤9223372036854775807:=Nat.le_of_lt (Nat.lt_trans hr (by decide))
  have m1:=madeN hT (n:=x/T%md) (small140 hr9)
  have m2:=made40 (l:=partL (dk 40 (x:Int)).m (dk 40 (x:Int)).e) (j:=L) (dig_partL _ _) (by rw[hlen];exact Nat.le_trans hL (by decide)) hL
  rw[hval] at m2
  have hx:x%T<10 ^ 180:=Nat.lt_of_le_of_lt (Nat.mod_le _ _) h
  have hy:x/T%md*T<10 ^ 180:=lt9 hT (Nat.le_of_lt hr)
  have ha:=Add_dk (plcN hy) (plcN hx) (Val.dk (plcN hy)) (Val.dk (plcN hx))
  rw[show(((x/T%md*T:Nat):Int)+((x%T:Nat):Int))=((x/T%md*T+x%T:Nat):Int) from(Int.natCast_add _ _).symm] at ha
  refine Ev.bind hd (Ev.bind (Of_ev _ hr9) (Ev.bind m1 ?_))
  dsimp only
  rw[S_size,hlen,hwr]
  exact Ev.bind m2 (Ev.bind ha (Ev.now _))
theorem page_loop {T:Nat} (hT:T=10 ^ 40) {y:Nat} (hy:y<10 ^ 180) (P:ByteArray) (part:List UInt8) (hp:part=[]↔y%T=0) (c md:Int) (nt:Bool) (Q:List Rng) {L:List Rng} (hL:L.length≤1000000) :
    ∀(zs:List (Nat × Nat)) (i:Nat) (b:Bool),L.drop i=zs.map toG→(∀z∈zs,z.1≤1000000000∧z.2≤1000000000) →
    Ev (fun k=>florinlaw07_Holds.l0 k (S part) b L (L.length:Int) (i:Int) c md nt Q (tri (dk 40 (y:Int))).1 (tri (dk 40 (y:Int))).2.1 (tri (dk 40 (y:Int))).2.2) ((b||(decide (y%T=0)&&EV.inn (y/T) zs)) !=nt)
  | [],i,b,hd,hz=>by
    have:=drop_nil_le hd
    refine Ev.step (fun k=>florinlaw07_Holds.l0.eq_2 ..) (Ev.if_neg (by omega) ?_)
    have e:(b||(decide (y%T=0)&&EV.inn (y/T) []))=b:=by unfold EV.inn;simp
    rw[e]
    exact Ev.now _
  | z::zs,i,b,hd,hz=>by
    rw[List.map_cons] at hd
    obtain⟨_,hi,hd2⟩:=getD_drop (toG z) hd
    obtain⟨z1,z2⟩:=hz z List.mem_cons_self
    have ih:=fun b=>page_loop hT hy P part hp c md nt Q hL zs (i+1) b hd2 (fun q hq=>hz q (List.mem_cons_of_mem _ hq))
    have hT0:0<T:=by rw[hT];exact Nat.pow_pos (by decide)
    have m1:=madeN hT (n:=z.1) (small140 (by omega))
    have m2:=madeN hT (n:=z.2) (small140 (by omega))
    have py:=plcN hy
    have k1:=Cmp_dk (by decide) (plcN (lt9 hT z1)) py (Val.dk (plcN (lt9 hT z1))) (Val.dk py)
    have k2:=Cmp_dk (by decide) py (plcN (lt9 hT z2)) (Val.dk py) (Val.dk (plcN (lt9 hT z2)))
    have cle:∀u v:Int,cmpI u v≤0↔u≤v:=by
      intro u v
      unfold cmpI
      split
      · omega
      · split <;> omega
    refine Ev.step (fun k=>florinlaw07_Holds.l0.eq_2 ..) (Ev.if_pos (by omega) (Ev.if_pos (by omega) (Ev.if_pos (by omega) ?_)))
    rw[rdG' hd,w_succ (i:=i) (by omega),EV.inn_cons]
    refine Ev.bind (Of_ev z.1 (by omega)) (Ev.bind m1 (Ev.bind (Of_ev z.2 (by omega)) (Ev.bind m2 ?_)))
    cases b with
    | true =>
      refine Ev.if_pos rfl ?_
      have:=ih true
      rw[Bool.true_or] at this ⊢
      exact this
    | false =>
      refine Ev.if_neg (by decide) ?_
      rw[Bool.false_or]
      by_cases h0:y%T=0
      · rw[decide_eq_true h0,Bool.true_and]
        have hyq:y=y/T*T:=by
          have:=Nat.div_add_mod y (T)
          rw[h0,Nat.add_zero,Nat.mul_comm] at this
          exact this.symm
        have c1:(((z.1*T:Nat):Int)≤(y:Int))↔z.1≤y/T:=by
          rw[Int.ofNat_le, ← Nat.le_div_iff_mul_le hT0]
        have c2:((y:Int)≤((z.2*T:Nat):Int))↔y/T≤z.2:=by
          rw[Int.ofNat_le]
          conv=>lhs;rw[hyq]
          exact⟨fun h=>Nat.le_of_mul_le_mul_right h hT0,fun h=>Nat.mul_le_mul_right _ h⟩
        refine Ev.if_pos (by rw[S_toList];exact hp.2 h0) (Ev.bind k1 ?_)
        by_cases h1:z.1≤y/T
        · refine Ev.if_pos ((cle _ _).2 (c1.2 h1)) (Ev.bind k2 ?_)
          have e:decide (cmpI (y:Int) ((z.2*T:Nat):Int)≤0)=decide (z.1≤y/T∧y/T≤z.2):=by
            by_cases h2:y/T≤z.2
            · rw[decide_eq_true ((cle _ _).2 (c2.2 h2)),decide_eq_true (And.intro h1 h2)]
            · rw[decide_eq_false (fun h=>h2 (c2.1 ((cle _ _).1 h))),decide_eq_false (fun h=>h2 h.2)]
          have:=ih (decide (cmpI (y:Int) ((z.2*T:Nat):Int)≤0))
          rw[decide_eq_true h0,Bool.true_and] at this
          rw[← e]
          exact this
        · rw[decide_eq_false (fun h=>h1 h.1),Bool.false_or]
          have:=ih false
          rw[decide_eq_true h0,Bool.true_and,Bool.false_or] at this
          exact Ev.if_neg (fun h=>h1 (c1.1 ((cle _ _).1 h))) this
      · rw[decide_eq_false h0,Bool.false_and]
        have:=ih false
        rw[decide_eq_false h0,Bool.false_and,Bool.false_or] at this
        exact Ev.if_neg (by rw[S_toList];exact fun h=>h0 (hp.1 h)) this
/-- a relation that may be asked of the page -/
def OkP (r:RG.Rl):Prop:=r.op∈RG.ops∧r.md≤1000000000∧r.rs.length≤1000000∧∀z∈r.rs,z.1≤1000000000∧z.2≤1000000000
theorem OkP.ok {r:RG.Rl} (h:OkP r):OkR r:=⟨h.1,h.2.1,h.2.2.1⟩
section
variable {o:EV.Op} {T:Nat}
theorem nvl_tr0' (l:List UInt8):nvl (tr l)=0↔nvl l=0:=by
  have h:nvl l=nvl (tr l)*10 ^ (l.length-(tr l).length):=by
    conv=>lhs;rw[(tr_eq l).1]
    rw[nvl_append_zs]
  rw[h]
  have hp:0<10 ^ (l.length-(tr l).length):=Nat.pow_pos (by decide)
  constructor
  · intro h0;rw[h0,Nat.zero_mul]
  · intro h0
    rcases Nat.mul_eq_zero.1 h0 with h1|h1
    · exact h1
    · omega
theorem xv_split (hT:T=10 ^ 40) (h:OkH o) (c:UInt8):∃g,g<T∧xv T o c=EV.val o c*T+g∧decide (g=0)=EV.whl o c:=by
  have hT0:0<T:=by rw[hT];exact Nat.pow_pos (by decide)
  by_cases hc:c=110
  · subst hc
    have hf:=h.fl
    have hp:T=10 ^ o.f.length*10 ^ (40-o.f.length):=by rw[hT, ← Nat.pow_add];congr 1;omega
    have hpos:0<10 ^ (40-o.f.length):=Nat.pow_pos (by decide)
    refine⟨nvl o.f*10 ^ (40-o.f.length),?_,?_,?_⟩
    · rw[hp]
      exact Nat.mul_lt_mul_of_pos_right (nvl_lt h.dig) hpos
    · rw[show xv T o 110=nvl (mkl o.n++o.f)*10 ^ (40-o.f.length) from _root_.if_pos rfl,show EV.val o 110=o.n from rfl,nvl_append,nvl_mkl,Nat.add_mul,Nat.mul_assoc, ← hp]
    · rw[show EV.whl o 110=decide (nvl (tr o.f)=0) from rfl]
      have e:nvl o.f*10 ^ (40-o.f.length)=0↔nvl (tr o.f)=0:=by
        rw[nvl_tr0']
        constructor
        · intro h0
          rcases Nat.mul_eq_zero.1 h0 with h1|h1
          · exact h1
          · omega
        · intro h0;rw[h0,Nat.zero_mul]
      by_cases h0:nvl (tr o.f)=0
      · rw[decide_eq_true h0,decide_eq_true (e.2 h0)]
      · rw[decide_eq_false h0,decide_eq_false (fun h'=>h0 (e.1 h'))]
  · refine⟨0,hT0,?_,?_⟩
    · rw[show xv T o c=EV.val o c*T from _root_.if_neg hc,Nat.add_zero]
    · rw[show EV.whl o c=true from _root_.if_neg hc]
      rfl
theorem inn_small {x:Nat}:∀ {rs:List (Nat × Nat)},(∀z∈rs,z.1≤1000000000∧z.2≤1000000000)→¬x<10 ^ 18→EV.inn x rs=false
  | [],_,_=>rfl
  | z::rs,h,hx=>by
    rw[EV.inn_cons,inn_small (fun q hq=>h q (List.mem_cons_of_mem _ hq)) hx,decide_eq_false (fun e=>?_)]
    · rfl
    · have:=(h z List.mem_cons_self).2
      omega
theorem hold_page (hT:T=10 ^ 40) (h:OkH o) {r:RG.Rl} (hr:OkP r):((decide (yv T (xv T o r.op) r.md%T=0)&&EV.inn (yv T (xv T o r.op) r.md/T) r.rs) !=r.nt)=EV.hold o r:=by
  have hT0:0<T:=by rw[hT];exact Nat.pow_pos (by decide)
  obtain⟨g,g1,g2,g3⟩:=xv_split hT h r.op
  unfold EV.hold
  rw[← g3]
  congr 1
  have md1:∀q:Nat,(q*T+g)%T=g:=fun q=>by rw[Nat.add_comm,Nat.add_mul_mod_self_right,Nat.mod_eq_of_lt g1]
  have dv1:∀q:Nat,(q*T+g)/T=q:=fun q=>by rw[Nat.add_comm,Nat.add_mul_div_right _ _ hT0,Nat.div_eq_of_lt g1,Nat.zero_add]
  unfold yv EV.inR
  rw[g2]
  by_cases h0:r.md=0
  · rw[_root_.if_pos h0,_root_.if_pos h0,md1,dv1]
    by_cases hb:EV.val o r.op<10 ^ 18
    · rw[decide_eq_true hb,Bool.true_and]
    · rw[inn_small hr.2.2.2 hb]
      simp
  · rw[_root_.if_neg h0,_root_.if_neg h0,md1,dv1,md1,dv1]
theorem page_holds (hT:T=10 ^ 40) (h:OkH o) {r:RG.Rl} (hr:OkP r):Ev (fun k=>florinlaw07_Holds.f k (toL r).f0 (toL r).f1 (toL r).f2 (toL r).f3 (S (mkl o.n)) (S o.f) (o.e:Int)) (EV.hold o r):=by
  have hx:=xv_lt hT h r.op
  have hy:=yv_lt hT (md:=r.md) hx
  obtain⟨_,L,_,hlen,_,hL0⟩:=parts_of hT (x:=yv T (xv T o r.op) r.md)
  have hp:partL (dk 40 ((yv T (xv T o r.op) r.md:Nat):Int)).m (dk 40 ((yv T (xv T o r.op) r.md:Nat):Int)).e=[]↔yv T (xv T o r.op) r.md%T=0:=by
    rw[← hL0, ← hlen]
    exact List.length_eq_zero_iff.symm
  have hl:(r.rs.map toG).length≤1000000:=by rw[List.length_map];exact hr.2.2.1
  have lp:=page_loop hT hy (S []) _ hp (toL r).f0 (toL r).f1 r.nt (toL r).f3 hl r.rs 0 false rfl hr.2.2.2
  rw[Bool.false_or,hold_page hT h hr] at lp
  unfold florinlaw07_Holds.f
  exact Ev.bind (value_page hT h hr.1) (Ev.bind (left_page hT hx hr.2.1) (Ev.bind (parts40 hT hy) lp))
theorem pmeets_l1 (hT:T=10 ^ 40) (h:OkH o) {L:List (List RelT)} {i:Int} {A:List RelT} (hA:A.length≤1000000) (x5:Bool) {r:Bool}:∀(zs:List RG.Rl) (j:Nat) (x8:Bool),A.drop j=zs.map toL→(∀q∈zs,OkP q) →
    Ev (fun k=>florinlaw07_Meets.l0 k (x5||(x8&&zs.all (EV.hold o))) L (L.length:Int) (wrap64 (i+1)) (S (mkl o.n)) (S o.f) (o.e:Int)) r →
    Ev (fun k=>florinlaw07_Meets.l1 k x5 x8 L (L.length:Int) i A (A.length:Int) (j:Int) (S (mkl o.n)) (S o.f) (o.e:Int)) r
  | [],j,x8,hd,hq,hk=>by
    have:=drop_nil_le hd
    rw[List.all_nil,Bool.and_true] at hk
    refine Ev.step (fun k=>florinlaw07_Meets.l1.eq_2 ..) (Ev.if_neg (by omega) ?_)
    cases x5 with
    | true=>exact Ev.if_pos rfl hk
    | false=>exact Ev.if_neg (by decide) hk
  | z::zs,j,x8,hd,hq,hk=>by
    rw[List.map_cons] at hd
    obtain⟨_,hj,hd2⟩:=getD_drop (toL z) hd
    have hq2:=fun q hm=>hq q (List.mem_cons_of_mem _ hm)
    refine Ev.step (fun k=>florinlaw07_Meets.l1.eq_2 ..) (Ev.if_pos (by omega) (Ev.if_pos (by omega) (Ev.if_pos (by omega) ?_)))
    rw[rdL' hd,w_succ (i:=j) (by omega)]
    rw[List.all_cons] at hk
    cases x8 with
    | true=>exact Ev.if_pos rfl (Ev.bind (page_holds hT h (hq z List.mem_cons_self)) (pmeets_l1 hT h hA x5 zs (j+1) _ hd2 hq2 (by rwa [Bool.true_and] at hk)))
    | false=>exact Ev.if_neg (by decide) (pmeets_l1 hT h hA x5 zs (j+1) _ hd2 hq2 (by rw[Bool.false_and] at hk ⊢;exact hk))
/-- a rule that may be asked of the page -/
def OkW (x:RG.Ru):Prop:=x.any.length≤1000000∧∀a∈x.any,a.length≤1000000∧∀r∈a,OkP r
theorem OkW.ok {x:RG.Ru} (h:OkW x):OkU x:=⟨h.1,fun a ha=>⟨(h.2 a ha).1,fun r hr=>((h.2 a ha).2 r hr).ok⟩⟩
theorem pmeets_l0 (hT:T=10 ^ 40) (h:OkH o) {L:List (List RelT)} (hL:L.length≤1000000):∀(zs:List (List RG.Rl)) (i:Nat) (x5:Bool),L.drop i=zs.map (fun a=>a.map toL)→(∀a∈zs,a.length≤1000000∧∀r∈a,OkP r) →
    Ev (fun k=>florinlaw07_Meets.l0 k x5 L (L.length:Int) (i:Int) (S (mkl o.n)) (S o.f) (o.e:Int)) (x5||zs.any (fun l=>l.all (EV.hold o)))
  | [],i,x5,hd,hq=>by
    have:=drop_nil_le hd
    rw[List.any_nil,Bool.or_false]
    exact Ev.step (fun k=>florinlaw07_Meets.l0.eq_2 ..) (Ev.if_neg (by omega) (Ev.now _))
  | z::zs,i,x5,hd,hq=>by
    rw[List.map_cons] at hd
    obtain⟨_,hi,hd2⟩:=getD_drop (z.map toL) hd
    obtain⟨a1,a2⟩:=hq z List.mem_cons_self
    have ih:=pmeets_l0 hT h hL zs (i+1) (x5||(true&&z.all (EV.hold o))) hd2 (fun r hm=>hq r (List.mem_cons_of_mem _ hm))
    refine Ev.step (fun k=>florinlaw07_Meets.l0.eq_2 ..) (Ev.if_pos (by omega) (Ev.if_pos (by omega) (Ev.if_pos (by omega) ?_)))
    rw[rdLL' hd,List.any_cons, ← Bool.or_assoc]
    rw[Bool.true_and] at ih
    refine pmeets_l1 hT h (by rw[List.length_map];exact a1) x5 z 0 true rfl a2 ?_
    rw[w_succ (i:=i) (by omega),Bool.true_and]
    exact ih
theorem page_meets (hT:T=10 ^ 40) (h:OkH o) {x:RG.Ru} (hx:OkW x):Ev (fun k=>florinlaw07_Meets.f k (toU x).f0 (toU x).f1 (toU x).f2 (S (mkl o.n)) (S o.f) (o.e:Int)) (EV.meet o x):=by
  have h0:(toU x).f1.length≤1000000:=by
    show(x.any.map (fun a=>a.map toL)).length≤1000000
    rw[List.length_map]
    exact hx.1
  have h1:=pmeets_l0 hT h h0 x.any 0 ((x.cat:Int)==5) rfl hx.2
  have e:(((x.cat:Int)==5)||x.any.any (fun l=>l.all (EV.hold o)))=EV.meet o x:=by
    unfold EV.meet
    rw[Bool.or_comm]
    congr 1
    by_cases h5:x.cat=5
    · rw[h5];rfl
    · rw[decide_eq_false h5]
      exact beq_eq_false_iff_ne.2 (by omega)
  rw[e] at h1
  exact h1
theorem ppick_l1 (hT:T=10 ^ 40) (h:OkH o) {l:List RuleT} (hl:l.length≤1000000) {c:Nat} (hc:c<5):∀(zs:List RG.Ru) (j:Nat),l.drop j=zs.map toU→(∀x∈zs,OkW x) →
    ((∃x∈zs,x.cat=c∧EV.meet o x=true)→Ev (fun k=>florinlaw07_Pick.l1 k l (c:Int) l (l.length:Int) (j:Int) (S (mkl o.n)) (S o.f) (o.e:Int)) (c:Int)) ∧
    (∀r:Int,(∀x∈zs,x.cat=c→EV.meet o x=false)→Ev (fun k=>florinlaw07_Pick.l0 k l ((c+1:Nat):Int) (S (mkl o.n)) (S o.f) (o.e:Int)) r→Ev (fun k=>florinlaw07_Pick.l1 k l (c:Int) l (l.length:Int) (j:Int) (S (mkl o.n)) (S o.f) (o.e:Int)) r)
  | [],j,hd,hq=>by
    have:=drop_nil_le hd
    refine⟨fun ⟨x,hx,_⟩=>(by cases hx),fun r _ hk=>?_⟩
    refine Ev.step (fun k=>florinlaw07_Pick.l1.eq_2 ..) (Ev.if_neg (by omega) ?_)
    rw[w_succ (i:=c) (by omega)]
    exact hk
  | z::zs,j,hd,hq=>by
    rw[List.map_cons] at hd
    obtain⟨_,hj,hd2⟩:=getD_drop (toU z) hd
    obtain⟨i1,i2⟩:=ppick_l1 hT h hl hc zs (j+1) hd2 (fun x hm=>hq x (List.mem_cons_of_mem _ hm))
    have hm:=page_meets hT h (hq z List.mem_cons_self)
    have st:∀r:Int,(z.cat=c→EV.meet o z=true→r=(c:Int))→(¬(z.cat=c∧EV.meet o z=true)→Ev (fun k=>florinlaw07_Pick.l1 k l (c:Int) l (l.length:Int) ((j+1:Nat):Int) (S (mkl o.n)) (S o.f) (o.e:Int)) r) →
        Ev (fun k=>florinlaw07_Pick.l1 k l (c:Int) l (l.length:Int) (j:Int) (S (mkl o.n)) (S o.f) (o.e:Int)) r:=by
      intro r h1 h2
      refine Ev.step (fun k=>florinlaw07_Pick.l1.eq_2 ..) (Ev.if_pos (by omega) (Ev.if_pos (by omega) (Ev.if_pos (by omega) ?_)))
      rw[rdU' hd,w_succ (i:=j) (by omega)]
      by_cases hz:z.cat=c
      · refine Ev.if_pos (show(z.cat:Int)=(c:Int) by omega) (Ev.bind hm ?_)
        cases hmt:EV.meet o z with
        | true=>rw[h1 hz hmt];exact Ev.if_pos rfl (Ev.now _)
        | false=>exact Ev.if_neg (by decide) (h2 (fun e=>by rw[hmt] at e;exact absurd e.2 (by decide)))
      · exact Ev.if_neg (show ¬(z.cat:Int)=(c:Int) by omega) (h2 (fun e=>hz e.1))
    refine⟨fun hx=>st _ (fun _ _=>rfl) (fun hn=>i1 ?_),fun r hall hk=>st r (fun h1 h2=>?_) (fun _=>i2 r (fun x hx=>hall x (List.mem_cons_of_mem _ hx)) hk)⟩
    · obtain⟨x,hx,h1⟩:=hx
      rcases List.mem_cons.1 hx with rfl|hx
      · exact absurd h1 hn
      · exact⟨x,hx,h1⟩
    · rw[hall z List.mem_cons_self h1] at h2
      cases h2
theorem ppick_l0 (hT:T=10 ^ 40) (h:OkH o) {l:List RG.Ru} (hl:l.length≤1000000) (hq:∀x∈l,OkW x):∀d c:Nat,c+d=5→(∀x∈l,EV.meet o x=true→c≤x.cat) →
    Ev (fun k=>florinlaw07_Pick.l0 k (l.map toU) (c:Int) (S (mkl o.n)) (S o.f) (o.e:Int)) ((EV.pick o 5 l:Nat):Int)
  | 0,c,hc,hlo=>by
    have h1:=EV.pick_le o l 5
    have e:EV.pick o 5 l=5:=by
      rcases EV.pick_is o l 5 with h2|⟨x,hx,h2,h3⟩
      · exact h2
      · have:=hlo x hx h2
        omega
    rw[e]
    exact Ev.step (fun k=>florinlaw07_Pick.l0.eq_2 ..) (Ev.if_neg (by omega) (Ev.now _))
  | d+1,c,hc,hlo=>by
    have hc5:c<5:=by omega
    have hl':(l.map toU).length≤1000000:=by rw[List.length_map];exact hl
    obtain⟨i1,i2⟩:=ppick_l1 hT h hl' hc5 l 0 rfl hq
    refine Ev.step (fun k=>florinlaw07_Pick.l0.eq_2 ..) (Ev.if_pos (by omega) ?_)
    by_cases hx:∃x∈l,x.cat=c∧EV.meet o x=true
    · have e:EV.pick o 5 l=c:=by
        obtain⟨x,hx,h1,h2⟩:=hx
        have h3:=EV.pick_low o l 5 x hx h2
        rcases EV.pick_is o l 5 with h4|⟨y,hy,h4,h5⟩
        · omega
        · have:=hlo y hy h4
          omega
      rw[e]
      exact i1 hx
    · have hno:∀x∈l,x.cat=c→EV.meet o x=false:=fun x hm hcat=>by
        cases hmt:EV.meet o x with
        | true=>exact absurd ⟨x,hm,hcat,hmt⟩ hx
        | false=>rfl
      refine i2 _ hno (ppick_l0 hT h hl hq d (c+1) (by omega) (fun x hm hmt=>?_))
      have h1:=hlo x hm hmt
      by_cases hcat:x.cat=c
      · rw[hno x hm hcat] at hmt
        cases hmt
      · omega
theorem page_pick (hT:T=10 ^ 40) (h:OkH o) {l:List RG.Ru} (hl:l.length≤1000000) (hq:∀x∈l,OkW x):Ev (fun k=>florinlaw07_Pick.f k (l.map toU) (S (mkl o.n)) (S o.f) (o.e:Int)) ((EV.pick o 5 l:Nat):Int) :=
  ppick_l0 hT h hl hq 5 0 rfl (fun x _ _=>Nat.zero_le _)
end
end RR
end Go.Proofs.YtadagjgkanlmdaaGreatDoor.P
