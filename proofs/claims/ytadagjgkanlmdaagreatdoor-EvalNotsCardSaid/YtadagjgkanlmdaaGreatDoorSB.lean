import Derived.Test.YtadagjgkanlmdaaGreatDoorSA
import Derived.Test.YtadagjgkanlmdaaGreatDoorMA
import Derived.Test.YtadagjgkanlmdaaGreatDoorO2
import Derived.Test.YtadagjgkanlmdaaGreatDoorPx1
import Derived.Test.YtadagjgkanlmdaaGreatDoorPx2
import Derived.Test.YtadagjgkanlmdaaGreatDoorPx5
import Derived.Test.YtadagjgkanlmdaaGreatDoorPx6
import Derived.Test.YtadagjgkanlmdaaGreatDoorPx9
import Derived.KernelRfl
namespace Go.Proofs.YtadagjgkanlmdaaGreatDoor.P
open Go.RowKit Go.Proofs.YtadagjgkanlmdaaGreatDoorW.PrintWords Go.Proofs.YtadagjgkanlmdaaGreatDoorW.PrintLast Go.Proofs.YtadagjgkanlmdaaGreatDoorW.PrintMore Go.Proofs.YtadagjgkanlmdaaGreatDoor.FM
set_option linter.unusedVariables false
set_option linter.unusedSimpArgs false
/-! what eval's functions answer -/
namespace RR
/-- a number that is short enough -/
structure OkO (o:EV.Op):Prop where
  dig:Dig o.f
  fl:o.f.length≤100000
  nl:(mkl o.n).length≤100000
  el:o.e≤100000
section
variable {o:EV.Op}
theorem tr_dig {l:List UInt8} (h:Dig l):Dig (tr l)∧(tr l).length≤l.length:=by
  obtain⟨h1,h2⟩:=tr_eq l
  refine⟨fun c hc=>h c ?_,h2⟩
  rw[h1]
  exact List.mem_append_left _ hc
theorem opI_ev (h:OkO o):Ev (fun k=>operand_Ops_I.f k (S (mkl o.n)) (S o.f) (o.e:Int)) (S (mkl o.n)):=by
  have h1:=Trim_dig (mkl o.n) (Nat.le_trans h.nl (by decide)) (dig_mkl o.n)
  rw[nvl_mkl] at h1
  exact Ev.bind h1 (Ev.now _)
theorem opF_ev (h:OkO o):Ev (fun k=>operand_Ops_F.f k (S (mkl o.n)) (S o.f) (o.e:Int)) (S (mkl (nvl o.f))) :=
  Ev.bind (Trim_dig o.f (Nat.le_trans h.fl (by decide)) h.dig) (Ev.now _)
theorem opT_ev (h:OkO o):Ev (fun k=>operand_Ops_T.f k (S (mkl o.n)) (S o.f) (o.e:Int)) (S (mkl (nvl (tr o.f)))):=by
  obtain⟨h1,h2⟩:=tr_dig h.dig
  unfold operand_Ops_T.f
  have hf:=h.fl
  exact Ev.const (OpBare_ev o.f (by omega)) (Ev.bind (Trim_dig (tr o.f) (by omega) h1) (Ev.now _))
theorem opWhole_ev (h:OkO o):Ev (fun k=>operand_Ops_Whole.f k (S (mkl o.n)) (S o.f) (o.e:Int)) (decide (nvl (tr o.f)=0)):=by
  unfold operand_Ops_Whole.f
  refine Ev.bind (opT_ev h) ?_
  rw[S_toList]
  have e:(mkl (nvl (tr o.f))==([]:List UInt8))=decide (nvl (tr o.f)=0):=by
    by_cases h0:nvl (tr o.f)=0
    · rw[h0,mkl_zero];rfl
    · rw[decide_eq_false h0]
      exact beq_eq_false_iff_ne.2 (fun e=>h0 (mkl_eq_nil.1 e))
  rw[← e]
  exact Ev.now _
theorem opW_eq (h:OkO o):operand_Ops_W.f (S (mkl o.n)) (S o.f) (o.e:Int)=some ((tr o.f).length:Int):=by
  unfold operand_Ops_W.f
  have hf:=h.fl
  rw[OpBare_ev o.f (by omega)];rfl
theorem value_op (h:OkO o) {c:UInt8} (hc:c∈RG.ops):Ev (fun k=>eval_value.f k (c.toNat:Int) (S (mkl o.n)) (S o.f) (o.e:Int)) (S (mkl (EV.val o c)),EV.whl o c):=by
  have hf:=h.fl
  have he:=h.el
  obtain⟨_,h2⟩:=tr_dig h.dig
  unfold eval_value.f
  simp only[RG.ops,List.mem_cons,List.not_mem_nil,or_false] at hc
  rcases hc with rfl|rfl|rfl|rfl|rfl|rfl|rfl|rfl
  · exact Ev.if_pos rfl (Ev.bind (opI_ev h) (Ev.bind (opWhole_ev h) (Ev.now _)))
  · exact Ev.if_neg (by decide) (Ev.if_pos rfl (Ev.bind (opI_ev h) (Ev.now _)))
  · refine Ev.if_neg (by decide) (Ev.if_neg (by decide) (Ev.if_pos rfl (Ev.const (a:=(o.f.length:Int)) ?_ (Ev.bind (Of_ev o.f.length (by omega)) (Ev.now _)))))
    unfold operand_Ops_V.f;rw[S_size]
  · exact Ev.if_neg (by decide) (Ev.if_neg (by decide) (Ev.if_neg (by decide) (Ev.if_pos rfl (Ev.const (opW_eq h) (Ev.bind (Of_ev (tr o.f).length (by omega)) (Ev.now _))))))
  · exact Ev.if_neg (by decide) (Ev.if_neg (by decide) (Ev.if_neg (by decide) (Ev.if_neg (by decide) (Ev.if_pos rfl (Ev.bind (opF_ev h) (Ev.now _))))))
  · exact Ev.if_neg (by decide) (Ev.if_neg (by decide) (Ev.if_neg (by decide) (Ev.if_neg (by decide) (Ev.if_neg (by decide) (Ev.if_pos rfl (Ev.bind (opT_ev h) (Ev.now _)))))))
  · exact Ev.if_neg (by decide) (Ev.if_neg (by decide) (Ev.if_neg (by decide) (Ev.if_neg (by decide) (Ev.if_neg (by decide) (Ev.if_neg (by decide) (Ev.if_pos rfl (Ev.bind (Of_ev o.e (by omega)) (Ev.now _))))))))
  · exact Ev.if_neg (by decide) (Ev.if_neg (by decide) (Ev.if_neg (by decide) (Ev.if_neg (by decide) (Ev.if_neg (by decide) (Ev.if_neg (by decide) (Ev.if_neg (by decide) (Ev.if_pos rfl (Ev.bind (Of_ev o.e (by omega)) (Ev.now _)))))))))
theorem val_len (h:OkO o) (c:UInt8):(mkl (EV.val o c)).length≤100000:=by
  have hf:=h.fl
  have he:=h.el
  obtain⟨h1,h2⟩:=tr_dig h.dig
  have small:∀n:Nat,n≤100000→(mkl n).length≤100000:=fun n hn=>Nat.le_trans (mkl_length_le.2 (show n<10 ^ 6 by omega)) (by decide)
  have dl:∀l:List UInt8,Dig l→l.length≤100000→(mkl (nvl l)).length≤100000:=fun l hd hl=>Nat.le_trans (mkl_length_le.2 (nvl_lt hd)) hl
  unfold EV.val
  split
  · exact h.nl
  split
  · exact h.nl
  split
  · exact small _ hf
  split
  · exact small _ (by omega)
  split
  · exact dl _ h.dig hf
  split
  · exact dl _ h1 (by omega)
  · exact small _ he
theorem rdG' {L:List Rng} {i:Nat} {z:Rng} {zs:List Rng} (h:L.drop i=z::zs):rd_T57 L (i:Int)=z:=by
  unfold rd_T57
  rw[Int.toNat_natCast]
  exact(getD_drop _ h).1
theorem within_loop (x:Nat) {L:List Rng} (hL:L.length≤1000000):∀(zs:List (Nat × Nat)) (i:Nat),L.drop i=zs.map toG→Ev (fun k=>eval_within.l0 k (x:Int) L (L.length:Int) (i:Int)) (EV.inn x zs)
  | [],i,hd=>by
    have:=drop_nil_le hd
    exact Ev.step (fun k=>eval_within.l0.eq_2 ..) (Ev.if_neg (by omega) (Ev.now _))
  | z::zs,i,hd=>by
    rw[List.map_cons] at hd
    obtain⟨_,hi,hd2⟩:=getD_drop (toG z) hd
    have ih:=within_loop x hL zs (i+1) hd2
    refine Ev.step (fun k=>eval_within.l0.eq_2 ..) (Ev.if_pos (by omega) (Ev.if_pos (by omega) (Ev.if_pos (by omega) ?_)))
    rw[rdG' hd,w_succ (i:=i) (by omega),EV.inn_cons]
    show Ev (fun k=>if (x:Int)≥(z.1:Int) then (if (x:Int)≤(z.2:Int) then some true else _) else _) _
    by_cases h1:z.1≤x
    · refine Ev.if_pos (by omega) ?_
      by_cases h2:x≤z.2
      · rw[decide_eq_true (And.intro h1 h2)]
        exact Ev.if_pos (by omega) (Ev.now _)
      · rw[decide_eq_false (fun h=>h2 h.2)]
        exact Ev.if_neg (by omega) ih
    · rw[decide_eq_false (fun h=>h1 h.1)]
      exact Ev.if_neg (by omega) ih
theorem within_ev (x:Nat) {rs:List (Nat × Nat)} (h:rs.length≤1000000):Ev (fun k=>eval_within.f k (x:Int) (rs.map toG)) (EV.inn x rs) :=
  within_loop x (L:=rs.map toG) (by rw[List.length_map];exact h) rs 0 rfl
/-- a relation that may be asked -/
def OkR (r:RG.Rl):Prop:=r.op∈RG.ops∧r.md≤1000000000∧r.rs.length≤1000000
theorem holds_ev (h:OkO o) {r:RG.Rl} (hr:OkR r):Ev (fun k=>eval_Holds.f k (toL r).f0 (toL r).f1 (toL r).f2 (toL r).f3 (S (mkl o.n)) (S o.f) (o.e:Int)) (EV.hold o r):=by
  obtain⟨h1,h2,h3⟩:=hr
  have hl:=val_len h r.op
  have e1:=value_op h h1
  unfold eval_Holds.f
  refine Ev.bind e1 ?_
  unfold EV.hold EV.inR
  have fin:∀b:Bool,Ev (fun k:Nat=>if EV.whl o r.op=true then some (b !=r.nt) else some (false !=r.nt)) ((EV.whl o r.op&&b) !=r.nt):=by
    intro b
    cases EV.whl o r.op with
    | true=>exact Ev.if_pos rfl (Ev.now _)
    | false=>exact Ev.if_neg (by decide) (Ev.now _)
  by_cases hm:r.md=0
  · rw[if_pos hm]
    refine Ev.if_neg (show ¬((r.md:Int)>0) by omega) ?_
    by_cases hb:EV.val o r.op<10 ^ 18
    · have e2:=Int_ev (mkl (EV.val o r.op)) (Nat.le_trans hl (by decide)) (dig_mkl _) (by rw[nvl_mkl];exact hb)
      rw[nvl_mkl] at e2
      rw[decide_eq_true hb,Bool.true_and]
      exact Ev.bind e2 (Ev.if_pos rfl (Ev.bind (within_ev _ h3) (fin _)))
    · have e2:=Int_long (mkl (EV.val o r.op)) (Nat.le_trans hl (by decide)) (dig_mkl _) (by rw[nvl_mkl];omega)
      rw[decide_eq_false hb,Bool.false_and]
      exact Ev.bind e2 (Ev.if_neg (by decide) (fin _))
  · rw[if_neg hm]
    have e2:=Div_ev (mkl (EV.val o r.op)) (Nat.le_trans hl (by decide)) (dig_mkl _) r.md (by omega) h2
    rw[nvl_mkl] at e2
    exact Ev.if_pos (show(r.md:Int)>0 by omega) (Ev.bind e2 (Ev.bind (within_ev _ h3) (fin _)))
end
end RR
end Go.Proofs.YtadagjgkanlmdaaGreatDoor.P
namespace Go.Proofs.YtadagjgkanlmdaaGreatDoor.P
open Go.RowKit Go.Proofs.YtadagjgkanlmdaaGreatDoorW.PrintWords Go.Proofs.YtadagjgkanlmdaaGreatDoorW.PrintLast Go.Proofs.YtadagjgkanlmdaaGreatDoorW.PrintMore Go.Proofs.YtadagjgkanlmdaaGreatDoor.FM
set_option linter.unusedVariables false
set_option linter.unusedSimpArgs false
/-! the head of eval's laws; the number that a law makes -/
namespace RR
set_option maxRecDepth 100000 in
theorem head7_k (k:Nat):florinlaw07_head.f (k+60)=some true:=by kernel_rfl
theorem head7_ev:Ev (fun k=>florinlaw07_head.f k) true:=⟨60,fun k hk=>by obtain⟨j,rfl⟩:=Nat.exists_eq_add_of_le hk;rw[Nat.add_comm];exact head7_k j⟩
end RR
namespace RR
/-- a number as it is made out of two rows of digits -/
def opMade (a b:List UInt8) (e:Int):EV.Op:=⟨ofInt a b e,b.drop (ofN b e),ofE e⟩
theorem opMade_ok {a b:List UInt8} (da:Dig a) (db:Dig b) (la:a.length≤10000) (lb:b.length≤10000) (e:Int):OkO (opMade a b e):=by
  have hE:ofE e≤10000:=by unfold ofE;omega
  refine⟨db.drop _,?_,?_,?_⟩
  · show(b.drop (ofN b e)).length≤_
    rw[List.length_drop];omega
  · exact Nat.le_trans (mkl_length_le.2 (ofInt_lt a b da db e)) (by omega)
  · show ofE e≤_
    omega
theorem made_ev (l1 l2:List Int) (h1:l1.length≤9000) (h2:l2.length≤9000) (w1:∀x∈l1,(Lit.int .u8 x).wf=true) (w2:∀x∈l2,(Lit.int .u8 x).wf=true) :
    ∃a b,Dig a∧Dig b∧a.length≤l1.length+1∧b.length=l2.length∧b=digs l2∧nvl a=nvl (digs l1)∧Ev (fun k=>florinlaw05_Shown.f k l1 l2) (false,S a,S b) ∧
      ∀e,OkO (opMade a b e)∧Ev (fun k=>operand_Of.f k false (S a) (S b) e) (S (mkl (opMade a b e).n),S (opMade a b e).f,((opMade a b e).e:Int)):=by
  obtain⟨a,b,da,db,la,lb,eb,ea,hs⟩:=Shown_ev l1 l2 (by omega) (by omega) w1 w2
  exact⟨a,b,da,db,la,lb,eb,ea,hs,fun e=>⟨opMade_ok da db (by omega) (by omega) e,OpOf_ev false a b (by omega) (by omega) da db e⟩⟩
end RR
namespace RR
theorem one_out (r:RlM):(allOut [(⟨1,0,0,[[r]]⟩:Mad)]).map toU=[⟨1,[[toL (rlN r)]],S []⟩]:=by
  have hc:catN (⟨1,0,0,[[r]]⟩:Mad)=1:=by
    show(wrap64 (Int.tmod (IntKind.u64.wrap 1) 6)).toNat=1
    decide +kernel
  have hs:smpT 0=[]:=by decide +kernel
  have hr:ruN (⟨1,0,0,[[r]]⟩:Mad)=⟨1,[[rlN r]],[]⟩:=by
    unfold ruN
    rw[hc]
    show(⟨1,if (1:Nat)=5 then [] else (anyN ⟨1,0,0,[[r]]⟩).map alN,smpT 0⟩:RG.Ru)=_
    rw[_root_.if_neg (by decide),hs]
    unfold anyN alN relsN
    rw[_root_.if_neg (by simp)]
    simp
  unfold allOut
  rw[selM,_root_.if_neg (by simp),selM,List.map_cons,List.map_nil,hr]
  rfl
theorem one_few {r:RlM} (h:r.f4.length≤5):FewL [(⟨1,0,0,[[r]]⟩:Mad)]:=by
  refine⟨by show 1≤8;decide,fun m hm=>?_⟩
  rw[List.mem_singleton.1 hm]
  refine⟨by show 1≤4;decide,fun a ha=>?_⟩
  rw[List.mem_singleton.1 ha]
  refine⟨by show 1≤4;decide,fun q hq=>?_⟩
  rw[List.mem_singleton.1 hq]
  exact h
theorem one_ok {r:RlM} (h:r.f4.length≤5):(rlN r).op∈RG.ops∧(rlN r).md≤65536∧(rlN r).rs.length≤6:=by
  obtain⟨_,_,_,_,h6,_⟩:=rlN_op r
  obtain⟨h7,_⟩:=rlN_md r
  refine⟨h6,by omega,?_⟩
  show((numsOf r.f4).map spN).length≤_
  rw[List.length_map]
  obtain⟨z,zs,e,hl⟩:=numsOf_ne r.f4
  rw[e,List.length_cons]
  omega
end RR
end Go.Proofs.YtadagjgkanlmdaaGreatDoor.P
