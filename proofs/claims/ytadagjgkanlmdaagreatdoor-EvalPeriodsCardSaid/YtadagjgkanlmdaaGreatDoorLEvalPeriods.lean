import Derived.Test.YtadagjgkanlmdaaGreatDoorSB
import Derived.Test.YtadagjgkanlmdaaGreatDoorPx1
import Derived.Test.YtadagjgkanlmdaaGreatDoorPx17
import Derived.Test.YtadagjgkanlmdaaGreatDoorPx2
import Derived.Test.YtadagjgkanlmdaaGreatDoorPx5
namespace Go.Proofs.YtadagjgkanlmdaaGreatDoor.P
open Go.RowKit Go.Proofs.YtadagjgkanlmdaaGreatDoorW.PrintWords Go.Proofs.YtadagjgkanlmdaaGreatDoorW.PrintLast Go.Proofs.YtadagjgkanlmdaaGreatDoorW.PrintMore Go.Proofs.YtadagjgkanlmdaaGreatDoor.FM
set_option linter.unusedVariables false
set_option linter.unusedSimpArgs false

namespace RR
theorem per_j1 {a a' b:List UInt8} (da:Dig a) (da':Dig a') (db:Dig b) (la:a.length≤100) (la':a'.length≤1000) (lb:b.length≤100) {r:RG.Rl} (h1:r.op∈RG.ops) (h2:r.md≤65536) (h3:r.rs.length≤6) (hm:r.md≠0) {kk:Nat} (hk:nvl a'=nvl a+r.md*kk) (x72:Bool) (hx:x72=true→a'=[] ) :
    Ev (fun k=>florinlaw07_EvalPeriods.j1 k x72 (r.op.toNat:Int) (r.md:Int) r.nt (r.rs.map toG) false (S a') (S b) (S (mkl (opMade a b 0).n)) (S (opMade a b 0).f) ((opMade a b 0).e:Int)) true:=by
  have ok:=opMade_ok da db (by omega) (by omega) 0
  have x1:=holds_ev ok (r:=r) ⟨h1,by omega,by omega⟩
  have key:∀c:List UInt8,Dig c→c.length≤1000→nvl c=nvl a+r.md*kk→EV.hold (opMade c b 0) r=EV.hold (opMade a b 0) r:=by
    intro c dc lc hc
    rw[opMade0,opMade0,hc]
    exact EV.hold_more_of ⟨nvl a,b,0⟩ r kk hm
  have go:∀c:List UInt8,Dig c→c.length≤1000→nvl c=nvl a+r.md*kk→Ev (fun k=>(operand_Of.f k false (S c) (S b) 0).bind fun t=>(eval_Holds.f k (r.op.toNat:Int) (r.md:Int) r.nt (r.rs.map toG) t.1 t.2.1 t.2.2).bind fun u=>(eval_Holds.f k (r.op.toNat:Int) (r.md:Int) r.nt (r.rs.map toG) (S (mkl (opMade a b 0).n)) (S (opMade a b 0).f) ((opMade a b 0).e:Int)).bind fun v=>some (u==v)) true:=by
    intro c dc lc hc
    have ok':=opMade_ok dc db (by omega) (by omega) 0
    have ho:Ev (fun k=>operand_Of.f k false (S c) (S b) 0) (S (mkl (opMade c b 0).n),S (opMade c b 0).f,((opMade c b 0).e:Int)):=OpOf_ev false c b (by omega) (by omega) dc db 0
    have x2:=holds_ev ok' (r:=r) ⟨h1,by omega,by omega⟩
    rw[key c dc lc hc] at x2
    exact Ev.bind ho (Ev.bind x2 (Ev.bind x1 (Ev.yes (beq_self_eq_true _))))
  refine Ev.step (fun k=>florinlaw07_EvalPeriods.j1.eq_2 ..) ?_
  cases x72 with
  | true =>
    have e:=hx rfl
    refine Ev.if_pos rfl (go [48] (by unfold Dig;decide) (by decide) ?_)
    rw[← hk,e]
    rfl
  | false=>exact Ev.if_neg (by decide) (go a' da' la' hk)
theorem per_j0 (l1 l2:List Int) (a3:Int) (g3:l1.length≤40) (g4:l2.length≤40) (w1:∀x∈l1,(Lit.int .u8 x).wf=true) (w2:∀x∈l2,(Lit.int .u8 x).wf=true) (r:RlM) (h:r.f4.length≤5) :
    Ev (fun k=>florinlaw07_EvalPeriods.j0 k l1 l2 a3 false r.f0 r.f1 r.f2 r.f3 r.f4) true:=by
  obtain⟨a,b,da,db,la,lb,eb,ea,hs,hof⟩:=made_ev l1 l2 (by omega) (by omega) w1 w2
  obtain⟨ok,ho⟩:=hof 0
  obtain⟨r1,r2,r3⟩:=one_ok h
  obtain⟨kk,q1,q2⟩:=low64 16 (by omega) a3 65535 (by decide)
  have hkk:kk<65536:=q2
  have hall:=all_ev (one_few h) 0
  rw[one_out r] at hall
  refine Ev.step (fun k=>florinlaw07_EvalPeriods.j0.eq_2 ..) (Ev.if_neg (by decide) (Ev.bind hall (Ev.if_pos (by show(0:Int)<1;omega) (Ev.if_pos (by show(0:Int)<1;omega) (Ev.if_pos (by show(0:Int)<1;omega) ?_)))))
  by_cases hm:(rlN r).md=0
  · exact Ev.if_pos (show((rlN r).md:Int)=0 by omega) (Ev.now _)
  refine Ev.if_neg (show ¬((rlN r).md:Int)=0 by omega) (Ev.bind hs (Ev.bind ho ?_))
  rw[q1]
  have smd:(mkl (rlN r).md).length≤5:=mkl_length_le.2 (show(rlN r).md<10 ^ 5 by omega)
  have e1:Ev (fun k=>num_Of.f k ((rlN r).md:Int)) (S (mkl (rlN r).md)):=Of_ev _ (by omega)
  have e2:=Times_ev (mkl (rlN r).md) (Nat.le_trans smd (by decide)) (dig_mkl _) kk (by omega)
  rw[nvl_mkl] at e2
  have hp:(rlN r).md*kk<10 ^ 10:=Nat.lt_of_le_of_lt (Nat.mul_le_mul r2 (Nat.le_of_lt hkk)) (by decide)
  have sp:(mkl ((rlN r).md*kk)).length≤10:=mkl_length_le.2 hp
  have e3:=Add_ev a (mkl ((rlN r).md*kk)) (by unfold Sm;omega) (Nat.le_trans sp (by decide)) da (dig_mkl _)
  rw[nvl_mkl] at e3
  have ha:=nvl_lt da
  have hsum:nvl a+(rlN r).md*kk<10 ^ 60:=by
    have h1:nvl a<10 ^ 41:=Nat.lt_of_lt_of_le ha (Nat.pow_le_pow_right (by decide) (by omega))
    have h2:(10:Nat) ^ 41+10 ^ 10<10 ^ 60:=by decide
    exact Nat.lt_trans (Nat.add_lt_add h1 hp) h2
  have ss:(mkl (nvl a+(rlN r).md*kk)).length≤60:=mkl_length_le.2 hsum
  refine Ev.bind e1 (Ev.bind e2 (Ev.bind e3 ?_))
  have j1:=fun (x:Bool) (hx:x=true→mkl (nvl a+(rlN r).md*kk)=[])=>per_j1 (a:=a) (a':=mkl (nvl a+(rlN r).md*kk)) (b:=b) da (dig_mkl _) db (by omega) (by omega) (by omega) (r:=rlN r) r1 r2 r3 hm (kk:=kk) (nvl_mkl _) x hx
  rw[S_toList]
  by_cases h0:mkl (nvl a+(rlN r).md*kk)=[]
  · exact Ev.if_pos h0 (j1 _ (fun _=>h0))
  · exact Ev.if_neg h0 (j1 false (fun h=>by cases h))
end RR
theorem pureEvalPeriods (z0 z1 z2:Int) (z3:Bool) (z4:List RR.Num) (l1 l2:List Int) (a3:Int)
    (f0:(Lit.int .i64 z0).wf=true) (f1:(Lit.int .i64 z1).wf=true) (f2:(Lit.int .i64 z2).wf=true) (m1:l1.length≤maxLen) (y1:l1.length*1≤140737488351232) (w1:∀x∈l1,(Lit.int .u8 x).wf=true) (m2:l2.length≤maxLen) (y2:l2.length*1≤140737488351232) (w2:∀x∈l2,(Lit.int .u8 x).wf=true) (g3:(Lit.int .i64 a3).wf=true) :
    ∃k,florinlaw07_EvalPeriods.f k z0 z1 z2 z3 z4 l1 l2 a3=some true:=by
  refine Ev.rounds ?_
  unfold florinlaw07_EvalPeriods.f
  refine Ev.bind RR.head7_ev (Ev.if_pos rfl ?_)
  have yes:Ev (fun k=>florinlaw07_EvalPeriods.j0 k l1 l2 a3 true z0 z1 z2 z3 z4) true:=Ev.step (fun k=>florinlaw07_EvalPeriods.j0.eq_2 ..) (Ev.if_pos rfl (Ev.now _))
  by_cases g0:z4.length>5
  · exact Ev.if_pos (by omega) yes
  refine Ev.if_neg (by omega) ?_
  by_cases g1:l1.length>40
  · exact Ev.if_pos (by omega) yes
  refine Ev.if_neg (by omega) ?_
  by_cases g2:l2.length>40
  · rw[show decide ((l2.length:Int)>40)=true from decide_eq_true (by omega)]
    exact yes
  rw[show decide ((l2.length:Int)>40)=false from decide_eq_false (by omega)]
  exact RR.per_j0 l1 l2 a3 (by omega) (by omega) w1 w2 ⟨z0,z1,z2,z3,z4⟩ (by show z4.length≤5;omega)
end Go.Proofs.YtadagjgkanlmdaaGreatDoor.P
