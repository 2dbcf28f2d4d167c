import Derived.Test.YtadagjgkanlmdaaGreatDoorSB
import Derived.Test.YtadagjgkanlmdaaGreatDoorPx15
namespace Go.Proofs.YtadagjgkanlmdaaGreatDoor.P
open Go.RowKit Go.Proofs.YtadagjgkanlmdaaGreatDoorW.PrintWords Go.Proofs.YtadagjgkanlmdaaGreatDoorW.PrintLast Go.Proofs.YtadagjgkanlmdaaGreatDoorW.PrintMore Go.Proofs.YtadagjgkanlmdaaGreatDoor.FM
set_option linter.unusedVariables false
set_option linter.unusedSimpArgs false

namespace RR
theorem nots_j1 {o:EV.Op} (ok:OkO o) (a1 a2:Int) {r:RG.Rl} (h1:r.op∈RG.ops) (h2:r.md≤65536) (h3:r.rs.length≤6) :
    Ev (fun k=>florinlaw07_EvalNots.j1 k a1 a2 (r.op.toNat:Int) (r.md:Int) false (r.rs.map toG) (S (mkl o.n)) (S o.f) (o.e:Int)) true:=by
  obtain⟨lo,q1,q2⟩:=low64 16 (by omega) a1 65535 (by decide)
  obtain⟨d,q3,q4⟩:=low64 8 (by omega) a2 255 (by decide)
  have hlo:lo<65536:=q2
  have hd:d<256:=q4
  have e1:wrap64 ((lo:Int)+(d:Int))=((lo+d:Nat):Int):=by rw[w64 (by omega) (by omega)];omega
  have w1:=holds_ev ok (r:=⟨r.op,r.md,false,(lo,lo+d)::r.rs⟩) ⟨h1,by show r.md≤_;omega,by show r.rs.length+1≤_;omega⟩
  have w2:=holds_ev ok (r:=⟨r.op,r.md,false,r.rs⟩) ⟨h1,by show r.md≤_;omega,by show r.rs.length≤_;omega⟩
  have w3:=holds_ev ok (r:=⟨r.op,r.md,false,[(lo,lo+d)]⟩) ⟨h1,by show r.md≤_;omega,by show 1≤_;omega⟩
  have hm:=EV.hold_more o r.op r.md (lo,lo+d) r.rs
  refine Ev.step (fun k=>florinlaw07_EvalNots.j1.eq_2 ..) ?_
  rw[q1,q3,e1]
  refine Ev.const rfl (Ev.if_pos (by show 1+(r.rs.map toG).length<8796093022208;rw[List.length_map];omega) (Ev.const rfl (Ev.if_pos (by show(1:Int)≤(((r.rs.map toG).length+1:Nat):Int);omega) (Ev.bind w1 (Ev.bind w2 ?_)))))
  rw[hm]
  cases h:EV.hold o ⟨r.op,r.md,false,r.rs⟩ with
  | true=>exact Ev.if_pos rfl (Ev.yes (by rw[Bool.true_or];rfl))
  | false =>
    refine Ev.if_neg (by decide) (Ev.bind w3 (Ev.yes ?_))
    rw[Bool.false_or]
    exact beq_self_eq_true _
theorem nots_j0 (a1 a2:Int) (l3 l4:List Int) (a5:Int) (g3:l3.length≤40) (g4:l4.length≤40) (w3:∀x∈l3,(Lit.int .u8 x).wf=true) (w4:∀x∈l4,(Lit.int .u8 x).wf=true) (r:RlM) (h:r.f4.length≤5) :
    Ev (fun k=>florinlaw07_EvalNots.j0 k a1 a2 l3 l4 a5 false r.f0 r.f1 r.f2 r.f3 r.f4) true:=by
  obtain⟨a,b,da,db,la,lb,eb,ea,hs,hof⟩:=made_ev l3 l4 (by omega) (by omega) w3 w4
  obtain⟨ok,ho⟩:=hof (Go.bits .and .i64 a5 15)
  obtain⟨r1,r2,r3⟩:=one_ok h
  have hall:=all_ev (one_few h) 0
  rw[one_out r] at hall
  have x1:=holds_ev ok (r:=rlN r) ⟨r1,by omega,by omega⟩
  have x2:=holds_ev ok (r:=⟨(rlN r).op,(rlN r).md,!(rlN r).nt,(rlN r).rs⟩) ⟨r1,by show(rlN r).md≤_;omega,by show(rlN r).rs.length≤_;omega⟩
  have hn:=EV.hold_not (opMade a b (Go.bits .and .i64 a5 15)) (rlN r)
  refine Ev.step (fun k=>florinlaw07_EvalNots.j0.eq_2 ..) (Ev.if_neg (by decide) (Ev.bind hall (Ev.if_pos (by show(0:Int)<1;omega) (Ev.if_pos (by show(0:Int)<1;omega) (Ev.if_pos (by show(0:Int)<1;omega) (Ev.bind hs (Ev.bind ho (Ev.bind x1 (Ev.bind x2 (Ev.if_neg ?_ (nots_j1 ok a1 a2 r1 r2 r3)))))))))))
  rw[hn]
  cases EV.hold (opMade a b (Go.bits .and .i64 a5 15)) ⟨(rlN r).op,(rlN r).md,!(rlN r).nt,(rlN r).rs⟩ <;> decide
end RR
theorem pureEvalNots (z0 z1 z2:Int) (z3:Bool) (z4:List RR.Num) (a1 a2:Int) (l3 l4:List Int) (a5:Int)
    (f0:(Lit.int .i64 z0).wf=true) (f1:(Lit.int .i64 z1).wf=true) (f2:(Lit.int .i64 z2).wf=true) (g1:(Lit.int .i64 a1).wf=true) (g2:(Lit.int .i64 a2).wf=true) (m3:l3.length≤maxLen) (y3:l3.length*1≤140737488351232) (w3:∀x∈l3,(Lit.int .u8 x).wf=true) (m4:l4.length≤maxLen) (y4:l4.length*1≤140737488351232) (w4:∀x∈l4,(Lit.int .u8 x).wf=true) (g5:(Lit.int .i64 a5).wf=true) :
    ∃k,florinlaw07_EvalNots.f k z0 z1 z2 z3 z4 a1 a2 l3 l4 a5=some true:=by
  refine Ev.rounds ?_
  unfold florinlaw07_EvalNots.f
  refine Ev.bind RR.head7_ev (Ev.if_pos rfl ?_)
  have yes:Ev (fun k=>florinlaw07_EvalNots.j0 k a1 a2 l3 l4 a5 true z0 z1 z2 z3 z4) true:=Ev.step (fun k=>florinlaw07_EvalNots.j0.eq_2 ..) (Ev.if_pos rfl (Ev.now _))
  by_cases g0:z4.length>5
  · exact Ev.if_pos (by omega) yes
  refine Ev.if_neg (by omega) ?_
  clear g1 g2
  by_cases g1:l3.length>40
  · exact Ev.if_pos (by omega) yes
  refine Ev.if_neg (by omega) ?_
  by_cases g2:l4.length>40
  · rw[show decide ((l4.length:Int)>40)=true from decide_eq_true (by omega)]
    exact yes
  rw[show decide ((l4.length:Int)>40)=false from decide_eq_false (by omega)]
  exact RR.nots_j0 a1 a2 l3 l4 a5 (by omega) (by omega) w3 w4 ⟨z0,z1,z2,z3,z4⟩ (by show z4.length≤5;omega)
end Go.Proofs.YtadagjgkanlmdaaGreatDoor.P
