import Derived.Test.YtcokjmnkieakiaaGreatDoorSA
import Derived.Test.YtcokjmnkieakiaaGreatDoorPx13
namespace Go.Proofs.YtcokjmnkieakiaaGreatDoor.P
open Go.RowKit Go.Proofs.YtcokjmnkieakiaaGreatDoorW.PrintWords Go.Proofs.YtcokjmnkieakiaaGreatDoorW.PrintLast Go.Proofs.YtcokjmnkieakiaaGreatDoorW.PrintMore Go.Proofs.YtcokjmnkieakiaaGreatDoor.FM
set_option linter.unusedVariables false
set_option linter.unusedSimpArgs false

theorem pureRuleGrammar (l0:List RR.Mad) (a1:Int) (w1:(Lit.int .i64 a1).wf=true):∃k,florinlaw06_RuleGrammar.f k l0 a1=some true:=by
  refine Ev.rounds ?_
  unfold florinlaw06_RuleGrammar.f
  refine Ev.bind RR.head_ev (Ev.if_pos rfl ?_)
  obtain⟨b,h1,h2⟩:=RR.few_ev l0
  refine Ev.bind h1 ?_
  cases b with
  | false=>exact Ev.if_neg (by decide) (Ev.now _)
  | true =>
    have hF:=h2 rfl
    refine Ev.if_pos rfl (Ev.bind (RR.all_ev hF a1) ?_)
    dsimp only
    rw[S_size]
    by_cases hl:(RR.allTxt l0 a1).length≤4000
    · refine Ev.if_neg (by omega) (Ev.bind (RR.parse_ok hl (RR.all_parse hF a1)) (Ev.if_pos rfl (Ev.if_pos rfl (Ev.bind (RR.same_ev ?_ ?_) (Ev.now _)))))
      · obtain⟨h3,_,_⟩:=RR.selM_sub l0 []
        have h8:=hF.1
        unfold RR.allOut
        rw[List.length_map,List.length_map]
        omega
      · intro x hx
        obtain⟨y,hy,rfl⟩:=List.mem_map.1 hx
        obtain⟨m,hm,rfl⟩:=List.mem_map.1 hy
        obtain⟨_,h3,_⟩:=RR.selM_sub l0 []
        exact RR.SmU_toU (RR.SmR_few (hF.2 m (h3 m hm).1))
    · exact Ev.if_pos (by omega) (Ev.now _)
end Go.Proofs.YtcokjmnkieakiaaGreatDoor.P
