import Derived.Test.YtcokjmnkieakiaaGreatDoorSA
import Derived.Test.YtcokjmnkieakiaaGreatDoorPx14
namespace Go.Proofs.YtcokjmnkieakiaaGreatDoor.P
open Go.RowKit Go.Proofs.YtcokjmnkieakiaaGreatDoorW.PrintWords Go.Proofs.YtcokjmnkieakiaaGreatDoorW.PrintLast Go.Proofs.YtcokjmnkieakiaaGreatDoorW.PrintMore Go.Proofs.YtcokjmnkieakiaaGreatDoor.FM
set_option linter.unusedVariables false
set_option linter.unusedSimpArgs false

theorem pureRuleAgain (l0:List RR.Mad):∃k,florinlaw06_RuleAgain.f k l0=some true:=by
  refine Ev.rounds ?_
  unfold florinlaw06_RuleAgain.f
  refine Ev.bind RR.head_ev (Ev.if_pos rfl ?_)
  obtain⟨b,h1,h2⟩:=RR.few_ev l0
  refine Ev.bind h1 ?_
  cases b with
  | false=>exact Ev.if_neg (by decide) (Ev.now _)
  | true =>
    have hF:=h2 rfl
    obtain⟨o1,o2,o3,o4⟩:=RR.out_few hF
    have hw:=RR.wr_str (fun x hx=>(o2 x hx).1) (RR.wr_len o1 (fun x hx=>(o2 x hx).2.2))
    refine Ev.if_pos rfl (Ev.bind (RR.all_ev hF 0) (Ev.bind hw ?_))
    rw[S_size]
    by_cases hl:(RG.wr (RR.allOut l0)).length≤4000
    · refine Ev.if_neg (by omega) (Ev.bind (RR.parse_ok hl (RG.parse_wr (fun x hx=>(o2 x hx).1) o3 o4)) (Ev.if_pos rfl (Ev.bind (RR.same_ev ?_ ?_) (Ev.if_pos rfl (Ev.bind hw (Ev.yes (by simp)))))))
      · rw[List.length_map];omega
      · intro x hx
        obtain⟨y,hy,rfl⟩:=List.mem_map.1 hx
        exact RR.SmU_toU (o2 y hy).2.1
    · exact Ev.if_pos (by omega) (Ev.now _)
end Go.Proofs.YtcokjmnkieakiaaGreatDoor.P
