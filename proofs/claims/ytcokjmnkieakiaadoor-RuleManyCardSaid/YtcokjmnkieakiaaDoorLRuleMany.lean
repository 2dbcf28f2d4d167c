import Derived.Test.YtcokjmnkieakiaaDoorSA
import Derived.KernelRfl
import Derived.Test.YtcokjmnkieakiaaDoorPx10
import Derived.Test.YtcokjmnkieakiaaDoorPx7
import Derived.Test.YtcokjmnkieakiaaDoorPx8
namespace Go.Proofs.YtcokjmnkieakiaaDoor.P
open Go.RowKit Go.Proofs.YtcokjmnkieakiaaDoorW.PrintWords Go.Proofs.YtcokjmnkieakiaaDoorW.PrintLast Go.Proofs.YtcokjmnkieakiaaDoorW.PrintMore Go.Proofs.YtcokjmnkieakiaaDoor.FM
set_option linter.unusedVariables false
set_option linter.unusedSimpArgs false

namespace RR
set_option maxRecDepth 100000 in
theorem head6_k (k:Nat):florinlaw06_head.f (k+60)=some true:=by kernel_rfl
theorem head6_ev:Ev (fun k=>florinlaw06_head.f k) true:=⟨60,fun k hk=>by obtain⟨j,rfl⟩:=Nat.exists_eq_add_of_le hk;rw[Nat.add_comm];exact head6_k j⟩
theorem set_rep (i n:Nat):(List.replicate i (32:Int)++List.replicate (n+1) 0).set i 32=List.replicate (i+1) 32++List.replicate n 0:=by
  rw[List.set_append_right _ _ (by simp),List.length_replicate,Nat.sub_self,List.replicate_succ,List.set_cons_zero,List.replicate_succ',List.append_assoc]
  rfl
theorem many_l1 (M:Nat) (hM:M≤4010):∀j i:Nat,i+j=M→Ev (fun k=>florinlaw06_RuleMany.l1 k (M:Int) (List.replicate i 32++List.replicate j 0) (M:Int) (i:Int)) true
  | 0,i,h=>by
    refine Ev.step (fun k=>florinlaw06_RuleMany.l1.eq_2 ..) (Ev.if_neg (by omega) ?_)
    have e:strOfNums (List.replicate i (32:Int)++List.replicate 0 0)=S (List.replicate i 32):=by
      rw[strOfNums_S,List.replicate_zero,List.append_nil,List.map_replicate];rfl
    rw[e]
    by_cases h4:M≤4000
    · exact Ev.bind (parse_ok (l:=List.replicate i 32) (by rw[List.length_replicate];omega) (parse_blank i)) (Ev.if_pos rfl (Ev.if_pos rfl (Ev.if_pos (by omega) (Ev.if_pos rfl (Ev.now _)))))
    · have hp:Ev (fun k=>rule_Parse.f k (S (List.replicate i 32))) ([],4,0):=by
        unfold rule_Parse.f
        exact Ev.if_pos (by rw[S_size,List.length_replicate];omega) (Ev.now _)
      exact Ev.bind hp (Ev.if_pos rfl (Ev.if_pos rfl (Ev.if_neg (by omega) (Ev.if_pos (by omega) (Ev.yes rfl)))))
  | j+1,i,h=>by
    refine Ev.step (fun k=>florinlaw06_RuleMany.l1.eq_2 ..) (Ev.if_pos (by omega) (Ev.if_pos (by omega) (Ev.if_pos (by simp;omega) ?_)))
    rw[Int.toNat_natCast,set_rep,w64 (by omega) (by omega)]
    exact many_l1 M hM j (i+1) (by omega)
theorem many_j1 (a1:Int):Ev (fun k=>florinlaw06_RuleMany.j1 k a1 false) true:=by
  obtain⟨b,h1,h2⟩:=low64 3 (by omega) a1 7 (by decide)
  have e:wrap64 (3996+Go.bits .and .i64 a1 7)=((3996+b:Nat):Int):=by rw[h1,w64 (by omega) (by omega)];omega
  refine Ev.step (fun k=>florinlaw06_RuleMany.j1.eq_2 ..) (Ev.if_neg (by decide) ?_)
  rw[e]
  refine Ev.if_pos (by omega) (Ev.if_pos (by rw[Int.toNat_natCast];omega) (Ev.const rfl ?_))
  rw[Int.toNat_natCast,List.length_replicate]
  exact many_l1 (3996+b) (by omega) (3996+b) 0 (by omega)
theorem many_l0 (a1:Int) (n:Nat) (hn:197≤n) (hn2:n≤204):∀j i:Nat,i+1+j=n→Ev (fun k=>florinlaw06_RuleMany.l0 k (n:Int) a1 (S (txt i)) ((i+1:Nat):Int)) true
  | 0,i,h=>by
    refine Ev.step (fun k=>florinlaw06_RuleMany.l0.eq_2 ..) (Ev.if_neg (by omega) ?_)
    by_cases h2:n≤200
    · refine Ev.bind (parse_ok (l:=txt i) (by rw[txt_len];omega) (parse_txt (d:=i) (by omega))) (Ev.if_pos (by omega) (Ev.if_pos rfl (Ev.if_pos rfl (Ev.if_pos (by show(0:Int)<((1:Nat):Int);decide) (Ev.if_pos ?_ (Ev.if_neg (by omega) (many_j1 a1)))))))
      show(((List.replicate (i+1) [(⟨110,0,false,[(1,1)]⟩:RG.Rl)]).map (fun a=>a.map toL)).length:Int)=(n:Int)
      rw[List.length_map,List.length_replicate];omega
    · exact Ev.bind (parse_many (d:=i) (by omega) (by omega)) (Ev.if_neg (by omega) (Ev.if_pos (by omega) (Ev.if_pos rfl (many_j1 a1))))
  | j+1,i,h=>by
    refine Ev.step (fun k=>florinlaw06_RuleMany.l0.eq_2 ..) (Ev.if_pos (by omega) (Ev.if_pos (by rw[S_size,txt_len];omega) ?_))
    rw[txt_end,w64 (by omega) (by omega)]
    exact many_l0 a1 n hn hn2 j (i+1) (by omega)
end RR
open RR
theorem pureRuleMany (a0 a1:Int) (w0:(Lit.int .i64 a0).wf=true) (w1:(Lit.int .i64 a1).wf=true):∃k,florinlaw06_RuleMany.f k a0 a1=some true:=by
  refine Ev.rounds ?_
  obtain⟨b,h1,h2⟩:=low64 3 (by omega) a0 7 (by decide)
  have e:wrap64 (197+Go.bits .and .i64 a0 7)=((197+b:Nat):Int):=by rw[h1,w64 (by omega) (by omega)];omega
  unfold florinlaw06_RuleMany.f
  refine Ev.bind head6_ev (Ev.if_pos rfl ?_)
  rw[e]
  exact many_l0 a1 (197+b) (by omega) (by omega) (196+b) 0 (by omega)
end Go.Proofs.YtcokjmnkieakiaaDoor.P
