import Derived.Test.YtcokjmnkieakiaaDoorSA
import Derived.Test.YtcokjmnkieakiaaDoorPx1
import Derived.Test.YtcokjmnkieakiaaDoorPx5
namespace Go.Proofs.YtcokjmnkieakiaaDoor.P
open Go.RowKit Go.Proofs.YtcokjmnkieakiaaDoorW.PrintWords Go.Proofs.YtcokjmnkieakiaaDoorW.PrintLast Go.Proofs.YtcokjmnkieakiaaDoorW.PrintMore Go.Proofs.YtcokjmnkieakiaaDoor.FM
set_option linter.unusedVariables false
set_option linter.unusedSimpArgs false

namespace RR
def wordsL:List ByteArray:=[(⟨#[122,101,114,111]⟩:ByteArray),(⟨#[111,110,101]⟩:ByteArray),(⟨#[116,119,111]⟩:ByteArray),(⟨#[102,101,119]⟩:ByteArray),(⟨#[109,97,110,121]⟩:ByteArray),(⟨#[111,116,104,101,114]⟩:ByteArray)]
theorem words_at {i:Nat} (h:i<6):rdOf ByteArray.empty wordsL (i:Int)=S (RG.cats.getD i []):=by
  match i,h with
  | 0,_=>rfl
  | 1,_=>rfl
  | 2,_=>rfl
  | 3,_=>rfl
  | 4,_=>rfl
  | 5,_=>rfl
theorem cat_out {n:Int} (h:n<0∨6≤n):rule_Cat_String.f n=some (S []):=by
  unfold rule_Cat_String.f
  rcases h with h|h
  · have c1:n<0:=h
    simp[c1]
    rfl
  · have c1:¬n<0:=by omega
    have c2:n>5:=by omega
    simp[c1,c2]
    rfl
def isF (l:List UInt8) (c:Int):List Nat→Bool→Bool
  | [],b=>b
  | i::is,b=>isF l c is (if RG.cats.getD i []=l then c==(i:Int) else b)
theorem words_loop {l w:List UInt8} {x0 c:Int} {ok:Bool} (hS:rule_Cat_String.f x0=some (S w)) (hc:ok=true∨c=0):∀(is:List Nat) (i:Nat) (b:Bool),is=List.range' i is.length→i+is.length=6→ok=isF l c is b →
    Ev (fun k=>florinlaw06_RuleWords.l0 k x0 (S l) (S w) c ok b wordsL 6 (i:Int)) true
  | [],i,b,h1,h2,h3=>by
    rw[List.length_nil] at h2
    refine Ev.step (fun k=>florinlaw06_RuleWords.l0.eq_2 ..) (Ev.if_neg (by omega) (Ev.const hS (Ev.if_pos rfl (Ev.if_pos ?_ ?_))))
    · rw[h3]
      exact beq_self_eq_true _
    · cases ok with
      | true=>exact Ev.if_pos rfl (Ev.now _)
      | false =>
        rcases hc with hc|hc
        · cases hc
        · exact Ev.if_neg (by decide) (Ev.yes (by rw[hc];rfl))
  | j::is,i,b,h1,h2,h3=>by
    rw[List.length_cons,List.range'_succ] at h1
    injection h1 with h4 h5
    subst h4
    rw[List.length_cons] at h2
    have hj:j<6:=by omega
    have hco:=catOf_ev (RG.cats.getD j [])
    have hidx:RG.cats.idxOf? (RG.cats.getD j [])=some j:=by
      match j,hj with
      | 0,_=>decide
      | 1,_=>decide
      | 2,_=>decide
      | 3,_=>decide
      | 4,_=>decide
      | 5,_=>decide
    rw[hidx] at hco
    have hw:wrap64 ((j:Int)+1)=((j+1:Nat):Int):=by rw[w64 (by omega) (by omega)];omega
    refine Ev.step (fun k=>florinlaw06_RuleWords.l0.eq_2 ..) (Ev.if_pos (by omega) (Ev.if_pos (by omega) (Ev.if_pos (by show(j:Int)<6;omega) ?_)))
    rw[words_at hj,S_toList,S_toList,hw]
    rw[isF] at h3
    by_cases e:RG.cats.getD j []=l
    · rw[_root_.if_pos e] at h3
      exact Ev.if_pos e (Ev.bind hco (Ev.if_pos rfl (Ev.if_pos rfl (words_loop hS hc is (j+1) _ h5 (by omega) h3))))
    · rw[_root_.if_neg e] at h3
      exact Ev.if_neg e (Ev.bind hco (Ev.if_pos rfl (Ev.if_pos rfl (words_loop hS hc is (j+1) _ h5 (by omega) h3))))
theorem words_j1 (l w:List UInt8) (x0:Int) (hS:rule_Cat_String.f x0=some (S w)):Ev (fun k=>florinlaw06_RuleWords.j1 k x0 (S l) wordsL (S w)) true:=by
  have hco:=catOf_ev l
  refine Ev.step (fun k=>florinlaw06_RuleWords.j1.eq_2 ..) ?_
  by_cases hm:l∈RG.cats
  · simp only[RG.cats,List.mem_cons,List.not_mem_nil,or_false] at hm
    rcases hm with rfl|rfl|rfl|rfl|rfl|rfl
    · exact Ev.bind hco (words_loop hS (.inl rfl) [0,1,2,3,4,5] 0 false rfl rfl (by decide))
    · exact Ev.bind hco (words_loop hS (.inl rfl) [0,1,2,3,4,5] 0 false rfl rfl (by decide))
    · exact Ev.bind hco (words_loop hS (.inl rfl) [0,1,2,3,4,5] 0 false rfl rfl (by decide))
    · exact Ev.bind hco (words_loop hS (.inl rfl) [0,1,2,3,4,5] 0 false rfl rfl (by decide))
    · exact Ev.bind hco (words_loop hS (.inl rfl) [0,1,2,3,4,5] 0 false rfl rfl (by decide))
    · exact Ev.bind hco (words_loop hS (.inl rfl) [0,1,2,3,4,5] 0 false rfl rfl (by decide))
  · have hn:RG.cats.idxOf? l=none:=by
      rw[List.idxOf?_eq_none_iff]
      exact hm
    rw[hn] at hco
    refine Ev.bind hco (words_loop hS (.inr rfl) [0,1,2,3,4,5] 0 false rfl rfl ?_)
    have hne:∀i:Nat,i<6→¬RG.cats.getD i []=l:=by
      intro i hi e
      apply hm
      rw[← e,List.getD_eq_getElem?_getD,List.getElem?_eq_getElem (show i<RG.cats.length from hi)]
      exact List.getElem_mem _
    simp only[isF,hne 0 (by decide),hne 1 (by decide),hne 2 (by decide),hne 3 (by decide),hne 4 (by decide),hne 5 (by decide),if_false]
end RR
theorem pureRuleWords (a0:Int) (a1:ByteArray) (w0:(Lit.int .i64 a0).wf=true) (w1:a1.size≤140737488351232):∃k,florinlaw06_RuleWords.f k a0 a1=some true:=by
  refine Ev.rounds ?_
  unfold florinlaw06_RuleWords.f
  rw[S_of a1]
  refine Ev.bind RR.head_ev (Ev.if_pos rfl (Ev.const rfl ?_))
  have out:(a0<0∨6≤a0)→Ev (fun k=>florinlaw06_RuleWords.j0 k a0 (S a1.data.toList) RR.wordsL (S []) false) true:=fun h =>
    Ev.step (fun k=>florinlaw06_RuleWords.j0.eq_2 ..) (Ev.if_neg (by decide) (RR.words_j1 _ [] a0 (RR.cat_out h)))
  by_cases h0:a0≥0
  · refine Ev.if_pos h0 ?_
    by_cases h6:a0<6
    · rw[decide_eq_true h6]
      obtain⟨n,rfl⟩:∃n:Nat,a0=(n:Int):=⟨a0.toNat,by omega⟩
      have hn:n<6:=by omega
      refine Ev.step (fun k=>florinlaw06_RuleWords.j0.eq_2 ..) (Ev.if_pos rfl (Ev.if_pos (by omega) (Ev.if_pos (by show(n:Int)<6;omega) ?_)))
      have e:=RR.words_at hn
      show Ev (fun k=>florinlaw06_RuleWords.j1 k (n:Int) (S a1.data.toList) RR.wordsL (rdOf ByteArray.empty RR.wordsL (n:Int))) true
      rw[e]
      exact RR.words_j1 _ _ _ (RR.cat_str hn)
    · rw[decide_eq_false h6]
      exact out (.inr (by omega))
  · exact Ev.if_neg h0 (out (.inl (by omega)))
end Go.Proofs.YtcokjmnkieakiaaDoor.P
