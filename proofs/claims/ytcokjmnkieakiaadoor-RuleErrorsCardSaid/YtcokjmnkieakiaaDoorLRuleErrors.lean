import Derived.Test.YtcokjmnkieakiaaDoorSA
import Derived.KernelRfl
import Derived.Test.YtcokjmnkieakiaaDoorPx7
import Derived.Test.YtcokjmnkieakiaaDoorPx8
import Derived.Test.YtcokjmnkieakiaaDoorPx9
namespace Go.Proofs.YtcokjmnkieakiaaDoor.P
open Go.RowKit Go.Proofs.YtcokjmnkieakiaaDoorW.PrintWords Go.Proofs.YtcokjmnkieakiaaDoorW.PrintLast Go.Proofs.YtcokjmnkieakiaaDoorW.PrintMore Go.Proofs.YtcokjmnkieakiaaDoor.FM
set_option linter.unusedVariables false
set_option linter.unusedSimpArgs false

namespace RR
abbrev Tst:=S42
def tests:List (List UInt8 × Nat × Nat):=[([111,110,101],1,3),([115,111,109,101,58,32,110,32,61,32,49],1,0),([111,110,101,58,32,110,32,61,32,49,59,32,111,110,101,58,32,110,32,61,32,50],7,12),([111,110,101,58,32,120,32,61,32,49],1,5),([111,110,101,58,32,110,110,32,61,32,49],1,5),([111,110,101,58,32,110,32,49],1,7),([111,110,101,58,32,110,32,61,32],1,9),([111,110,101,58,32,110,32,61,32,48,49],1,9),([111,110,101,58,32,110,32,61,32,49,50,51,52,53,54,55,56,57,48],2,9),([111,110,101,58,32,110,32,37,32,48,32,61,32,49],3,9),([111,110,101,58,32,110,32,61,32,51,46,46,50],3,12),([111,110,101,58,32,110,32,61,32,49,32,97,110,100],1,14),([111,110,101,58,32,110,32,61,32,49,32,111,114,32,111,114],1,14),([111,110,101,58],1,4),([111,116,104,101,114,58,32,110,32,61,32,49],1,7),([111,110,101,58,32,110,32,61,32,49,32,120],1,11),([111,110,101,58,32,110,32,61,32,49,44],1,11),([111,110,101,58,32,110,32,61,32,49,46,46],1,12),([111,110,101,58,32,110,32,33,32,61,32,49],1,7),([59],1,0),([111,110,101,58,32,110,32,61,32,49,59,59],1,11),([111,116,104,101,114,58,32,64,97,59,32,111,116,104,101,114,58],7,11),([111,110,101,58,32,110,32,61,32,49,32,97,110,100,118,32,61,32,48],1,11),([122,101,114,111,32,110,32,61,32,49],1,5),([111,110,101,58,32,110,32,61,32,45,49],1,9),([111,110,101,58,32,110,32,37,32,49,48],1,11)]
def testR (x:List UInt8 × Nat × Nat):Tst:=⟨S x.1,(x.2.1:Int),(x.2.2:Int)⟩
def gives (n:Nat) (x:List UInt8 × Nat × Nat):Option (List S32 × Int × Int)→Bool
  | some ([],e,a)=>e==(x.2.1:Int)&&a==((n+x.2.2:Nat):Int)
  | _=>false
set_option maxRecDepth 100000 in
theorem head6_k (k:Nat):florinlaw06_head.f (k+60)=some true:=by kernel_rfl
theorem head6_ev:Ev (fun k=>florinlaw06_head.f k) true:=⟨60,fun k hk=>by obtain⟨j,rfl⟩:=Nat.exists_eq_add_of_le hk;rw[Nat.add_comm];exact head6_k j⟩
set_option maxRecDepth 100000 in
theorem tests_k (k:Nat):((List.range 8).all fun n=>tests.all fun x=>gives n x (rule_Parse.f (k+60) (S (List.replicate n 32++x.1))))=true:=by kernel_rfl
theorem tests_len:tests.all (fun x=>decide (x.1.length≤30))=true:=by decide +kernel
theorem tests_ev {n j:Nat} (hn:n≤7) (hj:j<tests.length):Ev (fun k=>rule_Parse.f k (S (List.replicate n 32++tests[j].1))) ([],(tests[j].2.1:Int),((n+tests[j].2.2:Nat):Int)):=by
  refine⟨60,fun k hk=>?_⟩
  obtain⟨i,rfl⟩:=Nat.exists_eq_add_of_le hk
  rw[Nat.add_comm]
  have h:=List.all_eq_true.1 (List.all_eq_true.1 (tests_k i) n (List.mem_range.2 (by omega))) tests[j] (List.getElem_mem hj)
  cases hp:rule_Parse.f (i+60) (S (List.replicate n 32++tests[j].1)) with
  | none=>rw[hp] at h;cases h
  | some r =>
    obtain⟨l,e,a⟩:=r
    rw[hp] at h
    cases l with
    | cons x l=>cases h
    | nil =>
      have h:=(Bool.and_eq_true _ _).mp h
      rw[beq_iff_eq,beq_iff_eq] at h
      exact hp.trans (by rw[h.1,h.2])
theorem errors_end (a0 a1:Int) (n:Nat) (hn:n≤7) (i:Int) (hi:¬i<Go.bits .and .i64 a1 7):Ev (fun k=>florinlaw06_RuleErrors.l0 k a0 a1 (S (List.replicate n 32)) i) true:=by
  obtain⟨j,hj,hj2⟩:∃j:Nat,wrap64 (Int.tmod (IntKind.u64.wrap a0) (IntKind.u64.wrap ((tests.map testR).length:Int)))=(j:Int)∧j<26:=by
    have e:IntKind.u64.wrap ((tests.map testR).length:Int)=26:=by rfl
    have h0:0≤IntKind.u64.wrap a0:=by rw[IntKind.wrap_u64];omega
    rw[e]
    have h1:=Int.tmod_lt_of_pos (IntKind.u64.wrap a0) (show(0:Int)<26 by decide)
    have h2:=Int.tmod_nonneg 26 h0
    exact⟨(Int.tmod (IntKind.u64.wrap a0) 26).toNat,by rw[w64 (by omega) (by omega)];omega,by omega⟩
  have hm:j<tests.length:=hj2
  have h2:=of_decide_eq_true (List.all_eq_true.1 tests_len tests[j] (List.getElem_mem hm))
  have h4:=tests_ev hn hm
  have hrd:rd_T42 (tests.map testR) (j:Int)=testR tests[j]:=by
    unfold rd_T42
    rw[Int.toNat_natCast,List.getD_eq_getElem?_getD,List.getElem?_map,List.getElem?_eq_getElem hm];rfl
  have hat:tests[j].2.2≤30:=of_decide_eq_true (List.all_eq_true.1 (show tests.all (fun x=>decide (x.2.2≤30))=true by decide +kernel) tests[j] (List.getElem_mem hm))
  generalize tests[j]=x at h2 h4 hrd hat
  obtain⟨s,e,at'⟩:=x
  dsimp only at h2 h4 hat
  refine Ev.step (f:=fun k=>(rule_Parse.f k (S (List.replicate n 32++s))).bind fun bt=>(if (bt.1.length:Int)=0 then (if bt.2.1=(e:Int) then (some (bt.2.2==(wrap64 (((S (List.replicate n 32)).size:Int)+(at':Int))))) else (none)) else (none))) (fun k=>?_) (Ev.bind h4 (Ev.if_pos rfl (Ev.if_pos rfl (Ev.yes ?_))))
  · rw[florinlaw06_RuleErrors.l0,_root_.if_neg hi,Option.bind_some]
    have e1:¬IntKind.u64.wrap ((tests.map testR).length:Int)=0:=by decide
    have e2:(j:Int)<((tests.map testR).length:Int):=by show(j:Int)<26;omega
    rw[show([(⟨(⟨#[111,110,101]⟩:ByteArray),1,3⟩:Tst),(⟨(⟨#[115,111,109,101,58,32,110,32,61,32,49]⟩:ByteArray),1,0⟩:Tst),(⟨(⟨#[111,110,101,58,32,110,32,61,32,49,59,32,111,110,101,58,32,110,32,61,32,50]⟩:ByteArray),7,12⟩:Tst),(⟨(⟨#[111,110,101,58,32,120,32,61,32,49]⟩:ByteArray),1,5⟩:Tst),(⟨(⟨#[111,110,101,58,32,110,110,32,61,32,49]⟩:ByteArray),1,5⟩:Tst),(⟨(⟨#[111,110,101,58,32,110,32,49]⟩:ByteArray),1,7⟩:Tst),(⟨(⟨#[111,110,101,58,32,110,32,61,32]⟩:ByteArray),1,9⟩:Tst),(⟨(⟨#[111,110,101,58,32,110,32,61,32,48,49]⟩:ByteArray),1,9⟩:Tst),(⟨(⟨#[111,110,101,58,32,110,32,61,32,49,50,51,52,53,54,55,56,57,48]⟩:ByteArray),2,9⟩:Tst),(⟨(⟨#[111,110,101,58,32,110,32,37,32,48,32,61,32,49]⟩:ByteArray),3,9⟩:Tst),(⟨(⟨#[111,110,101,58,32,110,32,61,32,51,46,46,50]⟩:ByteArray),3,12⟩:Tst),(⟨(⟨#[111,110,101,58,32,110,32,61,32,49,32,97,110,100]⟩:ByteArray),1,14⟩:Tst),(⟨(⟨#[111,110,101,58,32,110,32,61,32,49,32,111,114,32,111,114]⟩:ByteArray),1,14⟩:Tst),(⟨(⟨#[111,110,101,58]⟩:ByteArray),1,4⟩:Tst),(⟨(⟨#[111,116,104,101,114,58,32,110,32,61,32,49]⟩:ByteArray),1,7⟩:Tst),(⟨(⟨#[111,110,101,58,32,110,32,61,32,49,32,120]⟩:ByteArray),1,11⟩:Tst),(⟨(⟨#[111,110,101,58,32,110,32,61,32,49,44]⟩:ByteArray),1,11⟩:Tst),(⟨(⟨#[111,110,101,58,32,110,32,61,32,49,46,46]⟩:ByteArray),1,12⟩:Tst),(⟨(⟨#[111,110,101,58,32,110,32,33,32,61,32,49]⟩:ByteArray),1,7⟩:Tst),(⟨(⟨#[59]⟩:ByteArray),1,0⟩:Tst),(⟨(⟨#[111,110,101,58,32,110,32,61,32,49,59,59]⟩:ByteArray),1,11⟩:Tst),(⟨(⟨#[111,116,104,101,114,58,32,64,97,59,32,111,116,104,101,114,58]⟩:ByteArray),7,11⟩:Tst),(⟨(⟨#[111,110,101,58,32,110,32,61,32,49,32,97,110,100,118,32,61,32,48]⟩:ByteArray),1,11⟩:Tst),(⟨(⟨#[122,101,114,111,32,110,32,61,32,49]⟩:ByteArray),1,5⟩:Tst),(⟨(⟨#[111,110,101,58,32,110,32,61,32,45,49]⟩:ByteArray),1,9⟩:Tst),(⟨(⟨#[111,110,101,58,32,110,32,37,32,49,48]⟩:ByteArray),1,11⟩:Tst)]:List Tst)=tests.map testR from rfl]
    rw[_root_.if_neg e1,hj,hrd,_root_.if_pos (by omega),_root_.if_pos e2,_root_.if_pos (by show(S (List.replicate n 32)).size+(S s).size≤_;rw[S_size,S_size,List.length_replicate];omega)]
    show(rule_Parse.f k (S (List.replicate n 32)++S s)).bind _=_
    rw[S_append];rfl
  · dsimp only
    rw[S_size,List.length_replicate,w64 (by omega) (by omega),beq_iff_eq]
    omega
theorem errors_l0 (a0 a1:Int) (b:Nat) (hb:Go.bits .and .i64 a1 7=(b:Int)) (hb7:b≤7) (d:Nat):∀n:Nat,n+d=b→Ev (fun k=>florinlaw06_RuleErrors.l0 k a0 a1 (S (List.replicate n 32)) (n:Int)) true:=by
  induction d with
  | zero=>intro n hn;exact errors_end a0 a1 n (by omega) _ (by rw[hb];omega)
  | succ d ih =>
    intro n hn
    refine Ev.step (fun k=>?_) (ih (n+1) (by omega))
    rw[florinlaw06_RuleErrors.l0,hb,_root_.if_pos (by omega),_root_.if_pos (by rw[S_size,List.length_replicate];omega),show(⟨#[32]⟩:ByteArray)=S [32] from rfl,S_append,w64 (by omega) (by omega),List.replicate_succ']
    rfl
end RR
open RR
theorem pureRuleErrors (a0 a1:Int) (w0:(Lit.int .i64 a0).wf=true) (w1:(Lit.int .i64 a1).wf=true):∃k,florinlaw06_RuleErrors.f k a0 a1=some true:=by
  refine Ev.rounds ?_
  obtain⟨b,h1,h2⟩:=low64 3 (by omega) a1 7 (by decide)
  unfold florinlaw06_RuleErrors.f
  exact Ev.bind head6_ev (Ev.if_pos rfl (errors_l0 a0 a1 b h1 (by omega) b 0 (by omega)))
end Go.Proofs.YtcokjmnkieakiaaDoor.P
