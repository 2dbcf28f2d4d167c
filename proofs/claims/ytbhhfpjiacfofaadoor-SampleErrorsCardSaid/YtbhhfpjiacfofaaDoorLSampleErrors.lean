import Derived.Test.YtbhhfpjiacfofaaDoorSA
import Derived.KernelRfl
import Derived.Test.YtbhhfpjiacfofaaDoorPx5
import Derived.Test.YtbhhfpjiacfofaaDoorPx7
import Derived.Test.YtbhhfpjiacfofaaDoorPx8
namespace Go.Proofs.YtbhhfpjiacfofaaDoor.P
open Go.RowKit Go.Proofs.YtbhhfpjiacfofaaDoorW.PrintWords Go.Proofs.YtbhhfpjiacfofaaDoorW.PrintLast Go.Proofs.YtbhhfpjiacfofaaDoorW.PrintMore Go.Proofs.YtbhhfpjiacfofaaDoor.FM
set_option linter.unusedVariables false
set_option linter.unusedSimpArgs false

namespace SR
abbrev Tst:=S47
def tests:List (List UInt8 × Nat × Nat):=[([49],1,0),([64,105,110,116,101,103,101,114],1,8),([64,105,110,116,101,103,101,114,32,49,46,53],1,9),([64,105,110,116,101,103,101,114,32,49,44],1,11),([64,105,110,116,101,103,101,114,32,49,44,32,226,128,166,44,32,50],1,15),([64,105,110,116,101,103,101,114,32,50,126,49],3,11),([64,100,101,99,105,109,97,108,32,49,46,48,126,50,46,48,48],3,13),([64,105,110,116,101,103,101,114,32,49,99,51,126,50,99,51],3,13),([64,105,110,116,101,103,101,114,32,48,126,49,48,48,48],4,11),([64,105,110,116,101,103,101,114,32,48,126,57,57,57,57,57,57,57,57,57,57,57,57,57,57,57,57,57,57,57,57],4,11),([64,100,101,99,105,109,97,108,32,48,46,48,48,126,49,48,46,48,48],4,14),([64,100,101,99,105,109,97,108,115,32,49],1,8),([64,105,110,116,101,103,101,114,32,49,32,50],1,11),([64,105,110,116,101,103,101,114,32,49,99,50,48,48,48,48],2,9),([64,105,110,116,101,103,101,114,32,49,126],1,11),([64,105,110,116,101,103,101,114,32,126,49],1,9),([64,105,110,116,101,103,101,114,32,49,64,100,101,99,105,109,97,108],1,18),([64,105,110,116,101,103,101,114,32,49,46,50,99,48],1,9)]
def testR (x:List UInt8 × Nat × Nat):Tst:=⟨S x.1,(x.2.1:Int),(x.2.2:Int)⟩
def gives (n:Nat) (x:List UInt8 × Nat × Nat):Option (List S35 × Int × Int)→Bool
  | some ([],e,a)=>e==(x.2.1:Int)&&a==((n+x.2.2:Nat):Int)
  | _=>false
set_option maxRecDepth 100000 in
theorem head8_k (k:Nat):florinlaw08_head.f (k+60)=some true:=by kernel_rfl
theorem head8_ev:Ev (fun k=>florinlaw08_head.f k) true:=⟨60,fun k hk=>by obtain⟨j,rfl⟩:=Nat.exists_eq_add_of_le hk;rw[Nat.add_comm];exact head8_k j⟩
set_option maxRecDepth 100000 in
theorem tests_k (k:Nat):((List.range 8).all fun n=>tests.all fun x=>gives n x (sample_Parse.f (k+100) (S (List.replicate n 32++x.1))))=true:=by kernel_rfl
theorem tests_len:tests.all (fun x=>decide (x.1.length≤40))=true:=by decide +kernel
theorem tests_ev {n j:Nat} (hn:n≤7) (hj:j<tests.length):Ev (fun k=>sample_Parse.f k (S (List.replicate n 32++tests[j].1))) ([],(tests[j].2.1:Int),((n+tests[j].2.2:Nat):Int)):=by
  refine⟨100,fun k hk=>?_⟩
  obtain⟨i,rfl⟩:=Nat.exists_eq_add_of_le hk
  rw[Nat.add_comm]
  have h:=List.all_eq_true.1 (List.all_eq_true.1 (tests_k i) n (List.mem_range.2 (by omega))) tests[j] (List.getElem_mem hj)
  cases hp:sample_Parse.f (i+100) (S (List.replicate n 32++tests[j].1)) with
  | none=>rw[hp] at h;cases h
  | some r =>
    obtain⟨l,e,a⟩:=r
    rw[hp] at h
    cases l with
    | cons x l=>cases h
    | nil =>
      have h:=(Bool.and_eq_true _ _).mp h
      rw[beq_iff_eq,beq_iff_eq] at h
      show sample_Parse.f (i+100) (S (List.replicate n 32++tests[j].1))=_
      rw[hp,h.1,h.2]
theorem errors_end (a0 a1:Int) (n:Nat) (hn:n≤7) (i:Int) (hi:¬i<Go.bits .and .i64 a1 7):Ev (fun k=>florinlaw08_SampleErrors.l0 k a0 a1 (S (List.replicate n 32)) i) true:=by
  obtain⟨j,hj,hj2⟩:∃j:Nat,wrap64 (Int.tmod (IntKind.u64.wrap a0) (IntKind.u64.wrap ((tests.map testR).length:Int)))=(j:Int)∧j<18:=by
    have e:IntKind.u64.wrap ((tests.map testR).length:Int)=18:=by rfl
    have h0:0≤IntKind.u64.wrap a0:=by rw[IntKind.wrap_u64];omega
    rw[e]
    have h1:=Int.tmod_lt_of_pos (IntKind.u64.wrap a0) (show(0:Int)<18 by decide)
    have h2:=Int.tmod_nonneg 18 h0
    exact⟨(Int.tmod (IntKind.u64.wrap a0) 18).toNat,by rw[w64 (by omega) (by omega)];omega,by omega⟩
  have hm:j<tests.length:=hj2
  have h2:=of_decide_eq_true (List.all_eq_true.1 tests_len tests[j] (List.getElem_mem hm))
  have h4:=tests_ev hn hm
  have hrd:rd_T47 (tests.map testR) (j:Int)=testR tests[j]:=by
    unfold rd_T47
    rw[Int.toNat_natCast,List.getD_eq_getElem?_getD,List.getElem?_map,List.getElem?_eq_getElem hm];rfl
  have hat:tests[j].2.2≤30:=of_decide_eq_true (List.all_eq_true.1 (show tests.all (fun x=>decide (x.2.2≤30))=true by decide +kernel) tests[j] (List.getElem_mem hm))
  generalize tests[j]=x at h2 h4 hrd hat
  obtain⟨s,e,at'⟩:=x
  dsimp only at h2 h4 hat
  refine Ev.step (f:=fun k=>(sample_Parse.f k (S (List.replicate n 32++s))).bind fun bt=>(if (bt.1.length:Int)=0 then (if bt.2.1=(e:Int) then (some (bt.2.2==(wrap64 (((S (List.replicate n 32)).size:Int)+(at':Int))))) else (none)) else (none))) (fun k=>?_) (Ev.bind h4 (Ev.if_pos rfl (Ev.if_pos rfl (Ev.yes ?_))))
  · rw[florinlaw08_SampleErrors.l0,_root_.if_neg hi,Option.bind_some]
    have e1:¬IntKind.u64.wrap ((tests.map testR).length:Int)=0:=by decide
    have e2:(j:Int)<((tests.map testR).length:Int):=by show(j:Int)<18;omega
    rw[show([(⟨(⟨#[49]⟩:ByteArray),1,0⟩:Tst),(⟨(⟨#[64,105,110,116,101,103,101,114]⟩:ByteArray),1,8⟩:Tst),(⟨(⟨#[64,105,110,116,101,103,101,114,32,49,46,53]⟩:ByteArray),1,9⟩:Tst),(⟨(⟨#[64,105,110,116,101,103,101,114,32,49,44]⟩:ByteArray),1,11⟩:Tst),(⟨(⟨#[64,105,110,116,101,103,101,114,32,49,44,32,226,128,166,44,32,50]⟩:ByteArray),1,15⟩:Tst),(⟨(⟨#[64,105,110,116,101,103,101,114,32,50,126,49]⟩:ByteArray),3,11⟩:Tst),(⟨(⟨#[64,100,101,99,105,109,97,108,32,49,46,48,126,50,46,48,48]⟩:ByteArray),3,13⟩:Tst),(⟨(⟨#[64,105,110,116,101,103,101,114,32,49,99,51,126,50,99,51]⟩:ByteArray),3,13⟩:Tst),(⟨(⟨#[64,105,110,116,101,103,101,114,32,48,126,49,48,48,48]⟩:ByteArray),4,11⟩:Tst),(⟨(⟨#[64,105,110,116,101,103,101,114,32,48,126,57,57,57,57,57,57,57,57,57,57,57,57,57,57,57,57,57,57,57,57]⟩:ByteArray),4,11⟩:Tst),(⟨(⟨#[64,100,101,99,105,109,97,108,32,48,46,48,48,126,49,48,46,48,48]⟩:ByteArray),4,14⟩:Tst),(⟨(⟨#[64,100,101,99,105,109,97,108,115,32,49]⟩:ByteArray),1,8⟩:Tst),(⟨(⟨#[64,105,110,116,101,103,101,114,32,49,32,50]⟩:ByteArray),1,11⟩:Tst),(⟨(⟨#[64,105,110,116,101,103,101,114,32,49,99,50,48,48,48,48]⟩:ByteArray),2,9⟩:Tst),(⟨(⟨#[64,105,110,116,101,103,101,114,32,49,126]⟩:ByteArray),1,11⟩:Tst),(⟨(⟨#[64,105,110,116,101,103,101,114,32,126,49]⟩:ByteArray),1,9⟩:Tst),(⟨(⟨#[64,105,110,116,101,103,101,114,32,49,64,100,101,99,105,109,97,108]⟩:ByteArray),1,18⟩:Tst),(⟨(⟨#[64,105,110,116,101,103,101,114,32,49,46,50,99,48]⟩:ByteArray),1,9⟩:Tst)]:List Tst)=tests.map testR from rfl]
    rw[_root_.if_neg e1,hj,hrd,_root_.if_pos (by omega),_root_.if_pos e2,_root_.if_pos (by show(S (List.replicate n 32)).size+(S s).size≤_;rw[S_size,S_size,List.length_replicate];omega)]
    show(sample_Parse.f k (S (List.replicate n 32)++S s)).bind _=_
    rw[S_append];rfl
  · dsimp only
    rw[S_size,List.length_replicate,w64 (by omega) (by omega),beq_iff_eq]
    omega
theorem errors_l0 (a0 a1:Int) (b:Nat) (hb:Go.bits .and .i64 a1 7=(b:Int)) (hb7:b≤7) (d:Nat):∀n:Nat,n+d=b→Ev (fun k=>florinlaw08_SampleErrors.l0 k a0 a1 (S (List.replicate n 32)) (n:Int)) true:=by
  induction d with
  | zero=>intro n hn;exact errors_end a0 a1 n (by omega) _ (by rw[hb];omega)
  | succ d ih =>
    intro n hn
    refine Ev.step (fun k=>?_) (ih (n+1) (by omega))
    rw[florinlaw08_SampleErrors.l0,hb,_root_.if_pos (by omega),_root_.if_pos (by rw[S_size,List.length_replicate];omega),show(⟨#[32]⟩:ByteArray)=S [32] from rfl,S_append,w64 (by omega) (by omega),List.replicate_succ']
    rfl
end SR
open SR
theorem pureSampleErrors (a0 a1:Int) (w0:(Lit.int .i64 a0).wf=true) (w1:(Lit.int .i64 a1).wf=true):∃k,florinlaw08_SampleErrors.f k a0 a1=some true:=by
  refine Ev.rounds ?_
  obtain⟨b,h1,h2⟩:=low64 3 (by omega) a1 7 (by decide)
  unfold florinlaw08_SampleErrors.f
  exact Ev.bind head8_ev (Ev.if_pos rfl (errors_l0 a0 a1 b h1 (by omega) b 0 (by omega)))
end Go.Proofs.YtbhhfpjiacfofaaDoor.P
