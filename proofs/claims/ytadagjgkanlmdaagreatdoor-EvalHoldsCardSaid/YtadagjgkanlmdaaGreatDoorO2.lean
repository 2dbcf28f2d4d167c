import Derived.Test.YtadagjgkanlmdaaGreatDoorDA
import Derived.Test.YtadagjgkanlmdaaGreatDoorSA
import Derived.Test.YtadagjgkanlmdaaGreatDoorPx1
import Derived.Test.YtadagjgkanlmdaaGreatDoorPx9
namespace Go.Proofs.YtadagjgkanlmdaaGreatDoor.P
open Go.RowKit Go.Proofs.YtadagjgkanlmdaaGreatDoorW.PrintWords Go.Proofs.YtadagjgkanlmdaaGreatDoorW.PrintLast Go.Proofs.YtadagjgkanlmdaaGreatDoorW.PrintMore Go.Proofs.YtadagjgkanlmdaaGreatDoor.FM
set_option linter.unusedVariables false
set_option linter.unusedSimpArgs false

theorem cutL_not {c:UInt8} {s:List UInt8} (h:c∉s) (l:List UInt8):cutL (c::l) s=(c::(cutL l s).1,(cutL l s).2.1,(cutL l s).2.2):=by
  unfold cutL
  rw[List.dropWhile_cons_of_pos (by simpa using h),List.takeWhile_cons_of_pos (by simpa using h)]
  cases l.dropWhile (fun c=>¬c∈s) with
  | nil=>rfl
  | cons d t=>rfl
theorem cutL_in {c:UInt8} {s:List UInt8} (h:c∈s) (l:List UInt8):cutL (c::l) s=([],l,true):=by
  rw[cutL_cons,_root_.if_pos h]
theorem cutL_none {s:List UInt8}:∀l:List UInt8,(∀c∈l,c∉s)→cutL l s=(l,[],false)
  | [],_=>rfl
  | c::l,h=>by rw[cutL_not (h c List.mem_cons_self),cutL_none l (fun d hd=>h d (List.mem_cons_of_mem _ hd))]
theorem cutL_mid {s:List UInt8} {c:UInt8} (y:List UInt8) (hc:c∈s):∀x:List UInt8,(∀c∈x,c∉s)→cutL (x++c::y) s=(x,y,true)
  | [],_=>cutL_in hc y
  | d::x,h=>by rw[List.cons_append,cutL_not (h d List.mem_cons_self),cutL_mid y hc x (fun e he=>h e (List.mem_cons_of_mem _ he))]
theorem dig_not_ce {l:List UInt8} (h:Dig l):∀c∈l,c∉([99,101]:List UInt8):=by
  intro c hc hm
  have:=h c hc
  simp only[List.mem_cons,List.not_mem_nil,or_false] at hm
  rcases hm with rfl|rfl
  · exact absurd this.2 (by decide)
  · exact absurd this.2 (by decide)
theorem dig_not_pt {l:List UInt8} (h:Dig l):∀c∈l,c∉([46]:List UInt8):=by
  intro c hc hm
  have:=h c hc
  simp only[List.mem_cons,List.not_mem_nil,or_false] at hm
  subst hm
  exact absurd this.1 (by decide)
theorem OpBare_ev (l:List UInt8) (hl:l.length≤9223372036854775807):operand_bare.f (S l)=some (S (tr l)):=by
  unfold operand_bare.f
  rw[TrimRight_zero l hl];rfl
theorem Shown_ev (l0 l1:List Int) (h0:l0.length≤1000000) (h1:l1.length≤1000000) (w0:∀x∈l0,(Lit.int .u8 x).wf=true) (w1:∀x∈l1,(Lit.int .u8 x).wf=true) :
    ∃a b,Dig a∧Dig b∧a.length≤l0.length+1∧b.length=l1.length∧b=digs l1∧nvl a=nvl (digs l0)∧Ev (fun k=>florinlaw05_Shown.f k l0 l1) (false,S a,S b):=by
  by_cases h:digs l0=[]∧digs l1=[]
  · refine⟨[48],digs l1,by unfold Dig;decide,digs_dig l1,by simp,digs_length l1,rfl,by rw[h.1];rfl,?_⟩
    unfold florinlaw05_Shown.f
    refine Ev.bind (Digits_ev l0 (by omega) w0) (Ev.bind (Digits_ev l1 (by omega) w1) (Ev.if_pos (by rw[S_toList];exact h.1) (Ev.if_pos (by rw[S_toList];exact h.2) (Ev.now _))))
  · refine⟨digs l0,digs l1,digs_dig l0,digs_dig l1,by rw[digs_length];omega,digs_length l1,rfl,rfl,?_⟩
    unfold florinlaw05_Shown.f
    refine Ev.bind (Digits_ev l0 (by omega) w0) (Ev.bind (Digits_ev l1 (by omega) w1) ?_)
    by_cases ha:digs l0=[]
    · exact Ev.if_pos (by rw[S_toList];exact ha) (Ev.if_neg (by rw[S_toList];exact fun hb=>h ⟨ha,hb⟩) (Ev.now _))
    · exact Ev.if_neg (by rw[S_toList];exact ha) (Ev.now _)
theorem ofInt_lt (a b:List UInt8) (da:Dig a) (db:Dig b) (e:Int):ofInt a b e<10 ^ (a.length+ofE e):=by
  unfold ofInt
  have h:=nvl_lt (da.append (db.take (ofN b e)))
  have hle:ofN b e≤ofE e:=by unfold ofN;omega
  have hle2:ofN b e≤b.length:=by unfold ofN;omega
  obtain⟨n,hn⟩:∃n,ofN b e=n:=⟨_,rfl⟩
  obtain⟨E,hE⟩:∃n,ofE e=n:=⟨_,rfl⟩
  rw[hn] at h hle hle2 ⊢
  rw[hE] at hle ⊢
  rw[List.length_append,List.length_take,Nat.min_eq_left hle2] at h
  have e1:a.length+E=(a.length+n)+(E-n):=by omega
  rw[e1,Nat.pow_add]
  exact Nat.mul_lt_mul_of_pos_right h (Nat.pow_pos (by decide))
theorem of_twice (a b:List UInt8) (e f:Nat) (he:e<16) (hf:f<16) :
    ofInt (mkl (ofInt a b (e:Int))) (b.drop (ofN b (e:Int))) (f:Int)=ofInt a b ((e+f:Nat):Int)∧(b.drop (ofN b (e:Int))).drop (ofN (b.drop (ofN b (e:Int))) (f:Int))=b.drop (ofN b ((e+f:Nat):Int)):=by
  have E1:ofE (e:Int)=e:=by unfold ofE;omega
  have E2:ofE (f:Int)=f:=by unfold ofE;omega
  have E3:ofE ((e+f:Nat):Int)=e+f:=by unfold ofE;omega
  unfold ofInt
  rw[nvl_append (mkl _),nvl_mkl]
  unfold ofN
  rw[E1,E2,E3,List.drop_drop,List.length_drop]
  rcases Nat.lt_or_ge b.length e with h|h
  · rw[Nat.min_eq_right (by omega:b.length≤e),Nat.min_eq_right (by omega:b.length≤e+f),Nat.sub_self,Nat.min_zero,List.take_zero,List.drop_length]
    refine⟨?_,by simp⟩
    rw[show nvl ([]:List UInt8)=0 from rfl,List.length_nil,Nat.pow_zero,Nat.mul_one,Nat.add_zero,Nat.sub_zero,Nat.mul_assoc, ← Nat.pow_add,show e-b.length+f=e+f-b.length by omega]
  · rw[Nat.min_eq_left h,show min (e+f) b.length=e+min f (b.length-e) by omega]
    refine⟨?_,rfl⟩
    rw[List.take_add, ← List.append_assoc,nvl_append (a++b.take e),Nat.sub_self,Nat.pow_zero,Nat.mul_one,show e+f-(e+min f (b.length-e))=f-min f (b.length-e) by omega]
end Go.Proofs.YtadagjgkanlmdaaGreatDoor.P
