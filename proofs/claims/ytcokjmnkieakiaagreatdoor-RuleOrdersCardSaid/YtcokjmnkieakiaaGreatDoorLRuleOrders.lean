import Derived.Test.YtcokjmnkieakiaaGreatDoorSA
import Derived.Test.YtcokjmnkieakiaaGreatDoorPx15
namespace Go.Proofs.YtcokjmnkieakiaaGreatDoor.P
open Go.RowKit Go.Proofs.YtcokjmnkieakiaaGreatDoorW.PrintWords Go.Proofs.YtcokjmnkieakiaaGreatDoorW.PrintLast Go.Proofs.YtcokjmnkieakiaaGreatDoorW.PrintMore Go.Proofs.YtcokjmnkieakiaaGreatDoor.FM
set_option linter.unusedVariables false
set_option linter.unusedSimpArgs false

namespace RR
def turnT:Nat→List RG.Ru→List UInt8
  | _,[]=>[]
  | i,z::zs=>(if i=0 then [] else [59])++(RG.wrRule z++turnT (i+1) zs)
theorem turnT_ne:∀(l:List RG.Ru) (i j:Nat),i≠0→j≠0→turnT i l=turnT j l
  | [],_,_,_,_=>rfl
  | x::l,i,j,hi,hj=>by rw[turnT,turnT,_root_.if_neg hi,_root_.if_neg hj,turnT_ne l (i+1) (j+1) (by omega) (by omega)]
theorem turnT_w:∀(l:List RG.Ru),(∀x∈l,RG.WfU x)→RG.WRules l (turnT 0 l)
  | [],_=>RG.Bl_nil
  | [x],h=>⟨[],RG.wrRule x,[],RG.Bl_nil,RG.WRule_wr (h x (by simp)),.inl rfl,by simp[turnT]⟩
  | x::y::l,h=>by
    refine⟨[],RG.wrRule x,turnT 0 (y::l),RG.Bl_nil,RG.WRule_wr (h x (by simp)),turnT_w (y::l) (fun z hz=>h z (by simp[hz])),?_⟩
    rw[turnT,turnT,turnT,turnT_ne l (0+1+1) (0+1) (by omega) (by omega)]
    simp only[_root_.if_true,_root_.if_neg (show ¬(0+1=0) by omega)]
    simp
theorem total_app (a b:List RG.Ru):RG.total (a++b)=RG.total a+RG.total b:=by unfold RG.total;rw[List.map_append,List.sum_append]
def turn (kk:Nat) (l:List RG.Ru):List RG.Ru:=l.drop kk++l.take kk
theorem turn_get {l:List RG.Ru} {kk i:Nat} (hk:kk≤l.length) (hi:i<l.length):(turn kk l)[i]? = l[(i+kk)%l.length]? :=by
  unfold turn
  by_cases h:i<l.length-kk
  · rw[List.getElem?_append_left (by rw[List.length_drop];exact h),List.getElem?_drop,Nat.mod_eq_of_lt (by omega),Nat.add_comm]
  · rw[List.getElem?_append_right (by rw[List.length_drop];omega),List.length_drop,List.getElem?_take,_root_.if_pos (by omega)]
    have e:(i+kk)%l.length=i-(l.length-kk):=by
      rw[show i+kk=(i-(l.length-kk))+l.length by omega,Nat.add_mod_right,Nat.mod_eq_of_lt (by omega)]
    rw[e]
theorem turn_len (kk:Nat) (l:List RG.Ru) (hk:kk≤l.length):(turn kk l).length=l.length:=by unfold turn;rw[List.length_append,List.length_drop,List.length_take];omega
theorem turn_perm (kk:Nat) (l:List RG.Ru):(turn kk l).Perm l:=by
  unfold turn
  have h:=List.perm_append_comm (l₁:=l.drop kk) (l₂:=l.take kk)
  rw[List.take_append_drop] at h
  exact h
theorem turn_total (kk:Nat) (l:List RG.Ru):RG.total (turn kk l)=RG.total l:=by
  unfold turn
  rw[total_app,Nat.add_comm, ← total_app,List.take_append_drop]
theorem orders_loop {l:List RG.Ru} {kk:Nat} (h8:l.length≤8) (hk:kk<max l.length 1) (hw:∀x∈l,RG.WfU x∧SmR x∧(RG.wrRule x).length≤2800) (hn:RG.total l≤200) (hd:(l.map (·.cat)).Nodup) :
    ∀(zs:List RG.Ru) (i:Nat) (s:List UInt8) (acc:List RG.Ru),(turn kk l).drop i=zs→acc++zs=turn kk l→acc.length=i→s++turnT i zs=turnT 0 (turn kk l)→s.length≤3000*i →
    Ev (fun k=>florinlaw06_RuleOrders.l0 k (l.map toU) ((max l.length 1:Nat):Int) (kk:Int) (acc.map toU) (S s) (l.length:Int) (i:Int)) true
  | [],i,s,acc,hz,he,hi,ht,hs=>by
    have hkl:kk≤l.length:=by omega
    have hle:=drop_nil_le hz
    rw[turn_len kk l hkl] at hle
    rw[List.append_nil] at he
    have ht':s=turnT 0 (turn kk l):=by rw[← ht];simp[turnT]
    refine Ev.step (fun k=>florinlaw06_RuleOrders.l0.eq_2 ..) (Ev.if_neg (by omega) ?_)
    rw[S_size]
    by_cases hl:s.length≤4000
    · have hp:=turn_perm kk l
      have hmem:∀x∈turn kk l,x∈l:=fun x hx=>hp.mem_iff.1 hx
      have hparse:RG.parse s= .ok (turn kk l):=by
        rw[ht']
        exact RG.parse_w (turnT_w _ (fun x hx=>(hw x (hmem x hx)).1)) (by rw[turn_total];exact hn) ((hp.map _).nodup_iff.2 hd)
      rw[he]
      refine Ev.if_neg (by omega) (Ev.bind (parse_ok hl hparse) (Ev.if_pos rfl (Ev.bind (same_ev ?_ ?_) (Ev.now _))))
      · rw[List.length_map,turn_len kk l hkl];omega
      · intro x hx
        obtain⟨y,hy,rfl⟩:=List.mem_map.1 hx
        exact SmU_toU (hw y (hmem y hy)).2.1
    · exact Ev.if_pos (by omega) (Ev.now _)
  | z::zs,i,s,acc,hz,he,hi,ht,hs=>by
    obtain⟨_,hil,hz2⟩:=getD_drop z hz
    have hl0:0<l.length:=by
      unfold turn at hil
      rw[List.length_append,List.length_drop,List.length_take] at hil
      omega
    have hkl:kk≤l.length:=by omega
    rw[turn_len kk l hkl] at hil
    have hm:max l.length 1=l.length:=by omega
    have hzi:l[(i+kk)%l.length]? = some z:=by
      rw[← turn_get hkl hil]
      have:(turn kk l)[i]? = ((turn kk l).drop i)[0]? :=by rw[List.getElem?_drop];simp
      rw[this,hz];rfl
    have hzm:z∈l:=List.mem_of_getElem? hzi
    obtain⟨w1,w2,w3⟩:=hw z hzm
    have hj:=Nat.mod_lt (i+kk) hl0
    have hrd:rd_T39 (l.map toU) (((i+kk)%l.length:Nat):Int)=toU z:=by
      unfold rd_T39
      rw[Int.toNat_natCast,List.getD_eq_getElem?_getD,List.getElem?_map,hzi];rfl
    have hidx:Int.tmod (wrap64 ((i:Int)+(kk:Int))) ((max l.length 1:Nat):Int)=(((i+kk)%l.length:Nat):Int):=by
      rw[hm,w64 (by omega) (by omega),show((i:Int)+(kk:Int))=((i+kk:Nat):Int) by omega]
      exact(Int.ofNat_tmod _ _).symm
    have c1:(i:Int)<(l.length:Int):=by omega
    have c2:¬(((max l.length 1:Nat):Int)=0):=by omega
    have c3:(0:Int)≤(((i+kk)%l.length:Nat):Int):=by omega
    have c4:(((i+kk)%l.length:Nat):Int)<((l.map toU).length:Int):=by rw[List.length_map];omega
    have c5:(acc.map toU).length<2932031007402:=by rw[List.length_map];omega
    have b1:s.length+1≤9223372036854775807:=by omega
    have b2:(s++[59]).length+(RG.wrRule z).length≤9223372036854775807:=by simp only[List.length_append,List.length_cons,List.length_nil];omega
    have b3:s.length+(RG.wrRule z).length≤9223372036854775807:=by omega
    have b4:(s++((if i=0 then [] else [59])++RG.wrRule z)).length≤3000*(i+1):=by
      simp only[List.length_append]
      have:(if i=0 then [] else [59]:List UInt8).length≤1:=by split <;> simp
      omega
    have hwi:=w_succ (i:=i) (by omega)
    have ih:=orders_loop (l:=l) (kk:=kk) h8 hk hw hn hd zs (i+1) (s++((if i=0 then [] else [59])++RG.wrRule z)) (acc++[z]) hz2 (by rw[← he];simp) (by rw[List.length_append,List.length_singleton];omega) (by rw[← ht,turnT];simp) b4
    have hstr:=rule_str w1 (Nat.le_trans w3 (by decide))
    refine Ev.step (fun k=>florinlaw06_RuleOrders.l0.eq_2 ..) (Ev.if_pos c1 (Ev.if_neg c2 ?_))
    rw[hidx,hrd,hwi]
    clear hidx hrd hwi b4 hj hzi hm
    refine Ev.if_pos c3 (Ev.if_pos c4 (Ev.if_pos c5 (Ev.const rfl ?_)))
    rw[show(⟨#[59]⟩:ByteArray)=S [59] from rfl]
    rw[List.map_append,List.map_cons,List.map_nil] at ih
    by_cases h0:i=0
    · rw[_root_.if_pos h0,List.nil_append] at ih
      refine Ev.if_neg (by omega) (Ev.bind hstr ?_)
      simp only[S_append,S_size]
      exact Ev.if_pos b3 ih
    · rw[_root_.if_neg h0] at ih
      have e3:s++([59]++RG.wrRule z)=(s++[59])++RG.wrRule z:=by simp
      rw[e3] at ih
      refine Ev.if_pos (by omega) (Ev.if_pos (by rw[S_size];exact b1) (Ev.bind hstr ?_))
      simp only[S_append,S_size]
      exact Ev.if_pos b2 ih
end RR
theorem pureRuleOrders (l0:List RR.Mad) (a1:Int) (w1:(Lit.int .i64 a1).wf=true):∃k,florinlaw06_RuleOrders.f k l0 a1=some true:=by
  refine Ev.rounds ?_
  unfold florinlaw06_RuleOrders.f
  refine Ev.bind RR.head_ev (Ev.if_pos rfl ?_)
  obtain⟨b,h1,h2⟩:=RR.few_ev l0
  refine Ev.bind h1 ?_
  cases b with
  | false=>exact Ev.if_neg (by decide) (Ev.now _)
  | true =>
    have hF:=h2 rfl
    obtain⟨o1,o2,o3,o4⟩:=RR.out_few hF
    have hmx:mx (((RR.allOut l0).map RR.toU).length:Int) 1=((max (RR.allOut l0).length 1:Nat):Int):=by
      rw[List.length_map]
      unfold mx
      split <;> omega
    have hu:IntKind.u64.wrap ((max (RR.allOut l0).length 1:Nat):Int)=((max (RR.allOut l0).length 1:Nat):Int):=by rw[IntKind.wrap_u64];omega
    obtain⟨kk,hk1,hk2⟩:=RR.umod a1 ((max (RR.allOut l0).length 1:Nat):Int) (by omega) (by omega)
    refine Ev.if_pos rfl (Ev.bind (RR.all_ev hF 0) ?_)
    dsimp only
    rw[hmx,hu,hk1,List.length_map]
    have key:=RR.orders_loop (l:=RR.allOut l0) (kk:=kk) o1 (by omega) o2 o3 o4 (RR.turn kk (RR.allOut l0)) 0 [] [] rfl rfl rfl rfl (by simp)
    exact Ev.if_neg (by omega) key
end Go.Proofs.YtcokjmnkieakiaaGreatDoor.P
