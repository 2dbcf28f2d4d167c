import Derived.Test.YtadagjgkanlmdaaGreatDoorSB
import Derived.Test.YtadagjgkanlmdaaGreatDoorPx13
namespace Go.Proofs.YtadagjgkanlmdaaGreatDoor.P
open Go.RowKit Go.Proofs.YtadagjgkanlmdaaGreatDoorW.PrintWords Go.Proofs.YtadagjgkanlmdaaGreatDoorW.PrintLast Go.Proofs.YtadagjgkanlmdaaGreatDoorW.PrintMore Go.Proofs.YtadagjgkanlmdaaGreatDoor.FM
set_option linter.unusedVariables false
set_option linter.unusedSimpArgs false

namespace RR
def turn (kk:Nat) (l:List RG.Ru):List RG.Ru:=l.drop kk++l.take kk
theorem turn_get {l:List RG.Ru} {kk i:Nat} (hk:kk≤l.length) (hi:i<l.length):(turn kk l)[i]? = l[(i+kk)%l.length]? :=by
  unfold turn
  by_cases h:i<l.length-kk
  · rw[List.getElem?_append_left (by rw[List.length_drop];exact h),List.getElem?_drop,Nat.mod_eq_of_lt (by omega),Nat.add_comm]
  · rw[List.getElem?_append_right (by rw[List.length_drop];omega),List.length_drop,List.getElem?_take,_root_.if_pos (by omega)]
    have e:(i+kk)%l.length=i-(l.length-kk):=by
      rw[show i+kk=(i-(l.length-kk))+l.length by omega,Nat.add_mod_right,Nat.mod_eq_of_lt (by omega)]
    rw[e]
theorem turn_len (kk:Nat) (l:List RG.Ru) (hk:kk≤l.length):(turn kk l).length=l.length:=by unfold turn;rw[List.length_append,List.length_drop,List.length_take];omega
theorem turn_perm (kk:Nat) (l:List RG.Ru):(turn kk l).Perm l:=by
  unfold turn
  have h:=List.perm_append_comm (l₁:=l.drop kk) (l₂:=l.take kk)
  rw[List.take_append_drop] at h
  exact h
theorem eorders_loop {o:EV.Op} (ho:OkO o) {l:List RG.Ru} {kk:Nat} (h8:l.length≤8) (hk:kk<max l.length 1) (hw:∀x∈l,OkU x) (h6:∀x∈l,x.cat<6) :
    ∀(us zs:List RG.Ru) (i:Nat) (acc sm:List RG.Ru),l.drop i=us→(turn kk l).drop i=zs→acc++zs=turn kk l→acc.length=i→sm++EV.some' o us=EV.some' o l→sm.length≤i →
    Ev (fun k=>florinlaw07_EvalOrders.l0 k (l.map toU) ((EV.pick o 5 l:Nat):Int) (acc.map toU) (sm.map toU) ((max l.length 1:Nat):Int) (kk:Int) (l.length:Int) (i:Int) (S (mkl o.n)) (S o.f) (o.e:Int)) true
  | [],zs,i,acc,sm,hu,hz,he,hi,hs,hsl=>by
    have hkl:kk≤l.length:=by
      have:=drop_nil_le hu
      omega
    have hle:=drop_nil_le hu
    have hzn:zs=[]:=by rw[← hz];exact List.drop_eq_nil_of_le (by rw[turn_len kk l hkl];exact hle)
    subst hzn
    rw[List.append_nil] at he
    have hs':sm=EV.some' o l:=by rw[← hs];simp[EV.some']
    have hp:=turn_perm kk l
    have ht:EV.pick o 5 acc=EV.pick o 5 l:=by rw[he];exact EV.pick_congr o (fun x _ _=>hp.mem_iff)
    have hsm:EV.pick o 5 sm=EV.pick o 5 l:=by rw[hs'];exact EV.pick_some o l
    have hal:acc.length≤1000000:=by rw[he,turn_len kk l hkl];omega
    have e1:=pick_ev ho (l:=acc) hal (fun x hx=>hw x (hp.mem_iff.1 (by rw[← he];exact hx)))
    have e2:=pick_ev ho (l:=sm) (by omega) (fun x hx=>hw x (by rw[hs'] at hx;unfold EV.some' at hx;exact(List.mem_filter.1 hx).1))
    rw[ht] at e1
    rw[hsm] at e2
    refine Ev.step (fun k=>florinlaw07_EvalOrders.l0.eq_2 ..) (Ev.if_neg (by omega) (Ev.bind e1 (Ev.if_pos rfl (Ev.bind e2 (Ev.if_pos rfl (Ev.yes ?_))))))
    have hn:=EV.pick_none o h6
    rw[← hs'] at hn
    have q1:(((EV.pick o 5 l:Nat):Int)==5)=decide (EV.pick o 5 l=5):=by
      by_cases h5:EV.pick o 5 l=5
      · rw[h5];rfl
      · rw[decide_eq_false h5];exact beq_eq_false_iff_ne.2 (by omega)
    have q2:(((sm.map toU).length:Int)==0)=decide (sm.length=0):=by
      rw[List.length_map]
      by_cases h5:sm.length=0
      · rw[h5];rfl
      · rw[decide_eq_false h5];exact beq_eq_false_iff_ne.2 (by omega)
    rw[q1,q2,hn]
    exact beq_self_eq_true _
  | u::us,zs,i,acc,sm,hu,hz,he,hi,hs,hsl=>by
    obtain⟨_,hil,hu2⟩:=getD_drop u hu
    have hl0:0<l.length:=by omega
    have hkl:kk≤l.length:=by omega
    have hm:max l.length 1=l.length:=by omega
    obtain⟨z,zs',rfl⟩:∃z zs',zs=z::zs':=by
      cases zs with
      | nil =>
        have:=drop_nil_le hz
        rw[turn_len kk l hkl] at this
        omega
      | cons z zs'=>exact⟨z,zs',rfl⟩
    obtain⟨_,_,hz2⟩:=getD_drop z hz
    have hzi:l[(i+kk)%l.length]? = some z:=by
      rw[← turn_get hkl hil]
      have:(turn kk l)[i]? = ((turn kk l).drop i)[0]? :=by rw[List.getElem?_drop];simp
      rw[this,hz];rfl
    have hum:u∈l:=List.mem_of_mem_drop (i:=i) (by rw[hu];exact List.mem_cons_self)
    have hj:=Nat.mod_lt (i+kk) hl0
    have hrd:rd_T41 (l.map toU) (((i+kk)%l.length:Nat):Int)=toU z:=by
      unfold rd_T41
      rw[Int.toNat_natCast,List.getD_eq_getElem?_getD,List.getElem?_map,hzi];rfl
    have hidx:Int.tmod (wrap64 ((i:Int)+(kk:Int))) ((max l.length 1:Nat):Int)=(((i+kk)%l.length:Nat):Int):=by
      rw[hm,w64 (by omega) (by omega),show((i:Int)+(kk:Int))=((i+kk:Nat):Int) by omega]
      exact(Int.ofNat_tmod _ _).symm
    have hru:rd_T41 (l.map toU) (i:Int)=toU u:=rdU' (zs:=us.map toU) (by rw[← List.map_drop,hu,List.map_cons])
    have c1:(i:Int)<(l.length:Int):=by omega
    have c2:¬(((max l.length 1:Nat):Int)=0):=by omega
    have c3:(0:Int)≤(((i+kk)%l.length:Nat):Int):=by omega
    have c4:(((i+kk)%l.length:Nat):Int)<((l.map toU).length:Int):=by rw[List.length_map];omega
    have c5:(acc.map toU).length<2932031007402:=by rw[List.length_map];omega
    have c6:(0:Int)≤(i:Int):=by omega
    have c7:(i:Int)<((l.map toU).length:Int):=by rw[List.length_map];omega
    have c8:(sm.map toU).length<2932031007402:=by rw[List.length_map];omega
    have hwi:=w_succ (i:=i) (by omega)
    have hacc:(acc++[z])++zs'=turn kk l:=by rw[← he];simp
    have ih:=fun sm' h1 h2=>eorders_loop ho (l:=l) (kk:=kk) h8 hk hw h6 us zs' (i+1) (acc++[z]) sm' hu2 hz2 hacc (by rw[List.length_append,List.length_singleton];omega) h1 h2
    refine Ev.step (fun k=>florinlaw07_EvalOrders.l0.eq_2 ..) (Ev.if_pos c1 (Ev.if_neg c2 ?_))
    rw[hidx,hrd,hwi,hru]
    clear hidx hrd hwi hru
    refine Ev.if_pos c3 (Ev.if_pos c4 (Ev.if_pos c5 (Ev.const rfl (Ev.if_pos c6 (Ev.if_pos c7 (Ev.bind (meets_ev ho (hw u hum)) ?_))))))
    have hss:EV.some' o (u::us)=if (EV.meet o u&&decide (u.cat≠5))=true then u::EV.some' o us else EV.some' o us:=by
      unfold EV.some'
      rw[List.filter_cons]
    rw[hss] at hs
    rw[List.map_append,List.map_cons,List.map_nil] at ih
    cases hmt:EV.meet o u with
    | false =>
      rw[hmt] at hs
      exact Ev.if_neg (by decide) (ih sm hs (by omega))
    | true =>
      rw[hmt] at hs
      refine Ev.if_pos rfl ?_
      by_cases h5:u.cat=5
      · rw[h5] at hs
        exact Ev.if_pos (show(u.cat:Int)=5 by omega) (ih sm hs (by omega))
      · have hd5:(true&&decide (u.cat≠5))=true:=by rw[Bool.true_and];exact decide_eq_true h5
        rw[_root_.if_pos hd5] at hs
        have:=ih (sm++[u]) (by rw[← hs];simp) (by rw[List.length_append,List.length_singleton];omega)
        rw[List.map_append,List.map_cons,List.map_nil] at this
        exact Ev.if_neg (show ¬(u.cat:Int)=5 by omega) (Ev.if_pos c8 this)
end RR
theorem pureEvalOrders (l0:List RR.Mad) (l1 l2:List Int) (a3 a4:Int) (m1:l1.length≤maxLen) (y1:l1.length*1≤140737488351232) (w1:∀x∈l1,(Lit.int .u8 x).wf=true) (m2:l2.length≤maxLen) (y2:l2.length*1≤140737488351232) (w2:∀x∈l2,(Lit.int .u8 x).wf=true)
    (f3:(Lit.int .i64 a3).wf=true) (f4:(Lit.int .i64 a4).wf=true):∃k,florinlaw07_EvalOrders.f k l0 l1 l2 a3 a4=some true:=by
  refine Ev.rounds ?_
  unfold florinlaw07_EvalOrders.f
  refine Ev.bind RR.head7_ev (Ev.if_pos rfl ?_)
  obtain⟨b,h1,h2⟩:=RR.few_ev l0
  refine Ev.bind h1 ?_
  have yes:Ev (fun k=>florinlaw07_EvalOrders.j0 k l0 l1 l2 a3 a4 true) true:=Ev.step (fun k=>florinlaw07_EvalOrders.j0.eq_2 ..) (Ev.if_pos rfl (Ev.now _))
  cases b with
  | false=>exact Ev.if_neg (by decide) yes
  | true =>
    have hF:=h2 rfl
    refine Ev.if_pos rfl ?_
    by_cases g1:l1.length>40
    · exact Ev.if_pos (by omega) yes
    refine Ev.if_neg (by omega) ?_
    by_cases g2:l2.length>40
    · rw[show decide ((l2.length:Int)>40)=true from decide_eq_true (by omega)]
      exact yes
    rw[show decide ((l2.length:Int)>40)=false from decide_eq_false (by omega)]
    obtain⟨a,b,da,db,la,lb,eb,ea,hs,hof⟩:=RR.made_ev l1 l2 (by omega) (by omega) w1 w2
    obtain⟨ok,ho⟩:=hof (Go.bits .and .i64 a3 15)
    obtain⟨o1,o2,o3⟩:=RR.OkU_all hF
    have hmx:mx (((RR.allOut l0).map RR.toU).length:Int) 1=((max (RR.allOut l0).length 1:Nat):Int):=by
      rw[List.length_map]
      unfold mx
      split <;> omega
    have hu:IntKind.u64.wrap ((max (RR.allOut l0).length 1:Nat):Int)=((max (RR.allOut l0).length 1:Nat):Int):=by rw[IntKind.wrap_u64];omega
    obtain⟨kk,hk1,hk2⟩:=RR.umod a4 ((max (RR.allOut l0).length 1:Nat):Int) (by omega) (by omega)
    refine Ev.step (fun k=>florinlaw07_EvalOrders.j0.eq_2 ..) (Ev.if_neg (by decide) (Ev.bind hs (Ev.bind ho (Ev.bind (RR.all_ev hF 0) (Ev.bind (RR.pick_ev ok (by omega) o2) ?_)))))
    dsimp only
    rw[hmx,hu,hk1,List.length_map]
    have key:=RR.eorders_loop ok (l:=RR.allOut l0) (kk:=kk) o1 (by omega) o2 o3 (RR.allOut l0) (RR.turn kk (RR.allOut l0)) 0 [] [] rfl rfl rfl rfl rfl (Nat.le_refl _)
    exact Ev.if_neg (by omega) key
end Go.Proofs.YtadagjgkanlmdaaGreatDoor.P
