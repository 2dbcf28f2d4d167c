namespace Go.Proofs.YtcokjmnkieakiaaDoor.FM
/-- the value of digits -/
def nvl (l:List UInt8):Nat:=l.foldl (fun a c=>10*a+(c.toNat-48)) 0
def Dig (l:List UInt8):Prop:=∀c∈l,48≤c.toNat∧c.toNat≤57
instance (l:List UInt8):Decidable (Dig l):=inferInstanceAs (Decidable (∀c∈l,48≤c.toNat∧c.toNat≤57))

theorem foldl_shift (l:List UInt8) (a:Nat):l.foldl (fun a c=>10*a+(c.toNat-48)) a=a*10 ^ l.length+nvl l:=by
  induction l generalizing a with
  | nil=>simp[nvl]
  | cons c l ih =>
    simp only[nvl,List.foldl_cons,List.length_cons]
    rw[ih,ih (10*0+_)]
    simp only[Nat.mul_zero,Nat.zero_add,Nat.pow_succ]
    rw[Nat.add_mul,Nat.add_assoc]
    congr 1
    rw[Nat.mul_comm 10 a,Nat.mul_assoc,Nat.mul_comm 10]

@[simp] theorem nvl_nil:nvl []=0:=rfl
theorem nvl_append (a b:List UInt8):nvl (a++b)=nvl a*10 ^ b.length+nvl b:=by
  unfold nvl;rw[List.foldl_append,foldl_shift];rfl
theorem nvl_cons (c:UInt8) (l:List UInt8):nvl (c::l)=(c.toNat-48)*10 ^ l.length+nvl l:=by
  have:=nvl_append [c] l
  simpa [nvl] using this
theorem nvl_snoc (l:List UInt8) (c:UInt8):nvl (l++[c])=10*nvl l+(c.toNat-48):=by
  rw[nvl_append];simp[nvl];omega

theorem Dig.nil:Dig []:=by intro c h;cases h
theorem Dig.take {a:List UInt8} (h:Dig a) (n:Nat):Dig (a.take n):=fun c hc=>h c (List.mem_of_mem_take hc)
theorem Dig.drop {a:List UInt8} (h:Dig a) (n:Nat):Dig (a.drop n):=fun c hc=>h c (List.mem_of_mem_drop hc)

/-- the digits of a number; none of nought -/
def mkl (n:Nat):List UInt8:=if _h:n=0 then [] else mkl (n/10)++[UInt8.ofNat (48+n%10)]
  termination_by n
  decreasing_by omega

@[simp] theorem mkl_zero:mkl 0=[]:=by unfold mkl;simp
theorem mkl_pos {n:Nat} (h:0<n):mkl n=mkl (n/10)++[UInt8.ofNat (48+n%10)]:=by
  rw[mkl];rw[dif_neg (by omega)]
theorem ofNat_toNat {n:Nat} (h:n<256):(UInt8.ofNat n).toNat=n:=by simp;omega
@[simp] theorem nvl_mkl (n:Nat):nvl (mkl n)=n:=by
  induction n using Nat.strongRecOn with
  | ind n ih =>
    rcases Nat.eq_zero_or_pos n with rfl|h
    · simp
    · rw[mkl_pos h,nvl_snoc,ih _ (by omega),ofNat_toNat (by omega)];omega
end Go.Proofs.YtcokjmnkieakiaaDoor.FM
namespace Go.Proofs.YtcokjmnkieakiaaDoor.FM

/-- noughts -/
def zs (k:Nat):List UInt8:=List.replicate k 48
@[simp] theorem zs_length (k:Nat):(zs k).length=k:=by simp[zs]
@[simp] theorem zs_zero:zs 0=[]:=rfl
theorem zs_succ (k:Nat):zs (k+1)=48::zs k:=rfl
@[simp] theorem nvl_zs (k:Nat):nvl (zs k)=0:=by
  induction k with
  | zero=>rfl
  | succ k ih=>rw[zs_succ,nvl_cons,ih];simp
end Go.Proofs.YtcokjmnkieakiaaDoor.FM
namespace Go.Proofs.YtcokjmnkieakiaaDoor.FM

end Go.Proofs.YtcokjmnkieakiaaDoor.FM
namespace Go.Proofs.YtcokjmnkieakiaaDoor.FM

end Go.Proofs.YtcokjmnkieakiaaDoor.FM
namespace Go.Proofs.YtcokjmnkieakiaaDoor.FM

end Go.Proofs.YtcokjmnkieakiaaDoor.FM
namespace Go.Proofs.YtcokjmnkieakiaaDoor.FM
/-! digits from the end on -/
def DI (l:List Int):Prop:=∀c∈l,48≤c∧c≤57
theorem DI.nil:DI []:=by intro c h;cases h
end Go.Proofs.YtcokjmnkieakiaaDoor.FM
namespace Go.Proofs.YtcokjmnkieakiaaDoor.FM
end Go.Proofs.YtcokjmnkieakiaaDoor.FM
namespace Go.Proofs.YtcokjmnkieakiaaDoor.FM

end Go.Proofs.YtcokjmnkieakiaaDoor.FM
namespace Go.Proofs.YtcokjmnkieakiaaDoor.FM
/-! sums -/

end Go.Proofs.YtcokjmnkieakiaaDoor.FM
namespace Go.Proofs.YtcokjmnkieakiaaDoor.FM
/-! the digits ahead of the point and behind it -/

end Go.Proofs.YtcokjmnkieakiaaDoor.FM
namespace Go.Proofs.YtcokjmnkieakiaaDoor.FM
/-! rounding, as the program does it -/

end Go.Proofs.YtcokjmnkieakiaaDoor.FM
namespace Go.Proofs.YtcokjmnkieakiaaDoor.FM
/-! the modes that go one way alone -/
end Go.Proofs.YtcokjmnkieakiaaDoor.FM
namespace Go.Proofs.YtcokjmnkieakiaaDoor.FM
/-! what is shown: rounding to places that hang on the first digit -/
/-! the digits that are shown -/
end Go.Proofs.YtcokjmnkieakiaaDoor.FM
namespace Go.Proofs.YtcokjmnkieakiaaDoor.FM
/-! rules' texts, as they are read: in plain lists of bytes -/
namespace RG
abbrev T:=List UInt8
def sk (t:T):T:=t.dropWhile (· ==32)
inductive Er|form|long|arg|cat|many
  deriving DecidableEq,Repr
structure Rl where
  op:UInt8
  md:Nat
  nt:Bool
  rs:List (Nat × Nat)
  deriving DecidableEq,Repr
structure Ru where
  cat:Nat
  any:List (List Rl)
  smp:T
  deriving DecidableEq,Repr
def dig (c:UInt8):Bool:=48≤c.toNat&&c.toNat≤57
def low (c:UInt8):Bool:=97≤c.toNat&&c.toNat≤122
def tk (w t:T):Option T:=if w <+:sk t then some ((sk t).drop w.length) else none
def value (t:T):Except (Er × T) (Nat × T) :=
  let d:=(sk t).takeWhile dig
  if d=[]∨(1<d.length∧d.head? = some 48) then .error (.form,sk t)
  else if 9<d.length then .error (.long,sk t)
  else .ok (nvl d,(sk t).drop d.length)
def span (t:T):Except (Er × T) ((Nat × Nat) × T):=match value t with
  | .error e=> .error e
  | .ok (lo,u)=>match tk [46,46] u with
    | none=> .ok ((lo,lo),sk u)
    | some v=>match value v with
      | .error e=> .error e
      | .ok (hi,x)=>if hi<lo then .error (.arg,sk v) else .ok ((lo,hi),x)
def spans:Nat→T→List (Nat × Nat)→Except (Er × T) (List (Nat × Nat) × T)
  | 0,t,_=> .error (.form,t)
  | n+1,t,acc=>match span t with
    | .error e=> .error e
    | .ok (x,u)=>match tk [44] u with
      | none=> .ok (acc++[x],sk u)
      | some v=>spans n v (acc++[x])
def ops:T:=[110,105,118,119,102,116,99,101]
def word (t:T):T:=(sk t).takeWhile low
def modq (u:T):Except (Er × T) (Nat × T):=match tk [37] u with
  | none=> .ok (0,sk u)
  | some v=>match value v with
    | .error e=> .error e
    | .ok (m,x)=>if m=0 then .error (.arg,sk v) else .ok (m,x)
def sgn (x:T):Except (Er × T) (Bool × T):=match tk [33,61] x with
  | some y=> .ok (true,y)
  | none=>match tk [61] x with
    | some y=> .ok (false,y)
    | none=> .error (.form,sk x)
/-- behind a relation's letter -/
def relB (c:UInt8) (u:T):Except (Er × T) (Rl × T):=match modq u with
  | .error e=> .error e
  | .ok (m,x)=>match sgn x with
    | .error e=> .error e
    | .ok (b,y)=>match spans (y.length+1) y [] with
      | .error e=> .error e
      | .ok (rs,z)=> .ok (⟨c,m,b,rs⟩,z)
/-- a relation; n: how many there were -/
def rel (n:Nat) (t:T):Except (Er × T) (Rl × T):=match word t with
  | [c]=>if c∈ops then (if 200<n+1 then .error (.many,sk t) else relB c ((sk t).drop 1)) else .error (.form,sk t)
  | _=> .error (.form,sk t)
def next (w t:T):Option T:=if word t=w then some ((sk t).drop w.length) else none
def alls:Nat→Nat→T→List Rl→Except (Er × T) (List Rl × T)
  | 0,_,t,_=> .error (.form,t)
  | k+1,n,t,acc=>match rel n t with
    | .error e=> .error e
    | .ok (x,u)=>match next [97,110,100] u with
      | none=> .ok (acc++[x],sk u)
      | some v=>alls k (n+1) v (acc++[x])
def anys:Nat→Nat→T→List (List Rl)→Except (Er × T) (List (List Rl) × T)
  | 0,_,t,_=> .error (.form,t)
  | k+1,n,t,acc=>match alls (t.length+1) n t [] with
    | .error e=> .error e
    | .ok (x,u)=>match next [111,114] u with
      | none=> .ok (acc++[x],sk u)
      | some v=>anys k (n+x.length) v (acc++[x])
def cats:List T:=[[122,101,114,111],[111,110,101],[116,119,111],[102,101,119],[109,97,110,121],[111,116,104,101,114]]
def trimR (t:T):T:=(t.reverse.dropWhile (· ==32)).reverse
def smplB (q:T):T × T:=(trimR (q.takeWhile (· !=59)),q.drop (q.takeWhile (· !=59)).length)
def smpl (t:T):T × T:=match sk t with
  | 64::u=>smplB (64::u)
  | u=>([],u)
def count (l:List (List Rl)):Nat:=(l.map List.length).sum
def rule (n:Nat) (seen:List Nat) (t:T):Except (Er × T) (Ru × T) :=
  let w:=word t
  match cats.idxOf? w with
  | none=> .error (.form,sk t)
  | some c=>if c∈seen then .error (.cat,sk t) else
    match tk [58] ((sk t).drop w.length) with
    | none=> .error (.form,sk ((sk t).drop w.length))
    | some u =>
      let p:Except (Er × T) (List (List Rl) × T):=if c=5 then .ok ([],u) else anys (u.length+1) n u []
      match p with
      | .error e=> .error e
      | .ok (any,v)=> .ok (⟨c,any,(smpl v).1⟩,(smpl v).2)
def peek (t:T):UInt8:=(sk t).headD 0
def fin (t:T) (acc:List Ru):Except (Er × T) (List Ru):=if sk t=[] then .ok acc else .error (.form,sk t)
def rules:Nat→Nat→List Nat→T→List Ru→Except (Er × T) (List Ru)
  | 0,_,_,t,_=> .error (.form,t)
  | k+1,n,seen,t,acc =>
    if peek t=0 then fin t acc else
    match rule n seen t with
    | .error e=> .error e
    | .ok (x,u)=>match tk [59] u with
      | none=>fin u (acc++[x])
      | some v=>rules k (n+count x.any) (seen++[x.cat]) v (acc++[x])
def parse (t:T):Except (Er × T) (List Ru):=rules (t.length+1) 0 [] t []
/-! how they are written -/
def Bl (g:T):Prop:=∀c∈g,c=32
def Dg (n:Nat) (d:T):Prop:=d≠[]∧(∀c∈d,dig c=true)∧(1<d.length→d.head? ≠ some 48)∧d.length≤9∧nvl d=n
def WSpan (x:Nat × Nat) (s:T):Prop:=(Dg x.1 s∧x.2=x.1)∨∃d g h e,Dg x.1 d∧Bl g∧Bl h∧Dg x.2 e∧x.1≤x.2∧s=d++(g++(46::46::(h++e)))
def WSpans:List (Nat × Nat)→T→Prop
  | [],_=>False
  | [x],s=>WSpan x s
  | x::y::xs,s=>∃a g h b,WSpan x a∧Bl g∧Bl h∧WSpans (y::xs) b∧s=a++(g++(44::(h++b)))
def WMod (m:Nat) (s:T):Prop:=(m=0∧s=[])∨∃g d h,Bl g∧Dg m d∧Bl h∧m≠0∧s=37::(g++(d++h))
def WRel (x:Rl) (s:T):Prop:=∃g m h b,x.op∈ops∧Bl g∧WMod x.md m∧Bl h∧WSpans x.rs b∧s=x.op::(g++(m++((if x.nt then [33] else [])++(61::(h++b)))))
def WAll:List Rl→T→Prop
  | [],_=>False
  | [x],s=>WRel x s
  | x::y::xs,s=>∃a g h b,WRel x a∧Bl g∧Bl h∧WAll (y::xs) b∧s=a++(g++(97::110::100::32::(h++b)))
def WAny:List (List Rl)→T→Prop
  | [],_=>False
  | [x],s=>WAll x s
  | x::y::xs,s=>∃a g h b,WAll x a∧Bl g∧Bl h∧WAny (y::xs) b∧s=a++(g++(111::114::32::(h++b)))
def WSmp (s:T):Prop:=s=[]∨∃u,s=64::u∧(∀c∈s,c≠59)∧s.getLast? ≠ some 32
def WRule (x:Ru) (s:T):Prop:=∃w g h a i j,cats.idxOf? w=some x.cat∧Bl g∧Bl h∧((x.cat=5∧x.any=[]∧a=[])∨(x.cat≠5∧WAny x.any a))∧Bl i∧WSmp x.smp∧Bl j∧s=w++(g++(58::(h++(a++(i++(x.smp++j))))))
def WRules:List Ru→T→Prop
  | [],s=>Bl s
  | [x],s=>∃g a e,Bl g∧WRule x a∧(e=[]∨∃f,e=59::f∧Bl f)∧s=g++(a++e)
  | x::y::xs,s=>∃g a b,Bl g∧WRule x a∧WRules (y::xs) b∧s=g++(a++(59::b))

theorem sk_cons_ne {c:UInt8} (h:c≠32) (u:T):sk (c::u)=c::u:=by
  unfold sk;rw[List.dropWhile_cons_of_neg];simpa using h
theorem sk_bl:∀ {g:T},Bl g→∀t,sk (g++t)=sk t
  | [],_,t=>rfl
  | c::g,h,t=>by
    have hc:c=32:=h c (by simp)
    subst hc
    have:=sk_bl (g:=g) (fun c hc=>h c (by simp[hc])) t
    rw[List.cons_append, ← this];rfl
theorem sk_head (t:T):∀u,sk t≠32::u:=by
  intro u h
  unfold sk at h
  have:=List.head?_dropWhile_not (p:=fun x:UInt8=>x==32) t
  rw[h] at this
  simp at this
theorem sk_sk (t:T):sk (sk t)=sk t:=by
  cases h:sk t with
  | nil=>rfl
  | cons c u=>exact sk_cons_ne (fun hc=>sk_head t u (by rw[h,hc])) u
theorem tk_congr {w t u:T} (h:sk t=sk u):tk w t=tk w u:=by unfold tk;rw[h]
theorem word_congr {t u:T} (h:sk t=sk u):word t=word u:=by unfold word;rw[h]
theorem tw_stop {p:UInt8→Bool} {d r:T} (hd:∀c∈d,p c=true) (hr:∀c u,r=c::u→p c=false):(d++r).takeWhile p=d:=by
  rw[List.takeWhile_append_of_pos hd]
  cases r with
  | nil=>simp
  | cons c u=>rw[List.takeWhile_cons_of_neg (by rw[hr c u rfl];decide)];simp
theorem dg_ne {n:Nat} {d:T} (h:Dg n d):∃c u,d=c::u∧dig c=true:=by
  cases d with
  | nil=>exact absurd rfl h.1
  | cons c u=>exact⟨c,u,rfl,h.2.1 c (by simp)⟩
theorem dig_ne {c:UInt8} (h:dig c=true) {x:UInt8} (hx:dig x=false):c≠x:=by rintro rfl;rw[h] at hx;cases hx
def Fo1 (r:T):Prop:=∀c u,sk r=c::u→c≠46∧dig c=false
def Fo2 (r:T):Prop:=∀c u,sk r=c::u→c≠46∧c≠44∧dig c=false
theorem Fo2.one {r:T} (h:Fo2 r):Fo1 r:=fun c u e=>⟨(h c u e).1,(h c u e).2.2⟩
theorem WSpan.ne {x:Nat × Nat} {s:T} (h:WSpan x s):∃c u,s=c::u∧dig c=true:=by
  rcases h with ⟨h1,_⟩|⟨d,g1,h1,e,k1,_,_,_,_,rfl⟩
  · exact dg_ne h1
  · obtain⟨c,u,e,hc⟩:=dg_ne k1
    exact⟨c,u++_,by rw[e];rfl,hc⟩
theorem WSpans.len:∀ {xs:List (Nat × Nat)} {s:T},WSpans xs s→xs.length≤s.length
  | [],_,h=>h.elim
  | [x],s,h=>by obtain⟨c,u,e,_⟩:=WSpan.ne h;rw[e];simp
  | x::y::xs,s,⟨a,g,h,b,k1,k2,k3,k4,e⟩=>by
    have:=WSpans.len k4
    rw[e]
    simp only[List.length_append,List.length_cons] at this ⊢
    omega
theorem WRel.op_ {x:Rl} {s:T} (h:WRel x s):∃u,s=x.op::u∧x.op∈ops:=by
  obtain⟨g,m,h1,b,k1,_,_,_,_,e⟩:=h
  exact⟨_,e,k1⟩
def Sg (r:T):Prop:=∃u,r=33::61::u∨r=61::u
theorem Sg.sk {r:T} (h:Sg r):sk r=r:=by obtain⟨u,rfl|rfl⟩:=h <;> exact sk_cons_ne (by decide) _
theorem Sg.hd {r:T} (h:Sg r):∀c u,r=c::u→c=33∨c=61:=by
  obtain⟨v,rfl|rfl⟩:=h
  · intro c u e;injection e with e _;exact .inl e.symm
  · intro c u e;injection e with e _;exact .inr e.symm
/-- what may follow -/
def Fo3 (r:T):Prop:=Fo2 r∧word r≠[97,110,100]
theorem next_no {w t:T} (h:word t≠w):next w t=none:=by unfold next;rw[if_neg h]
theorem next_yes {w t u:T} (h:sk t=w++u) (hw:∀c∈w,low c=true) (hu:∀c v,u=c::v→low c=false):next w t=some u:=by
  unfold next
  rw[if_pos (by unfold word;rw[h];exact tw_stop hw hu),h];simp
theorem WAll.len:∀ {xs:List Rl} {s:T},WAll xs s→xs.length≤s.length
  | [],_,h=>h.elim
  | [x],s,h=>by obtain⟨u,e,_⟩:=WRel.op_ h;rw[e];simp
  | x::y::xs,s,⟨a,g,h,b,k1,k2,k3,k4,e⟩=>by
    have:=WAll.len k4
    rw[e]
    simp only[List.length_append,List.length_cons] at this ⊢
    omega
def Fo4 (r:T):Prop:=Fo3 r∧word r≠[111,114]
theorem WAny.len:∀ {xs:List (List Rl)} {s:T},WAny xs s→xs.length≤s.length
  | [],_,h=>h.elim
  | [x],s,h=>by
    have:=WAll.len h
    cases x with
    | nil=>exact h.elim
    | cons y ys=>simp at this ⊢;omega
  | x::y::xs,s,⟨a,g,h,b,k1,k2,k3,k4,e⟩=>by
    have:=WAny.len k4
    rw[e]
    simp only[List.length_append,List.length_cons] at this ⊢
    omega
theorem count_cons (x:List Rl) (l:List (List Rl)):count (x::l)=x.length+count l:=by unfold count;simp
theorem cats_facts {w:T} {c:Nat} (h:cats.idxOf? w=some c):(∀x∈w,low x=true)∧(∃x u,w=x::u∧low x=true)∧c<6:=by
  have hm:w∈cats:=by
    apply Classical.byContradiction
    intro hn
    rw[List.idxOf?_eq_none_iff.2 hn] at h
    cases h
  unfold cats at hm
  simp only[List.mem_cons,List.not_mem_nil,or_false] at hm
  rcases hm with rfl|rfl|rfl|rfl|rfl|rfl <;>
    exact⟨by decide,⟨_,_,rfl,by decide⟩,by injection h with h;rw[← h];decide⟩
def End (r:T):Prop:=r=[]∨∃u,r=59::u
theorem End.sk {r:T} (h:End r):sk r=r:=by
  rcases h with rfl|⟨u,rfl⟩
  · rfl
  · exact sk_cons_ne (by decide) _
theorem Fo4.of {t:T} (h:∀c u,sk t=c::u→c=59∨c=64):Fo4 t:=by
  have hw:word t=[]:=by
    unfold word
    cases e:sk t with
    | nil=>rfl
    | cons c u =>
      rw[List.takeWhile_cons_of_neg]
      rcases h c u e with rfl|rfl <;> decide
  refine⟨⟨fun c u e=>?_,by rw[hw];decide⟩,by rw[hw];decide⟩
  rcases h c u e with rfl|rfl <;> decide
theorem Fo4.end {i p j r:T} (hi:Bl i) (h:WSmp p) (hj:Bl j) (hr:End r):Fo4 (i++(p++(j++r))):=by
  apply Fo4.of
  intro c u e
  rw[sk_bl hi] at e
  rcases h with rfl|⟨v,rfl,_⟩
  · rw[List.nil_append,sk_bl hj,hr.sk] at e
    rcases hr with rfl|⟨w,rfl⟩
    · cases e
    · injection e with e _;exact .inl e.symm
  · rw[List.cons_append,sk_cons_ne (by decide)] at e
    injection e with e _;exact .inr e.symm
theorem WRule.head {x:Ru} {s:T} (h:WRule x s):∃c u,s=c::u∧low c=true:=by
  obtain⟨w,g1,h1,a,i,j,k1,_,_,_,_,_,_,e⟩:=h
  obtain⟨_,⟨y,z,c2,c3⟩,_⟩:=cats_facts k1
  exact⟨y,_,by rw[e,c2];rfl,c3⟩
theorem WRules.len:∀ {xs:List Ru} {s:T},WRules xs s→xs.length≤s.length
  | [],_,_=>by simp
  | [x],s,⟨g,a,e,k1,k2,k3,k4⟩=>by
    obtain⟨c,u,rfl,_⟩:=k2.head
    rw[k4];simp;omega
  | x::y::xs,s,⟨g,a,b,k1,k2,k3,k4⟩=>by
    have:=WRules.len k3
    rw[k4]
    simp only[List.length_append,List.length_cons] at this ⊢
    omega
end RG
end Go.Proofs.YtcokjmnkieakiaaDoor.FM
namespace Go.Proofs.YtcokjmnkieakiaaDoor.FM
namespace RG
/-! rules as they are written by the program -/
end RG
end Go.Proofs.YtcokjmnkieakiaaDoor.FM
