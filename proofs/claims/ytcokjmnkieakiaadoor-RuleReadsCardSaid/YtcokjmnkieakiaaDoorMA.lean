namespace Go.Proofs.YtcokjmnkieakiaaDoor.FM
/-- the value of digits -/
def nvl (l:List UInt8):Nat:=l.foldl (fun a c=>10*a+(c.toNat-48)) 0
def Dig (l:List UInt8):Prop:=∀c∈l,48≤c.toNat∧c.toNat≤57
instance (l:List UInt8):Decidable (Dig l):=inferInstanceAs (Decidable (∀c∈l,48≤c.toNat∧c.toNat≤57))

theorem foldl_shift (l:List UInt8) (a:Nat):l.foldl (fun a c=>10*a+(c.toNat-48)) a=a*10 ^ l.length+nvl l:=by
  induction l generalizing a with
  | nil=>simp[nvl]
  | cons c l ih =>
    simp only[nvl,List.foldl_cons,List.length_cons]
    rw[ih,ih (10*0+_)]
    simp only[Nat.mul_zero,Nat.zero_add,Nat.pow_succ]
    rw[Nat.add_mul,Nat.add_assoc]
    congr 1
    rw[Nat.mul_comm 10 a,Nat.mul_assoc,Nat.mul_comm 10]

@[simp] theorem nvl_nil:nvl []=0:=rfl
theorem nvl_append (a b:List UInt8):nvl (a++b)=nvl a*10 ^ b.length+nvl b:=by
  unfold nvl;rw[List.foldl_append,foldl_shift];rfl
theorem nvl_cons (c:UInt8) (l:List UInt8):nvl (c::l)=(c.toNat-48)*10 ^ l.length+nvl l:=by
  have:=nvl_append [c] l
  simpa [nvl] using this
theorem nvl_snoc (l:List UInt8) (c:UInt8):nvl (l++[c])=10*nvl l+(c.toNat-48):=by
  rw[nvl_append];simp[nvl];omega

theorem Dig.nil:Dig []:=by intro c h;cases h
theorem Dig.append {a b:List UInt8} (ha:Dig a) (hb:Dig b):Dig (a++b):=by
  intro c h;rcases List.mem_append.1 h with h|h;exact ha c h;exact hb c h
theorem dig_cons {c:UInt8} {b:List UInt8}:Dig (c::b)↔(48≤c.toNat∧c.toNat≤57)∧Dig b:=by
  unfold Dig;simp[List.mem_cons]
theorem Dig.take {a:List UInt8} (h:Dig a) (n:Nat):Dig (a.take n):=fun c hc=>h c (List.mem_of_mem_take hc)
theorem Dig.drop {a:List UInt8} (h:Dig a) (n:Nat):Dig (a.drop n):=fun c hc=>h c (List.mem_of_mem_drop hc)

theorem nvl_lt {l:List UInt8} (h:Dig l):nvl l<10 ^ l.length:=by
  induction l with
  | nil=>simp
  | cons c l ih =>
    rw[dig_cons] at h
    have:=ih h.2
    rw[nvl_cons,List.length_cons,Nat.pow_succ]
    have h9:(c.toNat-48)*10 ^ l.length≤9*10 ^ l.length:=Nat.mul_le_mul_right _ (by omega)
    omega

/-- the digits of a number; none of nought -/
def mkl (n:Nat):List UInt8:=if _h:n=0 then [] else mkl (n/10)++[UInt8.ofNat (48+n%10)]
  termination_by n
  decreasing_by omega

@[simp] theorem mkl_zero:mkl 0=[]:=by unfold mkl;simp
theorem mkl_pos {n:Nat} (h:0<n):mkl n=mkl (n/10)++[UInt8.ofNat (48+n%10)]:=by
  rw[mkl];rw[dif_neg (by omega)]
theorem ofNat_toNat {n:Nat} (h:n<256):(UInt8.ofNat n).toNat=n:=by simp;omega
theorem dig_mkl (n:Nat):Dig (mkl n):=by
  induction n using Nat.strongRecOn with
  | ind n ih =>
    rcases Nat.eq_zero_or_pos n with rfl|h
    · simp[Dig.nil]
    · rw[mkl_pos h]
      refine(ih _ (by omega)).append ?_
      rw[dig_cons,ofNat_toNat (by omega)]
      exact⟨by omega,Dig.nil⟩
@[simp] theorem nvl_mkl (n:Nat):nvl (mkl n)=n:=by
  induction n using Nat.strongRecOn with
  | ind n ih =>
    rcases Nat.eq_zero_or_pos n with rfl|h
    · simp
    · rw[mkl_pos h,nvl_snoc,ih _ (by omega),ofNat_toNat (by omega)];omega
theorem mkl_inj {a b:Nat}:mkl a=mkl b↔a=b:=⟨fun h=>by rw[← nvl_mkl a,h,nvl_mkl],fun h=>by rw[h]⟩
theorem mkl_eq_nil {a:Nat}:mkl a=[]↔a=0:=by rw[← mkl_zero,mkl_inj]
theorem mkl_length_le {n k:Nat}:(mkl n).length≤k↔n<10 ^ k:=by
  induction k generalizing n with
  | zero=>simp[List.length_eq_zero_iff,mkl_eq_nil]
  | succ k ih =>
    rcases Nat.eq_zero_or_pos n with rfl|h
    · simp[Nat.pow_pos]
    · rw[mkl_pos h,List.length_append,List.length_singleton,Nat.add_le_add_iff_right,ih,Nat.pow_succ]
      omega
/-- no nought ahead -/
def Bare (l:List UInt8):Prop:=l.head? ≠ some 48
theorem bare_mkl (n:Nat):Bare (mkl n):=by
  induction n using Nat.strongRecOn with
  | ind n ih =>
    unfold Bare
    rcases Nat.eq_zero_or_pos n with rfl|h
    · simp
    · rw[mkl_pos h,List.head?_append]
      cases e:(mkl (n/10)).head? with
      | none =>
        have h0:n/10=0:=by rw[← mkl_eq_nil];exact List.head?_eq_none_iff.1 e
        simp
        intro hc
        have:=congrArg UInt8.toNat hc
        rw[ofNat_toNat (by omega)] at this
        simp at this
        omega
      | some c =>
        have:=ih (n/10) (by omega)
        unfold Bare at this
        rw[e] at this
        simpa using this
end Go.Proofs.YtcokjmnkieakiaaDoor.FM
namespace Go.Proofs.YtcokjmnkieakiaaDoor.FM

/-- noughts -/
def zs (k:Nat):List UInt8:=List.replicate k 48
@[simp] theorem zs_length (k:Nat):(zs k).length=k:=by simp[zs]
@[simp] theorem zs_zero:zs 0=[]:=rfl
theorem zs_succ (k:Nat):zs (k+1)=48::zs k:=rfl
@[simp] theorem nvl_zs (k:Nat):nvl (zs k)=0:=by
  induction k with
  | zero=>rfl
  | succ k ih=>rw[zs_succ,nvl_cons,ih];simp
end Go.Proofs.YtcokjmnkieakiaaDoor.FM
namespace Go.Proofs.YtcokjmnkieakiaaDoor.FM

end Go.Proofs.YtcokjmnkieakiaaDoor.FM
namespace Go.Proofs.YtcokjmnkieakiaaDoor.FM

end Go.Proofs.YtcokjmnkieakiaaDoor.FM
namespace Go.Proofs.YtcokjmnkieakiaaDoor.FM

end Go.Proofs.YtcokjmnkieakiaaDoor.FM
namespace Go.Proofs.YtcokjmnkieakiaaDoor.FM
/-! digits from the end on -/
def DI (l:List Int):Prop:=∀c∈l,48≤c∧c≤57
theorem DI.nil:DI []:=by intro c h;cases h
end Go.Proofs.YtcokjmnkieakiaaDoor.FM
namespace Go.Proofs.YtcokjmnkieakiaaDoor.FM
end Go.Proofs.YtcokjmnkieakiaaDoor.FM
namespace Go.Proofs.YtcokjmnkieakiaaDoor.FM

end Go.Proofs.YtcokjmnkieakiaaDoor.FM
namespace Go.Proofs.YtcokjmnkieakiaaDoor.FM
/-! sums -/

end Go.Proofs.YtcokjmnkieakiaaDoor.FM
namespace Go.Proofs.YtcokjmnkieakiaaDoor.FM
/-! the digits ahead of the point and behind it -/

end Go.Proofs.YtcokjmnkieakiaaDoor.FM
namespace Go.Proofs.YtcokjmnkieakiaaDoor.FM
/-! rounding, as the program does it -/

end Go.Proofs.YtcokjmnkieakiaaDoor.FM
namespace Go.Proofs.YtcokjmnkieakiaaDoor.FM
/-! the modes that go one way alone -/
end Go.Proofs.YtcokjmnkieakiaaDoor.FM
namespace Go.Proofs.YtcokjmnkieakiaaDoor.FM
/-! what is shown: rounding to places that hang on the first digit -/
/-! the digits that are shown -/
end Go.Proofs.YtcokjmnkieakiaaDoor.FM
namespace Go.Proofs.YtcokjmnkieakiaaDoor.FM
/-! rules' texts, as they are read: in plain lists of bytes -/
namespace RG
abbrev T:=List UInt8
def sk (t:T):T:=t.dropWhile (· ==32)
inductive Er|form|long|arg|cat|many
  deriving DecidableEq,Repr
structure Rl where
  op:UInt8
  md:Nat
  nt:Bool
  rs:List (Nat × Nat)
  deriving DecidableEq,Repr
structure Ru where
  cat:Nat
  any:List (List Rl)
  smp:T
  deriving DecidableEq,Repr
def dig (c:UInt8):Bool:=48≤c.toNat&&c.toNat≤57
def low (c:UInt8):Bool:=97≤c.toNat&&c.toNat≤122
def tk (w t:T):Option T:=if w <+:sk t then some ((sk t).drop w.length) else none
def value (t:T):Except (Er × T) (Nat × T) :=
  let d:=(sk t).takeWhile dig
  if d=[]∨(1<d.length∧d.head? = some 48) then .error (.form,sk t)
  else if 9<d.length then .error (.long,sk t)
  else .ok (nvl d,(sk t).drop d.length)
def span (t:T):Except (Er × T) ((Nat × Nat) × T):=match value t with
  | .error e=> .error e
  | .ok (lo,u)=>match tk [46,46] u with
    | none=> .ok ((lo,lo),sk u)
    | some v=>match value v with
      | .error e=> .error e
      | .ok (hi,x)=>if hi<lo then .error (.arg,sk v) else .ok ((lo,hi),x)
def spans:Nat→T→List (Nat × Nat)→Except (Er × T) (List (Nat × Nat) × T)
  | 0,t,_=> .error (.form,t)
  | n+1,t,acc=>match span t with
    | .error e=> .error e
    | .ok (x,u)=>match tk [44] u with
      | none=> .ok (acc++[x],sk u)
      | some v=>spans n v (acc++[x])
def ops:T:=[110,105,118,119,102,116,99,101]
def word (t:T):T:=(sk t).takeWhile low
def modq (u:T):Except (Er × T) (Nat × T):=match tk [37] u with
  | none=> .ok (0,sk u)
  | some v=>match value v with
    | .error e=> .error e
    | .ok (m,x)=>if m=0 then .error (.arg,sk v) else .ok (m,x)
def sgn (x:T):Except (Er × T) (Bool × T):=match tk [33,61] x with
  | some y=> .ok (true,y)
  | none=>match tk [61] x with
    | some y=> .ok (false,y)
    | none=> .error (.form,sk x)
/-- behind a relation's letter -/
def relB (c:UInt8) (u:T):Except (Er × T) (Rl × T):=match modq u with
  | .error e=> .error e
  | .ok (m,x)=>match sgn x with
    | .error e=> .error e
    | .ok (b,y)=>match spans (y.length+1) y [] with
      | .error e=> .error e
      | .ok (rs,z)=> .ok (⟨c,m,b,rs⟩,z)
/-- a relation; n: how many there were -/
def rel (n:Nat) (t:T):Except (Er × T) (Rl × T):=match word t with
  | [c]=>if c∈ops then (if 200<n+1 then .error (.many,sk t) else relB c ((sk t).drop 1)) else .error (.form,sk t)
  | _=> .error (.form,sk t)
def next (w t:T):Option T:=if word t=w then some ((sk t).drop w.length) else none
def alls:Nat→Nat→T→List Rl→Except (Er × T) (List Rl × T)
  | 0,_,t,_=> .error (.form,t)
  | k+1,n,t,acc=>match rel n t with
    | .error e=> .error e
    | .ok (x,u)=>match next [97,110,100] u with
      | none=> .ok (acc++[x],sk u)
      | some v=>alls k (n+1) v (acc++[x])
def anys:Nat→Nat→T→List (List Rl)→Except (Er × T) (List (List Rl) × T)
  | 0,_,t,_=> .error (.form,t)
  | k+1,n,t,acc=>match alls (t.length+1) n t [] with
    | .error e=> .error e
    | .ok (x,u)=>match next [111,114] u with
      | none=> .ok (acc++[x],sk u)
      | some v=>anys k (n+x.length) v (acc++[x])
def cats:List T:=[[122,101,114,111],[111,110,101],[116,119,111],[102,101,119],[109,97,110,121],[111,116,104,101,114]]
def trimR (t:T):T:=(t.reverse.dropWhile (· ==32)).reverse
def smplB (q:T):T × T:=(trimR (q.takeWhile (· !=59)),q.drop (q.takeWhile (· !=59)).length)
def smpl (t:T):T × T:=match sk t with
  | 64::u=>smplB (64::u)
  | u=>([],u)
def count (l:List (List Rl)):Nat:=(l.map List.length).sum
def rule (n:Nat) (seen:List Nat) (t:T):Except (Er × T) (Ru × T) :=
  let w:=word t
  match cats.idxOf? w with
  | none=> .error (.form,sk t)
  | some c=>if c∈seen then .error (.cat,sk t) else
    match tk [58] ((sk t).drop w.length) with
    | none=> .error (.form,sk ((sk t).drop w.length))
    | some u =>
      let p:Except (Er × T) (List (List Rl) × T):=if c=5 then .ok ([],u) else anys (u.length+1) n u []
      match p with
      | .error e=> .error e
      | .ok (any,v)=> .ok (⟨c,any,(smpl v).1⟩,(smpl v).2)
def peek (t:T):UInt8:=(sk t).headD 0
def fin (t:T) (acc:List Ru):Except (Er × T) (List Ru):=if sk t=[] then .ok acc else .error (.form,sk t)
def rules:Nat→Nat→List Nat→T→List Ru→Except (Er × T) (List Ru)
  | 0,_,_,t,_=> .error (.form,t)
  | k+1,n,seen,t,acc =>
    if peek t=0 then fin t acc else
    match rule n seen t with
    | .error e=> .error e
    | .ok (x,u)=>match tk [59] u with
      | none=>fin u (acc++[x])
      | some v=>rules k (n+count x.any) (seen++[x.cat]) v (acc++[x])
def parse (t:T):Except (Er × T) (List Ru):=rules (t.length+1) 0 [] t []
/-! how they are written -/
def Bl (g:T):Prop:=∀c∈g,c=32
def Dg (n:Nat) (d:T):Prop:=d≠[]∧(∀c∈d,dig c=true)∧(1<d.length→d.head? ≠ some 48)∧d.length≤9∧nvl d=n
def WSpan (x:Nat × Nat) (s:T):Prop:=(Dg x.1 s∧x.2=x.1)∨∃d g h e,Dg x.1 d∧Bl g∧Bl h∧Dg x.2 e∧x.1≤x.2∧s=d++(g++(46::46::(h++e)))
def WSpans:List (Nat × Nat)→T→Prop
  | [],_=>False
  | [x],s=>WSpan x s
  | x::y::xs,s=>∃a g h b,WSpan x a∧Bl g∧Bl h∧WSpans (y::xs) b∧s=a++(g++(44::(h++b)))
def WMod (m:Nat) (s:T):Prop:=(m=0∧s=[])∨∃g d h,Bl g∧Dg m d∧Bl h∧m≠0∧s=37::(g++(d++h))
def WRel (x:Rl) (s:T):Prop:=∃g m h b,x.op∈ops∧Bl g∧WMod x.md m∧Bl h∧WSpans x.rs b∧s=x.op::(g++(m++((if x.nt then [33] else [])++(61::(h++b)))))
def WAll:List Rl→T→Prop
  | [],_=>False
  | [x],s=>WRel x s
  | x::y::xs,s=>∃a g h b,WRel x a∧Bl g∧Bl h∧WAll (y::xs) b∧s=a++(g++(97::110::100::32::(h++b)))
def WAny:List (List Rl)→T→Prop
  | [],_=>False
  | [x],s=>WAll x s
  | x::y::xs,s=>∃a g h b,WAll x a∧Bl g∧Bl h∧WAny (y::xs) b∧s=a++(g++(111::114::32::(h++b)))
def WSmp (s:T):Prop:=s=[]∨∃u,s=64::u∧(∀c∈s,c≠59)∧s.getLast? ≠ some 32
def WRule (x:Ru) (s:T):Prop:=∃w g h a i j,cats.idxOf? w=some x.cat∧Bl g∧Bl h∧((x.cat=5∧x.any=[]∧a=[])∨(x.cat≠5∧WAny x.any a))∧Bl i∧WSmp x.smp∧Bl j∧s=w++(g++(58::(h++(a++(i++(x.smp++j))))))
def WRules:List Ru→T→Prop
  | [],s=>Bl s
  | [x],s=>∃g a e,Bl g∧WRule x a∧(e=[]∨∃f,e=59::f∧Bl f)∧s=g++(a++e)
  | x::y::xs,s=>∃g a b,Bl g∧WRule x a∧WRules (y::xs) b∧s=g++(a++(59::b))

theorem sk_cons_ne {c:UInt8} (h:c≠32) (u:T):sk (c::u)=c::u:=by
  unfold sk;rw[List.dropWhile_cons_of_neg];simpa using h
theorem sk_bl:∀ {g:T},Bl g→∀t,sk (g++t)=sk t
  | [],_,t=>rfl
  | c::g,h,t=>by
    have hc:c=32:=h c (by simp)
    subst hc
    have:=sk_bl (g:=g) (fun c hc=>h c (by simp[hc])) t
    rw[List.cons_append, ← this];rfl
theorem sk_bl0 {g:T} (h:Bl g):sk g=[]:=by have:=sk_bl h [];rwa [List.append_nil] at this
theorem sk_head (t:T):∀u,sk t≠32::u:=by
  intro u h
  unfold sk at h
  have:=List.head?_dropWhile_not (p:=fun x:UInt8=>x==32) t
  rw[h] at this
  simp at this
theorem sk_sk (t:T):sk (sk t)=sk t:=by
  cases h:sk t with
  | nil=>rfl
  | cons c u=>exact sk_cons_ne (fun hc=>sk_head t u (by rw[h,hc])) u
theorem tk_congr {w t u:T} (h:sk t=sk u):tk w t=tk w u:=by unfold tk;rw[h]
theorem word_congr {t u:T} (h:sk t=sk u):word t=word u:=by unfold word;rw[h]
theorem tk_yes {w t u:T} (h:sk t=w++u):tk w t=some u:=by
  unfold tk;rw[h,if_pos (List.prefix_append _ _)];simp
theorem tk_no {w t:T} {c:UInt8} (h:∀x u,sk t=x::u→x≠c):tk (c::w) t=none:=by
  unfold tk;rw[if_neg]
  rintro⟨u,hu⟩
  exact h c _ hu.symm rfl
theorem tw_stop {p:UInt8→Bool} {d r:T} (hd:∀c∈d,p c=true) (hr:∀c u,r=c::u→p c=false):(d++r).takeWhile p=d:=by
  rw[List.takeWhile_append_of_pos hd]
  cases r with
  | nil=>simp
  | cons c u=>rw[List.takeWhile_cons_of_neg (by rw[hr c u rfl];decide)];simp
theorem dg_ne {n:Nat} {d:T} (h:Dg n d):∃c u,d=c::u∧dig c=true:=by
  cases d with
  | nil=>exact absurd rfl h.1
  | cons c u=>exact⟨c,u,rfl,h.2.1 c (by simp)⟩
theorem dig_ne {c:UInt8} (h:dig c=true) {x:UInt8} (hx:dig x=false):c≠x:=by rintro rfl;rw[h] at hx;cases hx
theorem value_w {n:Nat} {d g r:T} (h:Dg n d) (hg:Bl g) (hr:∀c u,r=c::u→dig c=false):value (g++(d++r))= .ok (n,r):=by
  obtain⟨c,u,hc,hcd⟩:=dg_ne h
  have hs:sk (g++(d++r))=d++r:=by
    rw[sk_bl hg,hc,List.cons_append];exact sk_cons_ne (dig_ne hcd (by decide)) _
  unfold value
  rw[hs,tw_stop h.2.1 hr]
  dsimp only
  rw[if_neg (fun hh=>hh.elim h.1 (fun hh=>h.2.2.1 hh.1 hh.2)),if_neg (by have:=h.2.2.2.1;omega),h.2.2.2.2]
  simp
theorem bl_head {g:T} (hg:Bl g) {p:UInt8→Bool} (hp:p 32=false) {r:T} (hr:∀c u,r=c::u→p c=false):∀c u,g++r=c::u→p c=false:=by
  intro c u h
  cases g with
  | nil=>exact hr c u h
  | cons x g =>
    rw[List.cons_append] at h
    injection h with h1 h2
    rw[← h1,hg x (by simp)];exact hp
theorem sk_stop {p:UInt8→Bool} (hp:p 32=false) {r:T} (hr:∀c u,sk r=c::u→p c=false):∀c u,r=c::u→p c=false:=by
  intro c u h
  by_cases hc:c=32
  · rw[hc];exact hp
  · exact hr c u (by rw[h];exact sk_cons_ne hc u)
def Fo1 (r:T):Prop:=∀c u,sk r=c::u→c≠46∧dig c=false
def Fo2 (r:T):Prop:=∀c u,sk r=c::u→c≠46∧c≠44∧dig c=false
theorem Fo2.one {r:T} (h:Fo2 r):Fo1 r:=fun c u e=>⟨(h c u e).1,(h c u e).2.2⟩
theorem span_w {x:Nat × Nat} {s g r:T} (h:WSpan x s) (hg:Bl g) (hr:Fo1 r):∃u,span (g++(s++r))= .ok (x,u)∧sk u=sk r:=by
  rcases h with ⟨h1,h2⟩|⟨d,g1,h1,e,k1,k2,k3,k4,k5,rfl⟩
  · refine⟨sk r,?_,sk_sk r⟩
    unfold span
    rw[value_w h1 hg (sk_stop (by decide) (fun c u e=>(hr c u e).2))]
    dsimp only
    rw[tk_no (fun c u e=>(hr c u e).1)]
    obtain⟨a,b⟩:=x
    dsimp only at h2 ⊢
    rw[h2]
  · refine⟨r,?_,rfl⟩
    unfold span
    have e1:g++((d++(g1++(46::46::(h1++e))))++r)=g++(d++(g1++(46::46::(h1++(e++r))))):=by simp
    rw[e1,value_w k1 hg (bl_head k2 (by decide) (fun c u e=>by injection e with e _;rw[← e];decide))]
    dsimp only
    rw[tk_yes (w:=[46,46]) (u:=h1++(e++r)) (by rw[sk_bl k2,sk_cons_ne (by decide)];rfl)]
    dsimp only
    rw[value_w k4 k3 (sk_stop (by decide) (fun c u e=>(hr c u e).2))]
    dsimp only
    rw[if_neg (by omega)]
theorem WSpan.ne {x:Nat × Nat} {s:T} (h:WSpan x s):∃c u,s=c::u∧dig c=true:=by
  rcases h with ⟨h1,_⟩|⟨d,g1,h1,e,k1,_,_,_,_,rfl⟩
  · exact dg_ne h1
  · obtain⟨c,u,e,hc⟩:=dg_ne k1
    exact⟨c,u++_,by rw[e];rfl,hc⟩
theorem WSpans.len:∀ {xs:List (Nat × Nat)} {s:T},WSpans xs s→xs.length≤s.length
  | [],_,h=>h.elim
  | [x],s,h=>by obtain⟨c,u,e,_⟩:=WSpan.ne h;rw[e];simp
  | x::y::xs,s,⟨a,g,h,b,k1,k2,k3,k4,e⟩=>by
    have:=WSpans.len k4
    rw[e]
    simp only[List.length_append,List.length_cons] at this ⊢
    omega
theorem spans_w:∀ {xs:List (Nat × Nat)} {s g r:T} {n:Nat} (acc:List (Nat × Nat)),WSpans xs s→xs.length≤n→Bl g→Fo2 r→∃u,spans n (g++(s++r)) acc= .ok (acc++xs,u)∧sk u=sk r
  | [],_,_,_,_,_,h,_,_,_=>h.elim
  | _::_,_,_,_,0,_,_,hn,_,_=>absurd hn (by simp)
  | [x],s,g,r,n+1,acc,h,hn,hg,hr=>by
    obtain⟨u,h1,h2⟩:=span_w h hg hr.one
    refine⟨sk u,?_,by rw[sk_sk];exact h2⟩
    rw[spans,h1]
    dsimp only
    rw[tk_no (fun c v e=>(hr c v (by rw[← h2,e])).2.1)]
  | x::y::xs,s,g,r,n+1,acc,⟨a,g1,h1,b,k1,k2,k3,k4,e⟩,hn,hg,hr=>by
    have e1:g++(s++r)=g++(a++(g1++(44::(h1++(b++r))))):=by rw[e];simp
    have hs:sk (g1++(44::(h1++(b++r))))=44::(h1++(b++r)):=by rw[sk_bl k2,sk_cons_ne (by decide)]
    obtain⟨u,m1,m2⟩:=span_w k1 hg (r:=g1++(44::(h1++(b++r)))) (fun c v e=>by rw[hs] at e;injection e with e _;rw[← e];decide)
    obtain⟨v,m3,m4⟩:=spans_w (n:=n) (acc++[x]) k4 (by simp only[List.length_cons] at hn ⊢;omega) k3 hr
    refine⟨v,?_,m4⟩
    rw[e1,spans,m1]
    dsimp only
    rw[tk_yes (w:=[44]) (u:=h1++(b++r)) (by rw[m2,hs];rfl)]
    dsimp only
    rw[m3];simp
theorem ops_facts {c:UInt8} (h:c∈ops):c≠32∧low c=true:=by
  unfold ops at h
  simp only[List.mem_cons,List.not_mem_nil,or_false] at h
  rcases h with rfl|rfl|rfl|rfl|rfl|rfl|rfl|rfl <;> decide
theorem WRel.op_ {x:Rl} {s:T} (h:WRel x s):∃u,s=x.op::u∧x.op∈ops:=by
  obtain⟨g,m,h1,b,k1,_,_,_,_,e⟩:=h
  exact⟨_,e,k1⟩
def Sg (r:T):Prop:=∃u,r=33::61::u∨r=61::u
theorem Sg.sk {r:T} (h:Sg r):sk r=r:=by obtain⟨u,rfl|rfl⟩:=h <;> exact sk_cons_ne (by decide) _
theorem Sg.hd {r:T} (h:Sg r):∀c u,r=c::u→c=33∨c=61:=by
  obtain⟨v,rfl|rfl⟩:=h
  · intro c u e;injection e with e _;exact .inl e.symm
  · intro c u e;injection e with e _;exact .inr e.symm
theorem modq_w {m:Nat} {s g r:T} (h:WMod m s) (hg:Bl g) (hr:Sg r):∃w,modq (g++(s++r))= .ok (m,w)∧sk w=r:=by
  rcases h with ⟨rfl,rfl⟩|⟨g2,d,h2,j1,j2,j3,j4,rfl⟩
  · refine⟨sk (g++r),?_,by rw[sk_sk,sk_bl hg,hr.sk]⟩
    unfold modq
    rw[List.nil_append,tk_no]
    intro c u he
    rw[sk_bl hg,hr.sk] at he
    rcases hr.hd c u he with rfl|rfl <;> decide
  · refine⟨h2++r,?_,by rw[sk_bl j3,hr.sk]⟩
    unfold modq
    have e2:37::(g2++(d++h2))++r=37::(g2++(d++(h2++r))):=by simp
    rw[e2,tk_yes (w:=[37]) (u:=g2++(d++(h2++r))) (by rw[sk_bl hg,sk_cons_ne (by decide)];rfl)]
    dsimp only
    rw[value_w j2 j1 (bl_head j3 (by decide) (fun c u he=>by rcases hr.hd c u he with rfl|rfl <;> decide))]
    dsimp only
    rw[if_neg j4]
theorem sgn_w {nt:Bool} {w z:T} (h:sk w=(if nt then [33] else [])++(61::z)):sgn w= .ok (nt,z):=by
  unfold sgn
  cases nt with
  | true=>rw[tk_yes (w:=[33,61]) (u:=z) h]
  | false =>
    rw[tk_no (fun c u e=>by rw[h] at e;injection e with e _;rw[← e];decide),tk_yes (w:=[61]) (u:=z) h]
theorem rel_w {x:Rl} {s g r:T} {n:Nat} (h:WRel x s) (hg:Bl g) (hn:n+1≤200) (hr:Fo2 r):∃u,rel n (g++(s++r))= .ok (x,u)∧sk u=sk r:=by
  obtain⟨op,md,nt,rs⟩:=x
  obtain⟨g1,m,h1,b,k1,k2,k3,k4,k5,e⟩:=h
  dsimp only at k1 k3 k5 e
  obtain⟨ho,hl⟩:=ops_facts k1
  generalize hq:(if nt then [33] else [])++(61::(h1++(b++r)))=q
  have hS:Sg q:=by
    rw[← hq]
    cases nt with
    | true=>exact⟨_,.inl rfl⟩
    | false=>exact⟨_,.inr rfl⟩
  have e1:g++(s++r)=g++(op::(g1++(m++q))):=by rw[e, ← hq];simp
  have hs:sk (g++(s++r))=op::(g1++(m++q)):=by rw[e1,sk_bl hg,sk_cons_ne ho]
  have hw:word (g++(s++r))=[op]:=by
    unfold word
    rw[hs]
    refine tw_stop (d:=[op]) (by simpa using hl) (bl_head k2 (by decide) ?_)
    intro c u he
    rcases k3 with ⟨_,rfl⟩|⟨g2,d,h2,_,_,_,_,rfl⟩
    · rcases hS.hd c u he with rfl|rfl <;> decide
    · injection he with he _;rw[← he];decide
  obtain⟨v,hv1,hv2⟩:=spans_w (n:=(h1++(b++r)).length+1) [] k5 (by have:=WSpans.len k5;simp;omega) k4 hr
  refine⟨v,?_,hv2⟩
  obtain⟨w,m1,m2⟩:=modq_w k3 k2 hS
  unfold rel
  rw[hw]
  dsimp only
  rw[if_pos k1,if_neg (by omega),hs]
  show relB op (g1++(m++q))=_
  unfold relB
  rw[m1]
  dsimp only
  rw[sgn_w (z:=h1++(b++r)) (by rw[m2,hq])]
  dsimp only
  rw[hv1];rfl
/-- what may follow -/
def Fo3 (r:T):Prop:=Fo2 r∧word r≠[97,110,100]
theorem next_no {w t:T} (h:word t≠w):next w t=none:=by unfold next;rw[if_neg h]
theorem next_yes {w t u:T} (h:sk t=w++u) (hw:∀c∈w,low c=true) (hu:∀c v,u=c::v→low c=false):next w t=some u:=by
  unfold next
  rw[if_pos (by unfold word;rw[h];exact tw_stop hw hu),h];simp
theorem word_of {t w u:T} (h:sk t=w++u) (hw:∀c∈w,low c=true) (hu:∀c v,u=c::v→low c=false):word t=w:=by unfold word;rw[h];exact tw_stop hw hu
theorem WAll.len:∀ {xs:List Rl} {s:T},WAll xs s→xs.length≤s.length
  | [],_,h=>h.elim
  | [x],s,h=>by obtain⟨u,e,_⟩:=WRel.op_ h;rw[e];simp
  | x::y::xs,s,⟨a,g,h,b,k1,k2,k3,k4,e⟩=>by
    have:=WAll.len k4
    rw[e]
    simp only[List.length_append,List.length_cons] at this ⊢
    omega
theorem alls_w:∀ {xs:List Rl} {s g r:T} {k n:Nat} (acc:List Rl),WAll xs s→xs.length≤k→Bl g→n+xs.length≤200→Fo3 r→∃u,alls k n (g++(s++r)) acc= .ok (acc++xs,u)∧sk u=sk r
  | [],_,_,_,_,_,_,h,_,_,_,_=>h.elim
  | _::_,_,_,_,0,_,_,_,hn,_,_,_=>absurd hn (by simp)
  | [x],s,g,r,k+1,n,acc,h,hk,hg,hn,hr=>by
    obtain⟨u,h1,h2⟩:=rel_w h hg hn hr.1
    refine⟨sk u,?_,by rw[sk_sk];exact h2⟩
    rw[alls,h1]
    dsimp only
    rw[next_no (by rw[word_congr h2];exact hr.2)]
  | x::y::xs,s,g,r,k+1,n,acc,⟨a,g1,h1,b,k1,k2,k3,k4,e⟩,hk,hg,hn,hr=>by
    have e1:g++(s++r)=g++(a++(g1++(97::110::100::32::(h1++(b++r))))):=by rw[e];simp
    have hs:sk (g1++(97::110::100::32::(h1++(b++r))))=[97,110,100]++((32::h1)++(b++r)):=by rw[sk_bl k2,sk_cons_ne (by decide)];rfl
    simp only[List.length_cons] at hk hn
    obtain⟨u,m1,m2⟩:=rel_w (n:=n) k1 hg (by omega) (r:=g1++(97::110::100::32::(h1++(b++r)))) (fun c v e=>by rw[hs] at e;injection e with e _;rw[← e];decide)
    obtain⟨v,m3,m4⟩:=alls_w (k:=k) (n:=n+1) (acc++[x]) k4 (by simp only[List.length_cons];omega) (g:=32::h1) (fun c hc=>by rcases List.mem_cons.1 hc with hc|hc;exact hc;exact k3 c hc) (by simp only[List.length_cons];omega) hr
    refine⟨v,?_,m4⟩
    rw[e1,alls,m1]
    dsimp only
    rw[next_yes (w:=[97,110,100]) (u:=(32::h1)++(b++r)) (by rw[m2,hs]) (by decide) (fun c v e=>by injection e with e _;rw[← e];decide)]
    dsimp only
    rw[m3];simp
def Fo4 (r:T):Prop:=Fo3 r∧word r≠[111,114]
theorem WAny.len:∀ {xs:List (List Rl)} {s:T},WAny xs s→xs.length≤s.length
  | [],_,h=>h.elim
  | [x],s,h=>by
    have:=WAll.len h
    cases x with
    | nil=>exact h.elim
    | cons y ys=>simp at this ⊢;omega
  | x::y::xs,s,⟨a,g,h,b,k1,k2,k3,k4,e⟩=>by
    have:=WAny.len k4
    rw[e]
    simp only[List.length_append,List.length_cons] at this ⊢
    omega
theorem count_cons (x:List Rl) (l:List (List Rl)):count (x::l)=x.length+count l:=by unfold count;simp
theorem anys_w:∀ {xs:List (List Rl)} {s g r:T} {k n:Nat} (acc:List (List Rl)),WAny xs s→xs.length≤k→Bl g→n+count xs≤200→Fo4 r→∃u,anys k n (g++(s++r)) acc= .ok (acc++xs,u)∧sk u=sk r
  | [],_,_,_,_,_,_,h,_,_,_,_=>h.elim
  | _::_,_,_,_,0,_,_,_,hn,_,_,_=>absurd hn (by simp)
  | [x],s,g,r,k+1,n,acc,h,hk,hg,hn,hr=>by
    rw[count_cons] at hn
    obtain⟨u,h1,h2⟩:=alls_w (k:=(g++(s++r)).length+1) (n:=n) [] h (by have:=WAll.len h;simp;omega) hg (by omega) hr.1
    refine⟨sk u,?_,by rw[sk_sk];exact h2⟩
    rw[anys,h1]
    dsimp only
    rw[next_no (by rw[word_congr h2];exact hr.2)];rfl
  | x::y::xs,s,g,r,k+1,n,acc,⟨a,g1,h1,b,k1,k2,k3,k4,e⟩,hk,hg,hn,hr=>by
    have e1:g++(s++r)=g++(a++(g1++(111::114::32::(h1++(b++r))))):=by rw[e];simp
    have hs:sk (g1++(111::114::32::(h1++(b++r))))=[111,114]++((32::h1)++(b++r)):=by rw[sk_bl k2,sk_cons_ne (by decide)];rfl
    rw[count_cons] at hn
    simp only[List.length_cons] at hk
    have hlow:∀c v,(32::h1)++(b++r)=c::v→low c=false:=fun c v e=>by injection e with e _;rw[← e];decide
    obtain⟨u,m1,m2⟩:=alls_w (k:=(g++(a++(g1++(111::114::32::(h1++(b++r)))))).length+1) (n:=n) [] k1 (by have:=WAll.len k1;simp;omega) hg (by omega) (r:=g1++(111::114::32::(h1++(b++r)))) ⟨fun c v e=>by rw[hs] at e;injection e with e _;rw[← e];decide,by rw[word_of hs (by decide) hlow];decide⟩
    obtain⟨v,m3,m4⟩:=anys_w (k:=k) (n:=n+x.length) (acc++[x]) k4 (by simp only[List.length_cons];omega) (g:=32::h1) (fun c hc=>by rcases List.mem_cons.1 hc with hc|hc;exact hc;exact k3 c hc) (by omega) hr
    refine⟨v,?_,m4⟩
    rw[e1,anys,m1]
    dsimp only
    rw[next_yes (w:=[111,114]) (u:=(32::h1)++(b++r)) (by rw[m2,hs]) (by decide) hlow]
    dsimp only
    rw[List.nil_append,m3];simp
theorem cats_facts {w:T} {c:Nat} (h:cats.idxOf? w=some c):(∀x∈w,low x=true)∧(∃x u,w=x::u∧low x=true)∧c<6:=by
  have hm:w∈cats:=by
    apply Classical.byContradiction
    intro hn
    rw[List.idxOf?_eq_none_iff.2 hn] at h
    cases h
  unfold cats at hm
  simp only[List.mem_cons,List.not_mem_nil,or_false] at hm
  rcases hm with rfl|rfl|rfl|rfl|rfl|rfl <;>
    exact⟨by decide,⟨_,_,rfl,by decide⟩,by injection h with h;rw[← h];decide⟩
def End (r:T):Prop:=r=[]∨∃u,r=59::u
theorem End.sk {r:T} (h:End r):sk r=r:=by
  rcases h with rfl|⟨u,rfl⟩
  · rfl
  · exact sk_cons_ne (by decide) _
theorem trimR_w {s j:T} (h:s.getLast? ≠ some 32) (hj:Bl j):trimR (s++j)=s:=by
  unfold trimR
  have:(s++j).reverse.dropWhile (· ==32)=s.reverse:=by
    show sk ((s++j).reverse)=_
    rw[List.reverse_append,sk_bl (fun c hc=>hj c (List.mem_reverse.1 hc))]
    cases e:s.reverse with
    | nil=>rfl
    | cons c u =>
      refine sk_cons_ne (fun hc=>h ?_) u
      rw[List.getLast?_eq_head?_reverse,e,hc];rfl
  rw[this,List.reverse_reverse]
theorem smpl_w {p j r v:T} (h:WSmp p) (hj:Bl j) (hr:End r) (hv:sk v=sk (p++(j++r))):∃u,smpl v=(p,u)∧sk u=sk r:=by
  rcases h with rfl|⟨u,h1,h2,h3⟩
  · rw[List.nil_append,sk_bl hj,hr.sk] at hv
    refine⟨r,?_,rfl⟩
    unfold smpl
    rcases hr with rfl|⟨u,rfl⟩
    · rw[hv]
    · rw[hv];rfl
  · refine⟨r,?_,rfl⟩
    have e1:sk v=(p++j)++r:=by rw[hv,h1,List.cons_append,sk_cons_ne (by decide),List.append_assoc];rfl
    have e2:((p++j)++r).takeWhile (· !=59)=p++j:=by
      refine tw_stop (fun c hc=>?_) (fun c u e=>?_)
      · rcases List.mem_append.1 hc with hc|hc
        · simpa using h2 c hc
        · rw[hj c hc];decide
      · rcases hr with rfl|⟨w,rfl⟩
        · cases e
        · injection e with e _;rw[← e];decide
    have e3:(p++j)++r=64::(u++(j++r)):=by rw[h1];simp
    unfold smpl
    rw[e1,e3]
    show smplB (64::(u++(j++r)))=_
    unfold smplB
    rw[← e3,e2,trimR_w h3 hj]
    simp
theorem Fo4.of {t:T} (h:∀c u,sk t=c::u→c=59∨c=64):Fo4 t:=by
  have hw:word t=[]:=by
    unfold word
    cases e:sk t with
    | nil=>rfl
    | cons c u =>
      rw[List.takeWhile_cons_of_neg]
      rcases h c u e with rfl|rfl <;> decide
  refine⟨⟨fun c u e=>?_,by rw[hw];decide⟩,by rw[hw];decide⟩
  rcases h c u e with rfl|rfl <;> decide
theorem Fo4.end {i p j r:T} (hi:Bl i) (h:WSmp p) (hj:Bl j) (hr:End r):Fo4 (i++(p++(j++r))):=by
  apply Fo4.of
  intro c u e
  rw[sk_bl hi] at e
  rcases h with rfl|⟨v,rfl,_⟩
  · rw[List.nil_append,sk_bl hj,hr.sk] at e
    rcases hr with rfl|⟨w,rfl⟩
    · cases e
    · injection e with e _;exact .inl e.symm
  · rw[List.cons_append,sk_cons_ne (by decide)] at e
    injection e with e _;exact .inr e.symm
theorem rule_w {x:Ru} {s g r:T} {n:Nat} {seen:List Nat} (h:WRule x s) (hg:Bl g) (hn:n+count x.any≤200) (hs:x.cat∉seen) (hr:End r):∃u,rule n seen (g++(s++r))= .ok (x,u)∧sk u=sk r:=by
  obtain⟨c,any,p⟩:=x
  obtain⟨w,g1,h1,a,i,j,k1,k2,k3,k4,k5,k6,k7,e⟩:=h
  dsimp only at k1 k4 k6 e hn hs
  obtain⟨c1,⟨y,z,c2,c3⟩,c4⟩:=cats_facts k1
  have e1:sk (g++(s++r))=w++(g1++(58::(h1++(a++(i++(p++(j++r))))))):=by
    have e0:g++(s++r)=g++(w++(g1++(58::(h1++(a++(i++(p++(j++r)))))))):=by rw[e];simp
    rw[e0,sk_bl hg,c2,List.cons_append,sk_cons_ne]
    rintro rfl
    exact absurd c3 (by decide)
  have hw:word (g++(s++r))=w:=word_of e1 c1 (bl_head k2 (by decide) (fun c u e=>by injection e with e _;rw[← e];decide))
  have e2:(sk (g++(s++r))).drop w.length=g1++(58::(h1++(a++(i++(p++(j++r)))))):=by rw[e1];simp
  unfold rule
  dsimp only
  rw[hw,k1]
  dsimp only
  rw[if_neg hs,e2,tk_yes (w:=[58]) (u:=h1++(a++(i++(p++(j++r))))) (by rw[sk_bl k2,sk_cons_ne (by decide)];rfl)]
  dsimp only
  rcases k4 with ⟨rfl,rfl,rfl⟩|⟨d1,d2⟩
  · rw[if_pos rfl]
    dsimp only
    obtain⟨u,m1,m2⟩:=smpl_w (v:=h1++([]++(i++(p++(j++r))))) k6 k7 hr (by rw[sk_bl k3,List.nil_append,sk_bl k5])
    exact⟨u,by rw[m1],m2⟩
  · rw[if_neg d1]
    obtain⟨v,m3,m4⟩:=anys_w (k:=(h1++(a++(i++(p++(j++r))))).length+1) (n:=n) [] d2 (by have:=WAny.len d2;simp;omega) k3 hn (Fo4.end k5 k6 k7 hr)
    rw[m3]
    dsimp only
    obtain⟨u,m1,m2⟩:=smpl_w (v:=v) k6 k7 hr (by rw[m4,sk_bl k5])
    exact⟨u,by rw[m1];rfl,m2⟩
theorem WRule.head {x:Ru} {s:T} (h:WRule x s):∃c u,s=c::u∧low c=true:=by
  obtain⟨w,g1,h1,a,i,j,k1,_,_,_,_,_,_,e⟩:=h
  obtain⟨_,⟨y,z,c2,c3⟩,_⟩:=cats_facts k1
  exact⟨y,_,by rw[e,c2];rfl,c3⟩
theorem peek_w {x:Ru} {g s r:T} (h:WRule x s) (hg:Bl g):peek (g++(s++r))≠0:=by
  obtain⟨c,u,rfl,hc⟩:=h.head
  unfold peek
  rw[sk_bl hg,List.cons_append,sk_cons_ne (by rintro rfl;exact absurd hc (by decide))]
  show c≠0
  rintro rfl;exact absurd hc (by decide)
theorem WRules.len:∀ {xs:List Ru} {s:T},WRules xs s→xs.length≤s.length
  | [],_,_=>by simp
  | [x],s,⟨g,a,e,k1,k2,k3,k4⟩=>by
    obtain⟨c,u,rfl,_⟩:=k2.head
    rw[k4];simp;omega
  | x::y::xs,s,⟨g,a,b,k1,k2,k3,k4⟩=>by
    have:=WRules.len k3
    rw[k4]
    simp only[List.length_append,List.length_cons] at this ⊢
    omega
def total (l:List Ru):Nat:=(l.map fun x=>count x.any).sum
theorem total_cons (x:Ru) (l:List Ru):total (x::l)=count x.any+total l:=by unfold total;simp
theorem rules_bl {k n:Nat} {seen:List Nat} {s:T} {acc:List Ru} (h:Bl s) (hk:0<k):rules k n seen s acc= .ok acc:=by
  obtain⟨k,rfl⟩:∃k',k=k'+1:=⟨k-1,by omega⟩
  rw[rules,if_pos (by unfold peek;rw[sk_bl0 h];rfl)]
  unfold fin
  rw[if_pos (sk_bl0 h)]
theorem rules_w:∀ {xs:List Ru} {s:T} {k n:Nat} {seen:List Nat} (acc:List Ru),WRules xs s→xs.length<k→n+total xs≤200→(xs.map (·.cat)).Nodup→(∀x∈xs,x.cat∉seen)→rules k n seen s acc= .ok (acc++xs)
  | [],s,k,n,seen,acc,h,hk,_,_,_=>by rw[rules_bl h (by omega),List.append_nil]
  | _::_,_,0,_,_,_,_,hk,_,_,_=>absurd hk (by simp)
  | [x],s,k+1,n,seen,acc,⟨g,a,e,k1,k2,k3,k4⟩,hk,hn,hd,hs=>by
    rw[total_cons] at hn
    obtain⟨u,m1,m2⟩:=rule_w (r:=e) (n:=n) (seen:=seen) k2 k1 (by omega) (hs x (by simp)) (by rcases k3 with rfl|⟨f,rfl,_⟩;exact .inl rfl;exact .inr ⟨f,rfl⟩)
    rw[k4,rules,if_neg (peek_w k2 k1),m1]
    dsimp only
    rcases k3 with rfl|⟨f,rfl,hf⟩
    · rw[tk_no (fun c v e=>by rw[m2] at e;cases e)]
      dsimp only
      unfold fin
      rw[if_pos (by rw[m2];rfl)]
    · rw[tk_yes (w:=[59]) (u:=f) (by rw[m2,sk_cons_ne (by decide)];rfl)]
      dsimp only
      rw[rules_bl hf (by simp at hk;omega)]
  | x::y::xs,s,k+1,n,seen,acc,⟨g,a,b,k1,k2,k3,k4⟩,hk,hn,hd,hs=>by
    rw[total_cons] at hn
    obtain⟨u,m1,m2⟩:=rule_w (r:=59::b) (n:=n) (seen:=seen) k2 k1 (by omega) (hs x (by simp)) (.inr ⟨b,rfl⟩)
    rw[k4,rules,if_neg (peek_w k2 k1),m1]
    dsimp only
    rw[tk_yes (w:=[59]) (u:=b) (by rw[m2,sk_cons_ne (by decide)];rfl)]
    dsimp only
    rw[List.map_cons,List.nodup_cons] at hd
    rw[rules_w (k:=k) (acc++[x]) k3 (by simp only[List.length_cons] at hk ⊢;omega) (by omega) hd.2 (fun z hz=>by
      intro hm
      rcases List.mem_append.1 hm with hm|hm
      · exact hs z (List.mem_cons_of_mem _ hz) hm
      · rw[List.mem_singleton] at hm
        exact hd.1 (hm▸List.mem_map_of_mem hz))]
    simp
theorem parse_w {xs:List Ru} {s:T} (h:WRules xs s) (hn:total xs≤200) (hd:(xs.map (·.cat)).Nodup):parse s= .ok xs:=by
  unfold parse
  rw[rules_w [] h (by have:=h.len;omega) (by omega) hd (by simp)];rfl
end RG
end Go.Proofs.YtcokjmnkieakiaaDoor.FM
namespace Go.Proofs.YtcokjmnkieakiaaDoor.FM
namespace RG
/-! rules as they are written by the program -/
def jn (sep:T):List T→T
  | []=>[]
  | [x]=>x
  | x::y::l=>x++(sep++jn sep (y::l))
theorem jn_eq (sep:T):∀l:List T,sep.intercalate l=jn sep l
  | []=>rfl
  | [x]=>by simp[jn,List.intercalate]
  | x::y::l=>by rw[jn, ← jn_eq sep (y::l)];simp[List.intercalate,List.intersperse]
def dgs (n:Nat):T:=if n=0 then [48] else mkl n
def wrSpan (x:Nat × Nat):T:=if x.1=x.2 then dgs x.1 else dgs x.1++(46::46::dgs x.2)
def wrSpans (l:List (Nat × Nat)):T:=jn [44] (l.map wrSpan)
def wrMod (m:Nat):T:=if m=0 then [] else 32::37::32::dgs m
def wrSgn (b:Bool):T:=if b then [32,33,61,32] else [32,61,32]
def wrRel (x:Rl):T:=x.op::(wrMod x.md++(wrSgn x.nt++wrSpans x.rs))
def wrAll (l:List Rl):T:=jn [32,97,110,100,32] (l.map wrRel)
def wrAny (l:List (List Rl)):T:=jn [32,111,114,32] (l.map wrAll)
def wrRule (x:Ru):T:=cats.getD x.cat []++(58::((if x.any=[] then [] else 32::wrAny x.any)++(if x.smp=[] then [] else 32::x.smp)))
def wr (l:List Ru):T:=jn [59,32] (l.map wrRule)
def WfS (x:Nat × Nat):Prop:=x.1≤x.2∧x.2<10 ^ 9
def WfR (x:Rl):Prop:=x.op∈ops∧x.md<10 ^ 9∧x.rs≠[]∧∀y∈x.rs,WfS y
def WfA (l:List Rl):Prop:=l≠[]∧∀x∈l,WfR x
def WfU (x:Ru):Prop:=x.cat<6∧((x.cat=5∧x.any=[])∨(x.cat≠5∧x.any≠[]∧∀a∈x.any,WfA a))∧WSmp x.smp
theorem Dg_dgs {n:Nat} (h:n<10 ^ 9):Dg n (dgs n):=by
  unfold dgs
  by_cases h0:n=0
  · rw[if_pos h0,h0];exact⟨by decide,by decide,by decide,by decide,by decide⟩
  · rw[if_neg h0]
    refine⟨fun hh=>h0 (mkl_eq_nil.1 hh),fun c hc=>?_,fun _=>bare_mkl n,mkl_length_le.2 h,nvl_mkl n⟩
    have:=dig_mkl n c hc
    unfold dig
    simp;omega
theorem Bl_nil:Bl []:=fun c hc=>by cases hc
theorem Bl_one:Bl [32]:=fun c hc=>by simpa using hc
theorem WSpan_wr {x:Nat × Nat} (h:WfS x):WSpan x (wrSpan x):=by
  obtain⟨h1,h2⟩:=h
  unfold wrSpan
  by_cases e:x.1=x.2
  · rw[if_pos e];exact .inl ⟨Dg_dgs (by omega),e.symm⟩
  · rw[if_neg e];exact .inr ⟨_,[],[],_,Dg_dgs (by omega),Bl_nil,Bl_nil,Dg_dgs h2,h1,rfl⟩
theorem WSpans_wr:∀ {l:List (Nat × Nat)},l≠[]→(∀x∈l,WfS x)→WSpans l (wrSpans l)
  | [],h,_=>absurd rfl h
  | [x],_,h=>WSpan_wr (h x (by simp))
  | x::y::l,_,h=>⟨_,[],[],_,WSpan_wr (h x (by simp)),Bl_nil,Bl_nil,WSpans_wr (l:=y::l) (by simp) (fun z hz=>h z (by simp[hz])),rfl⟩
theorem WRel_wr {x:Rl} (h:WfR x):WRel x (wrRel x):=by
  obtain⟨op,md,nt,rs⟩:=x
  obtain⟨h1,h2,h3,h4⟩:=h
  dsimp only at h1 h2 h3 h4
  by_cases hm:md=0
  · refine⟨[32],[],[32],wrSpans rs,h1,Bl_one,.inl ⟨hm,rfl⟩,Bl_one,WSpans_wr h3 h4,?_⟩
    unfold wrRel wrMod wrSgn
    dsimp only
    rw[if_pos hm]
    cases nt <;> rfl
  · refine⟨[32],37::([32]++(dgs md++[32])),[32],wrSpans rs,h1,Bl_one,.inr ⟨[32],dgs md,[32],Bl_one,Dg_dgs h2,Bl_one,hm,rfl⟩,Bl_one,WSpans_wr h3 h4,?_⟩
    unfold wrRel wrMod wrSgn
    dsimp only
    rw[if_neg hm]
    cases nt <;> simp
theorem WAll_wr:∀ {l:List Rl},WfA l→WAll l (wrAll l)
  | [],h=>absurd rfl h.1
  | [x],h=>WRel_wr (h.2 x (by simp))
  | x::y::l,h=>⟨_,[32],[],_,WRel_wr (h.2 x (by simp)),Bl_one,Bl_nil,WAll_wr (l:=y::l) ⟨by simp,fun z hz=>h.2 z (by simp[hz])⟩,rfl⟩
theorem WAny_wr:∀ {l:List (List Rl)},l≠[]→(∀a∈l,WfA a)→WAny l (wrAny l)
  | [],h,_=>absurd rfl h
  | [x],_,h=>WAll_wr (h x (by simp))
  | x::y::l,_,h=>⟨_,[32],[],_,WAll_wr (h x (by simp)),Bl_one,Bl_nil,WAny_wr (l:=y::l) (by simp) (fun z hz=>h z (by simp[hz])),rfl⟩
theorem cats_idx {c:Nat} (h:c<6):cats.idxOf? (cats.getD c [])=some c:=by
  have:c=0∨c=1∨c=2∨c=3∨c=4∨c=5:=by omega
  rcases this with rfl|rfl|rfl|rfl|rfl|rfl <;> decide
theorem WRule_wr {x:Ru} (h:WfU x):WRule x (wrRule x):=by
  obtain⟨c,any,p⟩:=x
  obtain⟨h1,h2,h3⟩:=h
  dsimp only at h1 h2 h3
  have hp:∃i,Bl i∧(if p=[] then [] else 32::p)=i++(p++[]):=by
    by_cases e:p=[]
    · exact⟨[],Bl_nil,by rw[if_pos e,e];rfl⟩
    · exact⟨[32],Bl_one,by rw[if_neg e];simp⟩
  obtain⟨i,hi,ei⟩:=hp
  rcases h2 with ⟨a1,a2⟩|⟨a1,a2,a3⟩
  · refine⟨_,[],[],[],i,[],cats_idx h1,Bl_nil,Bl_nil,.inl ⟨a1,a2,rfl⟩,hi,h3,Bl_nil,?_⟩
    unfold wrRule
    dsimp only
    rw[if_pos a2,ei];rfl
  · refine⟨_,[],[32],wrAny any,i,[],cats_idx h1,Bl_nil,Bl_one,.inr ⟨a1,WAny_wr a2 a3⟩,hi,h3,Bl_nil,?_⟩
    unfold wrRule
    dsimp only
    rw[if_neg a2,ei];simp
theorem WRules_bl:∀ {xs:List Ru} {s g:T},WRules xs s→Bl g→WRules xs (g++s)
  | [],s,g,h,hg=>fun c hc=>by rcases List.mem_append.1 hc with hc|hc;exact hg c hc;exact h c hc
  | [x],s,g,⟨g1,a,e,k1,k2,k3,k4⟩,hg=>⟨g++g1,a,e,fun c hc=>by rcases List.mem_append.1 hc with hc|hc;exact hg c hc;exact k1 c hc,k2,k3,by rw[k4];simp⟩
  | x::y::xs,s,g,⟨g1,a,b,k1,k2,k3,k4⟩,hg=>⟨g++g1,a,b,fun c hc=>by rcases List.mem_append.1 hc with hc|hc;exact hg c hc;exact k1 c hc,k2,k3,by rw[k4];simp⟩
theorem WRules_wr:∀ {l:List Ru},(∀x∈l,WfU x)→WRules l (wr l)
  | [],_=>Bl_nil
  | [x],h=>⟨[],wrRule x,[],Bl_nil,WRule_wr (h x (by simp)),.inl rfl,by simp[wr,jn]⟩
  | x::y::l,h=>⟨[],_,_,Bl_nil,WRule_wr (h x (by simp)),WRules_bl (WRules_wr (l:=y::l) (fun z hz=>h z (by simp[hz]))) Bl_one,rfl⟩
/-- rules as they are written are read as these rules -/
theorem parse_wr {l:List Ru} (h:∀x∈l,WfU x) (hn:total l≤200) (hd:(l.map (·.cat)).Nodup):parse (wr l)= .ok l:=parse_w (WRules_wr h) hn hd
end RG
end Go.Proofs.YtcokjmnkieakiaaDoor.FM
namespace Go.Proofs.YtcokjmnkieakiaaDoor.FM
namespace RG
/-! what is read is well formed; as it is written it is at most three times as long; too many relations need a long text -/
theorem sk_len (t:T):(sk t).length≤t.length:=(List.dropWhile_suffix _).length_le
theorem tk_len {w t u:T} (h:tk w t=some u):u.length+w.length≤t.length:=by
  unfold tk at h
  split at h
  · rename_i hp
    have h1:=hp.length_le
    have h2:=sk_len t
    injection h with h
    rw[← h,List.length_drop];omega
  · cases h
theorem next_len {w t u:T} (h:next w t=some u):u.length+w.length≤t.length:=by
  unfold next at h
  split at h
  · rename_i hp
    have h1:w.length≤(sk t).length:=by rw[← hp];exact(List.takeWhile_prefix _).length_le
    have h2:=sk_len t
    injection h with h
    rw[← h,List.length_drop];omega
  · cases h
theorem dgs_len_le {d:T} (h0:d≠[]) (hd:∀c∈d,dig c=true):(dgs (nvl d)).length≤d.length:=by
  unfold dgs
  split
  · have:=List.length_pos_iff.2 h0
    simp only[List.length_cons,List.length_nil];omega
  · refine mkl_length_le.2 (nvl_lt fun c hc=>?_)
    have:=hd c hc
    unfold dig at this
    simp only[Bool.and_eq_true,decide_eq_true_eq] at this
    exact this
theorem value_good {t u:T} {v:Nat} (h:value t= .ok (v,u)):v<10 ^ 9∧(dgs v).length+u.length≤t.length:=by
  unfold value at h
  dsimp only at h
  split at h
  · cases h
  rename_i c1
  split at h
  · cases h
  rename_i c2
  injection h with h
  injection h with e1 e2
  have hd:∀c∈(sk t).takeWhile dig,dig c=true:=fun c hc=>List.all_eq_true.1 List.all_takeWhile c hc
  have h0:(sk t).takeWhile dig≠[]:=fun e=>c1 (.inl e)
  have h1:=dgs_len_le h0 hd
  have h2:((sk t).takeWhile dig).length≤(sk t).length:=(List.takeWhile_prefix _).length_le
  have h3:=sk_len t
  have h4:nvl ((sk t).takeWhile dig)<10 ^ ((sk t).takeWhile dig).length:=nvl_lt fun c hc=>by
    have:=hd c hc
    unfold dig at this
    simp only[Bool.and_eq_true,decide_eq_true_eq] at this
    exact this
  rw[e1] at h1 h4
  refine⟨Nat.lt_of_lt_of_le h4 (Nat.pow_le_pow_right (by decide) (by omega)),?_⟩
  rw[← e2,List.length_drop];omega
theorem span_good {t u:T} {x:Nat × Nat} (h:span t= .ok (x,u)):WfS x∧(wrSpan x).length+u.length≤t.length:=by
  unfold span at h
  split at h
  · cases h
  rename_i lo v e1
  obtain⟨a1,a2⟩:=value_good e1
  split at h
  · injection h with h
    injection h with g1 g2
    subst g1 g2
    refine⟨⟨Nat.le_refl _,a1⟩,?_⟩
    have:=sk_len v
    unfold wrSpan
    rw[if_pos rfl];dsimp only;omega
  · rename_i v2 e2
    split at h
    · cases h
    rename_i hi y e3
    split at h
    · cases h
    rename_i c3
    injection h with h
    injection h with g1 g2
    subst g1 g2
    obtain⟨b1,b2⟩:=value_good e3
    have:=tk_len e2
    refine⟨⟨by dsimp only;omega,b1⟩,?_⟩
    unfold wrSpan
    dsimp only
    split
    · omega
    · simp only[List.length_append,List.length_cons,List.length_nil] at this ⊢;omega
theorem jn_cons_len (sep x:T) {xs:List T} (h:xs≠[]):(jn sep (x::xs)).length=x.length+sep.length+(jn sep xs).length:=by
  cases xs with
  | nil=>exact absurd rfl h
  | cons y ys=>rw[jn];simp only[List.length_append];omega
theorem spans_good:∀(n:Nat) {t u:T} {acc out:List (Nat × Nat)},spans n t acc= .ok (out,u)→∃ys,ys≠[]∧out=acc++ys∧(∀y∈ys,WfS y)∧(wrSpans ys).length+u.length≤t.length
  | 0,t,u,acc,out,h=>by cases h
  | n+1,t,u,acc,out,h=>by
    rw[spans] at h
    split at h
    · cases h
    rename_i x v e1
    obtain⟨a1,a2⟩:=span_good e1
    split at h
    · injection h with h
      injection h with g1 g2
      subst g1 g2
      have:=sk_len v
      exact⟨[x],by simp,rfl,fun y hy=>by rw[List.mem_singleton] at hy;rw[hy];exact a1,by show(wrSpan x).length+_≤_;omega⟩
    · rename_i w e2
      obtain⟨ys,b1,b2,b3,b4⟩:=spans_good n h
      have:=tk_len e2
      refine⟨x::ys,by simp,by rw[b2];simp,fun y hy=>?_,?_⟩
      · rcases List.mem_cons.1 hy with rfl|hy
        · exact a1
        · exact b3 y hy
      · unfold wrSpans at b4 ⊢
        rw[List.map_cons,jn_cons_len _ _ (by simpa using b1)]
        simp only[List.length_cons,List.length_nil] at this ⊢
        omega
theorem modq_good {u x:T} {m:Nat} (h:modq u= .ok (m,x)):m<10 ^ 9∧(wrMod m).length+3*x.length≤3*u.length:=by
  unfold modq at h
  split at h
  · injection h with h
    injection h with g1 g2
    subst g1 g2
    have:=sk_len u
    exact⟨by decide,by show 0+_≤_;omega⟩
  · rename_i v e1
    split at h
    · cases h
    rename_i m' x' e2
    split at h
    · cases h
    rename_i c
    injection h with h
    injection h with g1 g2
    subst g1 g2
    obtain⟨b1,b2⟩:=value_good e2
    have:=tk_len e1
    refine⟨b1,?_⟩
    unfold wrMod
    rw[if_neg c]
    simp only[List.length_cons,List.length_nil] at this ⊢
    omega
theorem sgn_good {x y:T} {b:Bool} (h:sgn x= .ok (b,y)):(wrSgn b).length+3*y.length≤3*x.length∧y.length+1≤x.length:=by
  unfold sgn at h
  split at h
  · rename_i w e1
    injection h with h
    injection h with g1 g2
    subst g1 g2
    have:=tk_len e1
    simp only[List.length_cons,List.length_nil] at this
    exact⟨by show 4+_≤_;omega,by omega⟩
  · split at h
    · rename_i w e1
      injection h with h
      injection h with g1 g2
      subst g1 g2
      have:=tk_len e1
      simp only[List.length_cons,List.length_nil] at this
      exact⟨by show 3+_≤_;omega,by omega⟩
    · cases h
theorem relB_good {c:UInt8} {u w:T} {x:Rl} (h:relB c u= .ok (x,w)):x.op=c∧x.md<10 ^ 9∧x.rs≠[]∧(∀y∈x.rs,WfS y)∧(wrRel x).length+3*w.length≤3*u.length+1∧w.length+1≤u.length:=by
  unfold relB at h
  split at h
  · cases h
  rename_i m v e1
  obtain⟨a1,a2⟩:=modq_good e1
  split at h
  · cases h
  rename_i b y e2
  obtain⟨b1,b2⟩:=sgn_good e2
  split at h
  · cases h
  rename_i rs z e3
  obtain⟨ys,c1,c2,c3,c4⟩:=spans_good _ e3
  injection h with h
  injection h with g1 g2
  subst g1 g2
  rw[List.nil_append] at c2
  subst c2
  refine⟨rfl,a1,c1,c3,?_,?_⟩
  · unfold wrRel
    simp only[List.length_cons,List.length_append]
    omega
  · omega
theorem word_len (t:T):(word t).length≤(sk t).length:=(List.takeWhile_prefix _).length_le
theorem rel_good {n:Nat} {t u:T} {x:Rl} (h:rel n t= .ok (x,u)):WfR x∧n+1≤200∧(wrRel x).length+3*u.length≤3*t.length∧u.length+2≤t.length:=by
  unfold rel at h
  split at h
  · rename_i c hw
    split at h
    · rename_i ho
      split at h
      · cases h
      rename_i hn
      obtain⟨a1,a2,a3,a4,a5,a6⟩:=relB_good h
      have h1:=word_len t
      rw[hw,List.length_singleton] at h1
      have h2:=sk_len t
      rw[List.length_drop] at a5 a6
      exact⟨⟨a1▸ho,a2,a3,a4⟩,by omega,by omega,by omega⟩
    · cases h
  · cases h
theorem alls_good:∀(k:Nat) {n:Nat} {t u:T} {acc out:List Rl},alls k n t acc= .ok (out,u)→∃ys,ys≠[]∧out=acc++ys∧(∀y∈ys,WfR y)∧n+ys.length≤200∧(wrAll ys).length+3*u.length≤3*t.length∧u.length+2*ys.length≤t.length
  | 0,n,t,u,acc,out,h=>by cases h
  | k+1,n,t,u,acc,out,h=>by
    rw[alls] at h
    split at h
    · cases h
    rename_i x v e1
    obtain⟨a1,a2,a3,a4⟩:=rel_good e1
    split at h
    · injection h with h
      injection h with g1 g2
      subst g1 g2
      have:=sk_len v
      exact⟨[x],by simp,rfl,fun y hy=>by rw[List.mem_singleton] at hy;rw[hy];exact a1,a2,by show(wrRel x).length+_≤_;omega,by simp only[List.length_singleton];omega⟩
    · rename_i w e2
      obtain⟨ys,b1,b2,b3,b4,b5,b6⟩:=alls_good k h
      have:=next_len e2
      simp only[List.length_cons,List.length_nil] at this
      refine⟨x::ys,by simp,by rw[b2];simp,fun y hy=>?_,?_,?_,?_⟩
      · rcases List.mem_cons.1 hy with rfl|hy
        · exact a1
        · exact b3 y hy
      · rw[List.length_cons];omega
      · unfold wrAll at b5 ⊢
        rw[List.map_cons,jn_cons_len _ _ (by simpa using b1)]
        simp only[List.length_cons,List.length_nil]
        omega
      · rw[List.length_cons];omega
theorem anys_good:∀(k:Nat) {n:Nat} {t u:T} {acc out:List (List Rl)},anys k n t acc= .ok (out,u)→∃ys,ys≠[]∧out=acc++ys∧(∀y∈ys,WfA y)∧n+count ys≤200∧(wrAny ys).length+3*u.length≤3*t.length∧u.length+2*count ys≤t.length
  | 0,n,t,u,acc,out,h=>by cases h
  | k+1,n,t,u,acc,out,h=>by
    rw[anys] at h
    split at h
    · cases h
    rename_i x v e1
    obtain⟨xs,a0,a1,a2,a3,a4,a5⟩:=alls_good _ e1
    rw[List.nil_append] at a1
    subst a1
    split at h
    · injection h with h
      injection h with g1 g2
      subst g1 g2
      have:=sk_len v
      exact⟨[x],by simp,rfl,fun y hy=>by rw[List.mem_singleton] at hy;rw[hy];exact⟨a0,a2⟩,by rw[count_cons];show n+(x.length+0)≤_;omega,by show(wrAll x).length+_≤_;omega,by rw[count_cons];show _+2*(x.length+0)≤_;omega⟩
    · rename_i w e2
      obtain⟨ys,b1,b2,b3,b4,b5,b6⟩:=anys_good k h
      have:=next_len e2
      simp only[List.length_cons,List.length_nil] at this
      refine⟨x::ys,by simp,by rw[b2];simp,fun y hy=>?_,?_,?_,?_⟩
      · rcases List.mem_cons.1 hy with rfl|hy
        · exact⟨a0,a2⟩
        · exact b3 y hy
      · rw[count_cons];omega
      · unfold wrAny at b5 ⊢
        rw[List.map_cons,jn_cons_len _ _ (by simpa using b1)]
        simp only[List.length_cons,List.length_nil]
        omega
      · rw[count_cons];omega
theorem trimR_pre (t:T):∃j,t=trimR t++j:=by
  refine⟨(t.reverse.takeWhile (· ==32)).reverse,?_⟩
  unfold trimR
  rw[← List.reverse_append,List.takeWhile_append_dropWhile,List.reverse_reverse]
theorem trimR_last (t:T):(trimR t).getLast? ≠ some 32:=by
  unfold trimR
  intro h
  rw[List.getLast?_reverse] at h
  have:=List.head?_dropWhile_not (p:=fun x:UInt8=>x==32) t.reverse
  rw[h] at this
  simp at this
theorem trimR_head {u:T}:∃v,trimR (64::u)=64::v:=by
  obtain⟨j,hj⟩:=trimR_pre (64::u)
  cases e:trimR (64::u) with
  | cons c v =>
    rw[e] at hj
    injection hj with h1 _
    exact⟨v,by rw[← h1]⟩
  | nil =>
    exfalso
    have e2:(64::u).reverse.dropWhile (· ==(32:UInt8))=[]:=by
      have:=congrArg List.reverse e
      unfold trimR at this
      rwa [List.reverse_reverse] at this
    have h1:=List.takeWhile_append_dropWhile (p:=fun x:UInt8=>x==32) (l:=(64::u).reverse)
    rw[e2,List.append_nil] at h1
    have h2:=List.all_eq_true.1 (List.all_takeWhile (p:=fun x:UInt8=>x==32) (l:=(64::u).reverse)) 64 (by rw[h1];simp)
    exact absurd h2 (by decide)
theorem smpl_good (t:T):WSmp (smpl t).1∧(smpl t).1.length+(smpl t).2.length≤t.length:=by
  have h2:=sk_len t
  unfold smpl
  split
  · rename_i u e
    rw[e] at h2
    unfold smplB
    dsimp only
    have hc:(64::u).takeWhile (fun x:UInt8=>x !=59)=64::u.takeWhile (fun x:UInt8=>x !=59):=List.takeWhile_cons_of_pos (by decide)
    have hle:((64::u).takeWhile (fun x:UInt8=>x !=59)).length≤(64::u).length:=(List.takeWhile_prefix _).length_le
    obtain⟨j,hj⟩:=trimR_pre ((64::u).takeWhile (fun x:UInt8=>x !=59))
    have hjl:=congrArg List.length hj
    rw[List.length_append] at hjl
    refine⟨.inr ?_,?_⟩
    · rw[hc]
      obtain⟨v,hv⟩:=trimR_head (u:=u.takeWhile (fun x:UInt8=>x !=59))
      refine⟨v,hv,fun c hcm=>?_,trimR_last _⟩
      have h3:c∈(64::u).takeWhile (fun x:UInt8=>x !=59):=by
        rw[hj];exact List.mem_append_left _ (by rw[hc];exact hcm)
      have:=List.all_eq_true.1 List.all_takeWhile c h3
      simpa using this
    · rw[List.length_drop];omega
  · exact⟨.inl rfl,by dsimp only;simp only[List.length_nil];omega⟩
theorem cats_len {w:T} {c:Nat} (h:cats.idxOf? w=some c):cats.getD c []=w:=by
  have hm:w∈cats:=by
    apply Classical.byContradiction
    intro hn
    rw[List.idxOf?_eq_none_iff.2 hn] at h
    cases h
  unfold cats at hm
  simp only[List.mem_cons,List.not_mem_nil,or_false] at hm
  rcases hm with rfl|rfl|rfl|rfl|rfl|rfl <;> (injection h with h;rw[← h];rfl)
theorem rule_good {n:Nat} {seen:List Nat} {t u:T} {x:Ru} (h:rule n seen t= .ok (x,u)) (hn:n≤200):WfU x∧x.cat∉seen∧n+count x.any≤200∧(wrRule x).length+3*u.length≤3*t.length∧u.length+2*count x.any≤t.length:=by
  unfold rule at h
  dsimp only at h
  split at h
  · cases h
  rename_i c e1
  obtain⟨_,_,hc6⟩:=cats_facts e1
  have hcw:=cats_len e1
  split at h
  · cases h
  rename_i hns
  split at h
  · cases h
  rename_i v e2
  have h1:=word_len t
  have h2:=sk_len t
  have h3:=tk_len e2
  rw[List.length_drop] at h3
  simp only[List.length_cons,List.length_nil] at h3
  split at h
  · cases h
  rename_i any w e3
  injection h with h
  injection h with k1 k2
  subst k1 k2
  obtain⟨s1,s2⟩:=smpl_good w
  have hs:((if (smpl w).1=[] then [] else 32::(smpl w).1:T)).length≤3*(smpl w).1.length:=by
    split
    · simp
    · rename_i hne
      have:=List.length_pos_iff.2 hne
      rw[List.length_cons];omega
  by_cases h5:c=5
  · rw[if_pos h5] at e3
    injection e3 with e3
    injection e3 with g1 g2
    subst g1 g2
    refine⟨⟨hc6,.inl ⟨h5,rfl⟩,s1⟩,hns,hn,?_,?_⟩
    · unfold wrRule
      dsimp only
      rw[hcw,if_pos rfl]
      simp only[List.length_append,List.length_cons,List.length_nil]
      omega
    · show _+2*0≤_
      omega
  · rw[if_neg h5] at e3
    obtain⟨ys,b1,b2,b3,b4,b5,b6⟩:=anys_good _ e3
    rw[List.nil_append] at b2
    subst b2
    refine⟨⟨hc6,.inr ⟨h5,b1,b3⟩,s1⟩,hns,b4,?_,?_⟩
    · unfold wrRule
      dsimp only
      rw[hcw,if_neg b1]
      simp only[List.length_append,List.length_cons]
      omega
    · dsimp only;omega
theorem fin_good {t:T} {acc out:List Ru} (h:fin t acc= .ok out):out=acc:=by
  unfold fin at h
  split at h
  · injection h with h;exact h.symm
  · cases h
theorem rules_good:∀(k:Nat) {n:Nat} {seen:List Nat} {t:T} {acc out:List Ru},rules k n seen t acc= .ok out→n≤200→∃ys,out=acc++ys∧(∀y∈ys,WfU y)∧n+total ys≤200∧(ys.map (·.cat)).Nodup∧(∀y∈ys,y.cat∉seen)∧(wr ys).length≤3*t.length
  | 0,n,seen,t,acc,out,h,hn=>by cases h
  | k+1,n,seen,t,acc,out,h,hn=>by
    rw[rules] at h
    split at h
    · exact⟨[],by rw[fin_good h];simp,by simp,hn,by simp,by simp,by show 0≤_;omega⟩
    split at h
    · cases h
    rename_i x v e1
    obtain⟨a1,a2,a3,a4,a5⟩:=rule_good e1 hn
    split at h
    · refine⟨[x],fin_good h,fun y hy=>by rw[List.mem_singleton] at hy;rw[hy];exact a1,by rw[total_cons];show n+(_+0)≤_;omega,by simp,fun y hy=>by rw[List.mem_singleton] at hy;rw[hy];exact a2,by show(wrRule x).length≤_;omega⟩
    · rename_i w e2
      have:=tk_len e2
      simp only[List.length_cons,List.length_nil] at this
      obtain⟨ys,b2,b3,b4,b5,b6,b7⟩:=rules_good k h a3
      refine⟨x::ys,by rw[b2];simp,fun y hy=>?_,by rw[total_cons];omega,?_,fun y hy=>?_,?_⟩
      · rcases List.mem_cons.1 hy with rfl|hy
        · exact a1
        · exact b3 y hy
      · rw[List.map_cons,List.nodup_cons]
        refine⟨fun hm=>?_,b5⟩
        obtain⟨y,hy,e⟩:=List.mem_map.1 hm
        exact b6 y hy (by rw[e];simp)
      · rcases List.mem_cons.1 hy with rfl|hy
        · exact a2
        · exact fun hm=>b6 y hy (List.mem_append_left _ hm)
      · by_cases hy:ys=[]
        · subst hy
          show(wrRule x).length≤_
          omega
        · unfold wr at b7 ⊢
          rw[List.map_cons,jn_cons_len _ _ (by simpa using hy)]
          simp only[List.length_cons,List.length_nil]
          omega
/-- what is read is well formed, and not much longer when it is written -/
theorem parse_good {t:T} {out:List Ru} (h:parse t= .ok out):(∀x∈out,WfU x)∧total out≤200∧(out.map (·.cat)).Nodup∧(wr out).length≤3*t.length:=by
  obtain⟨ys,a1,a2,a3,a4,_,a6⟩:=rules_good _ h (by decide)
  rw[List.nil_append] at a1
  subst a1
  exact⟨a2,by omega,a4,a6⟩
/-! too many -/
theorem value_nm {t r:T}:value t≠ .error (.many,r):=by
  intro h
  unfold value at h
  dsimp only at h
  split at h
  · cases h
  · split at h <;> cases h
theorem span_nm {t r:T}:span t≠ .error (.many,r):=by
  intro h
  unfold span at h
  split at h
  · rename_i e1
    injection h with h
    rw[h] at e1
    exact value_nm e1
  split at h
  · cases h
  split at h
  · rename_i e1
    injection h with h
    rw[h] at e1
    exact value_nm e1
  split at h <;> cases h
theorem spans_nm:∀(n:Nat) {t r:T} {acc:List (Nat × Nat)},spans n t acc≠ .error (.many,r)
  | 0,t,r,acc=>by intro h;cases h
  | n+1,t,r,acc=>by
    intro h
    rw[spans] at h
    split at h
    · rename_i e1
      injection h with h
      rw[h] at e1
      exact span_nm e1
    split at h
    · cases h
    · exact spans_nm n h
theorem relB_nm {c:UInt8} {u r:T}:relB c u≠ .error (.many,r):=by
  intro h
  unfold relB at h
  split at h
  · rename_i e1
    injection h with h
    rw[h] at e1
    unfold modq at e1
    split at e1
    · cases e1
    split at e1
    · rename_i e2
      injection e1 with e1
      rw[e1] at e2
      exact value_nm e2
    split at e1 <;> cases e1
  split at h
  · rename_i e1
    injection h with h
    rw[h] at e1
    unfold sgn at e1
    split at e1
    · cases e1
    split at e1 <;> cases e1
  split at h
  · rename_i e1
    injection h with h
    rw[h] at e1
    exact spans_nm _ e1
  · cases h
theorem rel_nm {n:Nat} {t r:T} (h:rel n t= .error (.many,r)):400≤2*n:=by
  unfold rel at h
  split at h
  · split at h
    · split at h
      · omega
      · exact absurd h relB_nm
    · cases h
  · cases h
theorem alls_nm:∀(k:Nat) {n:Nat} {t r:T} {acc:List Rl},alls k n t acc= .error (.many,r)→400≤2*n+t.length
  | 0,n,t,r,acc,h=>by cases h
  | k+1,n,t,r,acc,h=>by
    rw[alls] at h
    split at h
    · rename_i e1
      injection h with h
      rw[h] at e1
      have:=rel_nm e1
      omega
    rename_i x v e1
    obtain⟨_,_,_,a4⟩:=rel_good e1
    split at h
    · cases h
    · rename_i w e2
      have:=next_len e2
      have:=alls_nm k h
      omega
theorem anys_nm:∀(k:Nat) {n:Nat} {t r:T} {acc:List (List Rl)},anys k n t acc= .error (.many,r)→400≤2*n+t.length
  | 0,n,t,r,acc,h=>by cases h
  | k+1,n,t,r,acc,h=>by
    rw[anys] at h
    split at h
    · rename_i e1
      injection h with h
      rw[h] at e1
      exact alls_nm _ e1
    rename_i x v e1
    obtain⟨xs,_,a1,_,_,_,a5⟩:=alls_good _ e1
    rw[List.nil_append] at a1
    subst a1
    split at h
    · cases h
    · rename_i w e2
      have:=next_len e2
      have:=anys_nm k h
      omega
theorem rule_nm {n:Nat} {seen:List Nat} {t r:T} (h:rule n seen t= .error (.many,r)):400≤2*n+t.length:=by
  unfold rule at h
  dsimp only at h
  split at h
  · cases h
  split at h
  · cases h
  split at h
  · cases h
  rename_i v e2
  have h1:=word_len t
  have h2:=sk_len t
  have h3:=tk_len e2
  rw[List.length_drop] at h3
  split at h
  · rename_i e3
    injection h with h
    rw[h] at e3
    split at e3
    · cases e3
    · have:=anys_nm _ e3
      omega
  · cases h
theorem rules_nm:∀(k:Nat) {n:Nat} {seen:List Nat} {t r:T} {acc:List Ru},rules k n seen t acc= .error (.many,r)→n≤200→400≤2*n+t.length
  | 0,n,seen,t,r,acc,h,hn=>by cases h
  | k+1,n,seen,t,r,acc,h,hn=>by
    have hf:∀ {u r:T} {acc:List Ru},fin u acc≠ .error (.many,r):=by
      intro u r acc h
      unfold fin at h
      split at h <;> cases h
    rw[rules] at h
    split at h
    · exact absurd h hf
    split at h
    · rename_i e1
      injection h with h
      rw[h] at e1
      exact rule_nm e1
    rename_i x v e1
    obtain⟨_,_,a3,_,a5⟩:=rule_good e1 hn
    split at h
    · exact absurd h hf
    · rename_i w e2
      have:=tk_len e2
      have:=rules_nm k h a3
      omega
theorem parse_nm {t r:T} (h:parse t= .error (.many,r)):400≤t.length:=by
  have:=rules_nm _ h (by decide)
  omega
end RG
end Go.Proofs.YtcokjmnkieakiaaDoor.FM
