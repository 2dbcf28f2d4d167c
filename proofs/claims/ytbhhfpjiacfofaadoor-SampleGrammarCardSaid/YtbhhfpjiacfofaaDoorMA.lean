namespace Go.Proofs.YtbhhfpjiacfofaaDoor.FM
/-- the value of digits -/
def nvl (l:List UInt8):Nat:=l.foldl (fun a c=>10*a+(c.toNat-48)) 0
def Dig (l:List UInt8):Prop:=∀c∈l,48≤c.toNat∧c.toNat≤57
instance (l:List UInt8):Decidable (Dig l):=inferInstanceAs (Decidable (∀c∈l,48≤c.toNat∧c.toNat≤57))

theorem foldl_shift (l:List UInt8) (a:Nat):l.foldl (fun a c=>10*a+(c.toNat-48)) a=a*10 ^ l.length+nvl l:=by
  induction l generalizing a with
  | nil=>simp[nvl]
  | cons c l ih =>
    simp only[nvl,List.foldl_cons,List.length_cons]
    rw[ih,ih (10*0+_)]
    simp only[Nat.mul_zero,Nat.zero_add,Nat.pow_succ]
    rw[Nat.add_mul,Nat.add_assoc]
    congr 1
    rw[Nat.mul_comm 10 a,Nat.mul_assoc,Nat.mul_comm 10]

@[simp] theorem nvl_nil:nvl []=0:=rfl
theorem nvl_append (a b:List UInt8):nvl (a++b)=nvl a*10 ^ b.length+nvl b:=by
  unfold nvl;rw[List.foldl_append,foldl_shift];rfl
theorem nvl_cons (c:UInt8) (l:List UInt8):nvl (c::l)=(c.toNat-48)*10 ^ l.length+nvl l:=by
  have:=nvl_append [c] l
  simpa [nvl] using this
theorem nvl_snoc (l:List UInt8) (c:UInt8):nvl (l++[c])=10*nvl l+(c.toNat-48):=by
  rw[nvl_append];simp[nvl];omega

theorem Dig.nil:Dig []:=by intro c h;cases h
theorem Dig.append {a b:List UInt8} (ha:Dig a) (hb:Dig b):Dig (a++b):=by
  intro c h;rcases List.mem_append.1 h with h|h;exact ha c h;exact hb c h
theorem Dig.of_append_left {a b:List UInt8} (h:Dig (a++b)):Dig a:=fun c hc=>h c (List.mem_append.2 (.inl hc))
theorem Dig.of_append_right {a b:List UInt8} (h:Dig (a++b)):Dig b:=fun c hc=>h c (List.mem_append.2 (.inr hc))
theorem dig_append {a b:List UInt8}:Dig (a++b)↔Dig a∧Dig b:=⟨fun h=>⟨h.of_append_left,h.of_append_right⟩,fun h=>h.1.append h.2⟩
theorem dig_cons {c:UInt8} {b:List UInt8}:Dig (c::b)↔(48≤c.toNat∧c.toNat≤57)∧Dig b:=by
  unfold Dig;simp[List.mem_cons]
theorem Dig.take {a:List UInt8} (h:Dig a) (n:Nat):Dig (a.take n):=fun c hc=>h c (List.mem_of_mem_take hc)
theorem Dig.drop {a:List UInt8} (h:Dig a) (n:Nat):Dig (a.drop n):=fun c hc=>h c (List.mem_of_mem_drop hc)

theorem nvl_lt {l:List UInt8} (h:Dig l):nvl l<10 ^ l.length:=by
  induction l with
  | nil=>simp
  | cons c l ih =>
    rw[dig_cons] at h
    have:=ih h.2
    rw[nvl_cons,List.length_cons,Nat.pow_succ]
    have h9:(c.toNat-48)*10 ^ l.length≤9*10 ^ l.length:=Nat.mul_le_mul_right _ (by omega)
    omega

/-- the digits of a number; none of nought -/
def mkl (n:Nat):List UInt8:=if _h:n=0 then [] else mkl (n/10)++[UInt8.ofNat (48+n%10)]
  termination_by n
  decreasing_by omega

@[simp] theorem mkl_zero:mkl 0=[]:=by unfold mkl;simp
theorem mkl_pos {n:Nat} (h:0<n):mkl n=mkl (n/10)++[UInt8.ofNat (48+n%10)]:=by
  rw[mkl];rw[dif_neg (by omega)]
theorem ofNat_toNat {n:Nat} (h:n<256):(UInt8.ofNat n).toNat=n:=by simp;omega
theorem dig_mkl (n:Nat):Dig (mkl n):=by
  induction n using Nat.strongRecOn with
  | ind n ih =>
    rcases Nat.eq_zero_or_pos n with rfl|h
    · simp[Dig.nil]
    · rw[mkl_pos h]
      refine(ih _ (by omega)).append ?_
      rw[dig_cons,ofNat_toNat (by omega)]
      exact⟨by omega,Dig.nil⟩
@[simp] theorem nvl_mkl (n:Nat):nvl (mkl n)=n:=by
  induction n using Nat.strongRecOn with
  | ind n ih =>
    rcases Nat.eq_zero_or_pos n with rfl|h
    · simp
    · rw[mkl_pos h,nvl_snoc,ih _ (by omega),ofNat_toNat (by omega)];omega
theorem mkl_inj {a b:Nat}:mkl a=mkl b↔a=b:=⟨fun h=>by rw[← nvl_mkl a,h,nvl_mkl],fun h=>by rw[h]⟩
theorem mkl_eq_nil {a:Nat}:mkl a=[]↔a=0:=by rw[← mkl_zero,mkl_inj]
theorem mkl_length_le {n k:Nat}:(mkl n).length≤k↔n<10 ^ k:=by
  induction k generalizing n with
  | zero=>simp[List.length_eq_zero_iff,mkl_eq_nil]
  | succ k ih =>
    rcases Nat.eq_zero_or_pos n with rfl|h
    · simp[Nat.pow_pos]
    · rw[mkl_pos h,List.length_append,List.length_singleton,Nat.add_le_add_iff_right,ih,Nat.pow_succ]
      omega
theorem lt_pow_length (n:Nat):n<10 ^ (mkl n).length:=mkl_length_le.1 (Nat.le_refl _)
theorem mkl_length_mono {a b:Nat} (h:a≤b):(mkl a).length≤(mkl b).length:=by
  rw[mkl_length_le];exact Nat.lt_of_le_of_lt h (lt_pow_length b)
/-- no nought ahead -/
def Bare (l:List UInt8):Prop:=l.head? ≠ some 48
theorem mkl_nvl {l:List UInt8} (h:Dig l) (hb:Bare l):mkl (nvl l)=l:=by
  suffices H:∀k (l:List UInt8),l.length=k→Dig l→Bare l→mkl (nvl l)=l from H _ l rfl h hb
  intro k
  induction k with
  | zero=>intro l hl _ _;obtain rfl:=List.eq_nil_of_length_eq_zero hl;simp
  | succ k ih =>
    intro l hl h hb
    obtain⟨t,c,rfl⟩:∃t c,l=t++[c]:=⟨l.dropLast,l.getLast (by intro e;simp[e] at hl),(List.dropLast_concat_getLast _).symm⟩
    have hl':t.length=k:=by simpa using hl
    have⟨ht,hc⟩:=dig_append.1 h
    rw[dig_cons] at hc
    have hbt:Bare t:=by
      unfold Bare at hb ⊢
      cases t with
      | nil=>simp
      | cons d t=>simpa using hb
    have e1:=ih t hl' ht hbt
    rw[nvl_snoc]
    have hpos:0<10*nvl t+(c.toNat-48):=by
      cases t with
      | nil =>
        have:c≠48:=by simpa [Bare] using hb
        have:c.toNat≠48:=fun e=>this (UInt8.toNat_inj.1 (by simpa using e))
        simp;omega
      | cons d t =>
        have:nvl (d::t)≠0:=by
          intro e;rw[e] at e1;simp at e1
        omega
    rw[mkl_pos hpos]
    have h1:(10*nvl t+(c.toNat-48))/10=nvl t:=by omega
    have h2:(10*nvl t+(c.toNat-48))%10=c.toNat-48:=by omega
    rw[h1,h2,e1]
    congr 2
    apply UInt8.toNat_inj.1
    rw[ofNat_toNat (by omega)];omega
/-- digits without noughts ahead -/
def bare (l:List UInt8):List UInt8:=l.dropWhile (· ==48)
theorem nvl_bare (l:List UInt8):nvl (bare l)=nvl l:=by
  induction l with
  | nil=>rfl
  | cons c l ih =>
    unfold bare at ih ⊢
    rw[List.dropWhile_cons]
    split
    · rename_i h
      have:c=48:=by simpa using h
      subst this
      rw[ih,nvl_cons];simp
    · rfl
theorem dig_bare {l:List UInt8} (h:Dig l):Dig (bare l):=fun c hc=>h c ((List.dropWhile_sublist _).subset hc)
theorem bare_bare (l:List UInt8):Bare (bare l):=by
  unfold Bare bare
  induction l with
  | nil=>simp
  | cons c l ih =>
    rw[List.dropWhile_cons]
    split
    · exact ih
    · rename_i h;simpa using h
theorem bare_eq {l:List UInt8} (h:Dig l):bare l=mkl (nvl l):=by
  rw[← nvl_bare,mkl_nvl (dig_bare h) (bare_bare l)]
end Go.Proofs.YtbhhfpjiacfofaaDoor.FM
namespace Go.Proofs.YtbhhfpjiacfofaaDoor.FM

/-- noughts -/
def zs (k:Nat):List UInt8:=List.replicate k 48
theorem dig_zs (k:Nat):Dig (zs k):=by
  intro c hc;have:=List.eq_of_mem_replicate hc;subst this;decide
@[simp] theorem zs_length (k:Nat):(zs k).length=k:=by simp[zs]
@[simp] theorem zs_zero:zs 0=[]:=rfl
theorem zs_succ (k:Nat):zs (k+1)=48::zs k:=rfl
@[simp] theorem nvl_zs (k:Nat):nvl (zs k)=0:=by
  induction k with
  | zero=>rfl
  | succ k ih=>rw[zs_succ,nvl_cons,ih];simp
theorem zs_add (a b:Nat):zs (a+b)=zs a++zs b:=by simp[zs,List.replicate_append_replicate]
theorem nvl_append_zs (l:List UInt8) (k:Nat):nvl (l++zs k)=nvl l*10 ^ k:=by rw[nvl_append];simp
theorem nvl_zs_append (l:List UInt8) (k:Nat):nvl (zs k++l)=nvl l:=by rw[nvl_append];simp
theorem snoc_induction {P:List UInt8→Prop} (h0:P []) (h1:∀l c,P l→P (l++[c])) (l:List UInt8):P l:=by
  suffices H:∀k (l:List UInt8),l.length=k→P l from H _ l rfl
  intro k
  induction k with
  | zero=>intro l hl;obtain rfl:=List.eq_nil_of_length_eq_zero hl;exact h0
  | succ k ih =>
    intro l hl
    obtain⟨t,c,rfl⟩:∃t c,l=t++[c]:=⟨l.dropLast,l.getLast (by intro e;simp[e] at hl),(List.dropLast_concat_getLast _).symm⟩
    exact h1 t c (ih t (by simpa using hl))
end Go.Proofs.YtbhhfpjiacfofaaDoor.FM
namespace Go.Proofs.YtbhhfpjiacfofaaDoor.FM

end Go.Proofs.YtbhhfpjiacfofaaDoor.FM
namespace Go.Proofs.YtbhhfpjiacfofaaDoor.FM

end Go.Proofs.YtbhhfpjiacfofaaDoor.FM
namespace Go.Proofs.YtbhhfpjiacfofaaDoor.FM

end Go.Proofs.YtbhhfpjiacfofaaDoor.FM
namespace Go.Proofs.YtbhhfpjiacfofaaDoor.FM
/-! digits from the end on -/
theorem get_digit {l:List UInt8} (h:Dig l) {i:Nat} (hi:i<l.length):(l.getD (l.length-1-i) 0).toNat-48=nvl l/10 ^ i%10:=by
  have hj:l.length-1-i<l.length:=by omega
  have e:l=l.take (l.length-1-i)++l[l.length-1-i]::l.drop (l.length-1-i+1):=by
    rw[List.getElem_cons_drop,List.take_append_drop]
  rw[List.getD_eq_getElem?_getD,List.getElem?_eq_getElem hj,Option.getD_some]
  have hc:=h l[l.length-1-i] (List.getElem_mem hj)
  obtain⟨c,hcc⟩:∃c,l[l.length-1-i]=c:=⟨_,rfl⟩
  rw[hcc] at e hc ⊢
  have hd:Dig (l.drop (l.length-1-i+1)):=h.drop _
  have hlen:(l.drop (l.length-1-i+1)).length=i:=by rw[List.length_drop];omega
  have hlt:=nvl_lt hd
  rw[hlen] at hlt
  have hp:0<10 ^ i:=Nat.pow_pos (by omega)
  have hv:nvl l=10 ^ i*(10*nvl (l.take (l.length-1-i))+(c.toNat-48))+nvl (l.drop (l.length-1-i+1)):=by
    conv=>lhs;rw[e]
    rw[nvl_append,nvl_cons,List.length_cons,hlen,Nat.pow_succ,Nat.mul_add,Nat.add_assoc]
    rw[show nvl (l.take (l.length-1-i))*(10 ^ i*10)=10 ^ i*(10*nvl (l.take (l.length-1-i))) by
      rw[Nat.mul_comm,Nat.mul_assoc]]
    rw[Nat.mul_comm (c.toNat-48)]
  rw[hv,Nat.mul_add_div hp,Nat.div_eq_of_lt hlt]
  omega
theorem digit_beyond {l:List UInt8} (h:Dig l) {i:Nat} (hi:l.length≤i):nvl l/10 ^ i=0:=by
  apply Nat.div_eq_of_lt
  exact Nat.lt_of_lt_of_le (nvl_lt h) (Nat.pow_le_pow_right (by omega) hi)

/-- what bytes tell that were found from the end on -/
def rvi (l:List Int):Nat:=l.foldr (fun c a=>(c-48).toNat+10*a) 0
def DI (l:List Int):Prop:=∀c∈l,48≤c∧c≤57
theorem rvi_append (a b:List Int):rvi (a++b)=rvi a+10 ^ a.length*rvi b:=by
  induction a with
  | nil=>simp[rvi]
  | cons c a ih =>
    have e:rvi (c::a++b)=(c-48).toNat+10*rvi (a++b):=rfl
    have e2:rvi (c::a)=(c-48).toNat+10*rvi a:=rfl
    rw[e,e2,ih,List.length_cons,Nat.pow_succ,Nat.mul_add,Nat.mul_comm (10 ^ a.length) 10,Nat.mul_assoc];omega
theorem rvi_snoc (a:List Int) (c:Int):rvi (a++[c])=rvi a+10 ^ a.length*(c-48).toNat:=by
  rw[rvi_append];simp[rvi]
theorem DI.snoc {a:List Int} {c:Int} (h:DI a) (h1:48≤c) (h2:c≤57):DI (a++[c]):=by
  intro x hx
  rcases List.mem_append.1 hx with hx|hx
  · exact h x hx
  · rw[List.mem_singleton] at hx;subst hx;exact⟨h1,h2⟩
theorem DI.nil:DI []:=by intro c h;cases h
/-- their text -/
def bytesR (l:List Int):List UInt8:=l.reverse.map fun n=>UInt8.ofNat n.toNat
theorem bytesR_dig {l:List Int} (h:DI l):Dig (bytesR l):=by
  intro c hc
  obtain⟨n,hn,rfl⟩:=List.mem_map.1 hc
  have:=h n (List.mem_reverse.1 hn)
  rw[ofNat_toNat (by omega)];omega
theorem bytesR_nvl {l:List Int} (h:DI l):nvl (bytesR l)=rvi l:=by
  induction l with
  | nil=>rfl
  | cons c l ih =>
    have e:bytesR (c::l)=bytesR l++[UInt8.ofNat c.toNat]:=by simp[bytesR]
    have hc:=h c List.mem_cons_self
    rw[e,nvl_snoc,ih (fun x hx=>h x (List.mem_cons_of_mem _ hx)),ofNat_toNat (by omega)]
    show _=(c-48).toNat+10*rvi l
    omega
/-- a row of a length of which the last ones are laid -/
theorem set_row (l:List Int) (i:Nat) (hi:i<l.length) :
    (List.replicate (l.length-i) 0++(l.take i).reverse).set (l.length-1-i) (l.getD i 0)=List.replicate (l.length-(i+1)) 0++(l.take (i+1)).reverse:=by
  have e1:l.length-i=(l.length-1-i)+1:=by omega
  rw[e1,List.replicate_succ',List.append_assoc,List.set_append_right _ _ (by simp),List.length_replicate,Nat.sub_self]
  rw[List.take_succ_eq_append_getElem hi,List.reverse_append,List.getD_eq_getElem?_getD,List.getElem?_eq_getElem hi]
  simp
  omega
end Go.Proofs.YtbhhfpjiacfofaaDoor.FM
namespace Go.Proofs.YtbhhfpjiacfofaaDoor.FM
/-- -1, 0 or 1 -/
def cmpN (a b:Nat):Int:=if a<b then -1 else if b<a then 1 else 0
theorem cmpN_neg {a b:Nat}:cmpN a b<0↔a<b:=by
  unfold cmpN
  repeat' split
  all_goals omega
theorem len_lt {a b:Nat} (h:(mkl a).length<(mkl b).length):a<b:=by
  rcases Nat.lt_or_ge a b with h'|h'
  · exact h'
  · have:=mkl_length_mono h';omega
/-- numbers so many digits long -/
theorem head_lt {c d:UInt8} {a b:List UInt8} (hd:Dig a) (hl:a.length=b.length) (h1:48≤c.toNat) (h:c.toNat<d.toNat):nvl (c::a)<nvl (d::b):=by
  rw[nvl_cons,nvl_cons,hl]
  have h2:=nvl_lt hd
  rw[hl] at h2
  have h3:(c.toNat-48+1)*10 ^ b.length≤(d.toNat-48)*10 ^ b.length:=Nat.mul_le_mul_right _ (by omega)
  rw[Nat.add_mul,Nat.one_mul] at h3
  omega

/-- what is left: one place more -/
theorem sub_step_math {na nb i x y c r q:Nat} (hx:na/10 ^ i%10=x) (hy:nb/10 ^ i%10=y) (hv:r+nb%10 ^ i=na%10 ^ i+10 ^ i*c) (q1:Nat) (hq:q+y+c=x+10*q1) :
    r+10 ^ i*q+nb%10 ^ (i+1)=na%10 ^ (i+1)+10 ^ (i+1)*q1:=by
  rw[Nat.mod_pow_succ,Nat.mod_pow_succ,hx,hy,Nat.pow_succ]
  have e:10 ^ i*(q+y+c)=10 ^ i*x+10 ^ i*10*q1:=by rw[hq,Nat.mul_add,Nat.mul_assoc]
  have e2:10 ^ i*(q+y+c)=10 ^ i*q+10 ^ i*y+10 ^ i*c:=by rw[Nat.mul_add,Nat.mul_add]
  omega
theorem rvi_lt {l:List Int} (h:DI l):rvi l<10 ^ l.length:=by
  have h1:=nvl_lt (bytesR_dig h)
  rw[bytesR_nvl h] at h1
  simpa [bytesR] using h1
theorem sub_end_math {na nb n c r:Nat} (hr:r<10 ^ n) (ha:na<10 ^ n) (hb:nb<10 ^ n) (hle:nb≤na) (hc:c≤1) (hv:r+nb%10 ^ n=na%10 ^ n+10 ^ n*c):r=na-nb:=by
  rw[Nat.mod_eq_of_lt ha,Nat.mod_eq_of_lt hb] at hv
  rcases Nat.eq_zero_or_pos c with rfl|h
  · rw[Nat.mul_zero] at hv;omega
  · obtain rfl:c=1:=by omega
    rw[Nat.mul_one] at hv;omega

end Go.Proofs.YtbhhfpjiacfofaaDoor.FM
namespace Go.Proofs.YtbhhfpjiacfofaaDoor.FM

end Go.Proofs.YtbhhfpjiacfofaaDoor.FM
namespace Go.Proofs.YtbhhfpjiacfofaaDoor.FM
/-! sums -/

end Go.Proofs.YtbhhfpjiacfofaaDoor.FM
namespace Go.Proofs.YtbhhfpjiacfofaaDoor.FM
/-! the digits ahead of the point and behind it -/

/-- digits with noughts ahead, so that there are at least q -/
def padL (q m:Nat):List UInt8:=zs (q-(mkl m).length)++mkl m
theorem padL_length (q m:Nat):(padL q m).length=max q (mkl m).length:=by
  unfold padL;rw[List.length_append,zs_length];omega
theorem dig_padL (q m:Nat):Dig (padL q m):=(dig_zs _).append (dig_mkl _)
theorem nvl_padL (q m:Nat):nvl (padL q m)=m:=by unfold padL;rw[nvl_zs_append,nvl_mkl]
end Go.Proofs.YtbhhfpjiacfofaaDoor.FM
namespace Go.Proofs.YtbhhfpjiacfofaaDoor.FM
/-! rounding, as the program does it -/

end Go.Proofs.YtbhhfpjiacfofaaDoor.FM
namespace Go.Proofs.YtbhhfpjiacfofaaDoor.FM
/-! the modes that go one way alone -/
end Go.Proofs.YtbhhfpjiacfofaaDoor.FM
namespace Go.Proofs.YtbhhfpjiacfofaaDoor.FM
/-! what is shown: rounding to places that hang on the first digit -/
/-! the digits that are shown -/
end Go.Proofs.YtbhhfpjiacfofaaDoor.FM
namespace Go.Proofs.YtbhhfpjiacfofaaDoor.FM
/-! rules' texts, as they are read: in plain lists of bytes -/
namespace RG
abbrev T:=List UInt8
def sk (t:T):T:=t.dropWhile (· ==32)
inductive Er|form|long|arg|cat|many
  deriving DecidableEq,Repr
structure Rl where
  op:UInt8
  md:Nat
  nt:Bool
  rs:List (Nat × Nat)
  deriving DecidableEq,Repr
structure Ru where
  cat:Nat
  any:List (List Rl)
  smp:T
  deriving DecidableEq,Repr
def dig (c:UInt8):Bool:=48≤c.toNat&&c.toNat≤57
def low (c:UInt8):Bool:=97≤c.toNat&&c.toNat≤122
def tk (w t:T):Option T:=if w <+:sk t then some ((sk t).drop w.length) else none
def value (t:T):Except (Er × T) (Nat × T) :=
  let d:=(sk t).takeWhile dig
  if d=[]∨(1<d.length∧d.head? = some 48) then .error (.form,sk t)
  else if 9<d.length then .error (.long,sk t)
  else .ok (nvl d,(sk t).drop d.length)
def span (t:T):Except (Er × T) ((Nat × Nat) × T):=match value t with
  | .error e=> .error e
  | .ok (lo,u)=>match tk [46,46] u with
    | none=> .ok ((lo,lo),sk u)
    | some v=>match value v with
      | .error e=> .error e
      | .ok (hi,x)=>if hi<lo then .error (.arg,sk v) else .ok ((lo,hi),x)
def spans:Nat→T→List (Nat × Nat)→Except (Er × T) (List (Nat × Nat) × T)
  | 0,t,_=> .error (.form,t)
  | n+1,t,acc=>match span t with
    | .error e=> .error e
    | .ok (x,u)=>match tk [44] u with
      | none=> .ok (acc++[x],sk u)
      | some v=>spans n v (acc++[x])
def ops:T:=[110,105,118,119,102,116,99,101]
def word (t:T):T:=(sk t).takeWhile low
def modq (u:T):Except (Er × T) (Nat × T):=match tk [37] u with
  | none=> .ok (0,sk u)
  | some v=>match value v with
    | .error e=> .error e
    | .ok (m,x)=>if m=0 then .error (.arg,sk v) else .ok (m,x)
def sgn (x:T):Except (Er × T) (Bool × T):=match tk [33,61] x with
  | some y=> .ok (true,y)
  | none=>match tk [61] x with
    | some y=> .ok (false,y)
    | none=> .error (.form,sk x)
/-- behind a relation's letter -/
def relB (c:UInt8) (u:T):Except (Er × T) (Rl × T):=match modq u with
  | .error e=> .error e
  | .ok (m,x)=>match sgn x with
    | .error e=> .error e
    | .ok (b,y)=>match spans (y.length+1) y [] with
      | .error e=> .error e
      | .ok (rs,z)=> .ok (⟨c,m,b,rs⟩,z)
/-- a relation; n: how many there were -/
def rel (n:Nat) (t:T):Except (Er × T) (Rl × T):=match word t with
  | [c]=>if c∈ops then (if 200<n+1 then .error (.many,sk t) else relB c ((sk t).drop 1)) else .error (.form,sk t)
  | _=> .error (.form,sk t)
def next (w t:T):Option T:=if word t=w then some ((sk t).drop w.length) else none
def alls:Nat→Nat→T→List Rl→Except (Er × T) (List Rl × T)
  | 0,_,t,_=> .error (.form,t)
  | k+1,n,t,acc=>match rel n t with
    | .error e=> .error e
    | .ok (x,u)=>match next [97,110,100] u with
      | none=> .ok (acc++[x],sk u)
      | some v=>alls k (n+1) v (acc++[x])
def anys:Nat→Nat→T→List (List Rl)→Except (Er × T) (List (List Rl) × T)
  | 0,_,t,_=> .error (.form,t)
  | k+1,n,t,acc=>match alls (t.length+1) n t [] with
    | .error e=> .error e
    | .ok (x,u)=>match next [111,114] u with
      | none=> .ok (acc++[x],sk u)
      | some v=>anys k (n+x.length) v (acc++[x])
def cats:List T:=[[122,101,114,111],[111,110,101],[116,119,111],[102,101,119],[109,97,110,121],[111,116,104,101,114]]
def trimR (t:T):T:=(t.reverse.dropWhile (· ==32)).reverse
def smplB (q:T):T × T:=(trimR (q.takeWhile (· !=59)),q.drop (q.takeWhile (· !=59)).length)
def smpl (t:T):T × T:=match sk t with
  | 64::u=>smplB (64::u)
  | u=>([],u)
def count (l:List (List Rl)):Nat:=(l.map List.length).sum
def rule (n:Nat) (seen:List Nat) (t:T):Except (Er × T) (Ru × T) :=
  let w:=word t
  match cats.idxOf? w with
  | none=> .error (.form,sk t)
  | some c=>if c∈seen then .error (.cat,sk t) else
    match tk [58] ((sk t).drop w.length) with
    | none=> .error (.form,sk ((sk t).drop w.length))
    | some u =>
      let p:Except (Er × T) (List (List Rl) × T):=if c=5 then .ok ([],u) else anys (u.length+1) n u []
      match p with
      | .error e=> .error e
      | .ok (any,v)=> .ok (⟨c,any,(smpl v).1⟩,(smpl v).2)
def peek (t:T):UInt8:=(sk t).headD 0
def fin (t:T) (acc:List Ru):Except (Er × T) (List Ru):=if sk t=[] then .ok acc else .error (.form,sk t)
def rules:Nat→Nat→List Nat→T→List Ru→Except (Er × T) (List Ru)
  | 0,_,_,t,_=> .error (.form,t)
  | k+1,n,seen,t,acc =>
    if peek t=0 then fin t acc else
    match rule n seen t with
    | .error e=> .error e
    | .ok (x,u)=>match tk [59] u with
      | none=>fin u (acc++[x])
      | some v=>rules k (n+count x.any) (seen++[x.cat]) v (acc++[x])
def parse (t:T):Except (Er × T) (List Ru):=rules (t.length+1) 0 [] t []
/-! how they are written -/
def Bl (g:T):Prop:=∀c∈g,c=32
def Dg (n:Nat) (d:T):Prop:=d≠[]∧(∀c∈d,dig c=true)∧(1<d.length→d.head? ≠ some 48)∧d.length≤9∧nvl d=n
def WSpan (x:Nat × Nat) (s:T):Prop:=(Dg x.1 s∧x.2=x.1)∨∃d g h e,Dg x.1 d∧Bl g∧Bl h∧Dg x.2 e∧x.1≤x.2∧s=d++(g++(46::46::(h++e)))
def WSpans:List (Nat × Nat)→T→Prop
  | [],_=>False
  | [x],s=>WSpan x s
  | x::y::xs,s=>∃a g h b,WSpan x a∧Bl g∧Bl h∧WSpans (y::xs) b∧s=a++(g++(44::(h++b)))
def WMod (m:Nat) (s:T):Prop:=(m=0∧s=[])∨∃g d h,Bl g∧Dg m d∧Bl h∧m≠0∧s=37::(g++(d++h))
def WRel (x:Rl) (s:T):Prop:=∃g m h b,x.op∈ops∧Bl g∧WMod x.md m∧Bl h∧WSpans x.rs b∧s=x.op::(g++(m++((if x.nt then [33] else [])++(61::(h++b)))))
def WAll:List Rl→T→Prop
  | [],_=>False
  | [x],s=>WRel x s
  | x::y::xs,s=>∃a g h b,WRel x a∧Bl g∧Bl h∧WAll (y::xs) b∧s=a++(g++(97::110::100::32::(h++b)))
def WAny:List (List Rl)→T→Prop
  | [],_=>False
  | [x],s=>WAll x s
  | x::y::xs,s=>∃a g h b,WAll x a∧Bl g∧Bl h∧WAny (y::xs) b∧s=a++(g++(111::114::32::(h++b)))
def WSmp (s:T):Prop:=s=[]∨∃u,s=64::u∧(∀c∈s,c≠59)∧s.getLast? ≠ some 32
def WRule (x:Ru) (s:T):Prop:=∃w g h a i j,cats.idxOf? w=some x.cat∧Bl g∧Bl h∧((x.cat=5∧x.any=[]∧a=[])∨(x.cat≠5∧WAny x.any a))∧Bl i∧WSmp x.smp∧Bl j∧s=w++(g++(58::(h++(a++(i++(x.smp++j))))))
def WRules:List Ru→T→Prop
  | [],s=>Bl s
  | [x],s=>∃g a e,Bl g∧WRule x a∧(e=[]∨∃f,e=59::f∧Bl f)∧s=g++(a++e)
  | x::y::xs,s=>∃g a b,Bl g∧WRule x a∧WRules (y::xs) b∧s=g++(a++(59::b))

theorem sk_cons_ne {c:UInt8} (h:c≠32) (u:T):sk (c::u)=c::u:=by
  unfold sk;rw[List.dropWhile_cons_of_neg];simpa using h
theorem sk_bl:∀ {g:T},Bl g→∀t,sk (g++t)=sk t
  | [],_,t=>rfl
  | c::g,h,t=>by
    have hc:c=32:=h c (by simp)
    subst hc
    have:=sk_bl (g:=g) (fun c hc=>h c (by simp[hc])) t
    rw[List.cons_append, ← this];rfl
theorem sk_bl0 {g:T} (h:Bl g):sk g=[]:=by have:=sk_bl h [];rwa [List.append_nil] at this
theorem sk_head (t:T):∀u,sk t≠32::u:=by
  intro u h
  unfold sk at h
  have:=List.head?_dropWhile_not (p:=fun x:UInt8=>x==32) t
  rw[h] at this
  simp at this
theorem sk_sk (t:T):sk (sk t)=sk t:=by
  cases h:sk t with
  | nil=>rfl
  | cons c u=>exact sk_cons_ne (fun hc=>sk_head t u (by rw[h,hc])) u
theorem word_congr {t u:T} (h:sk t=sk u):word t=word u:=by unfold word;rw[h]
theorem tk_yes {w t u:T} (h:sk t=w++u):tk w t=some u:=by
  unfold tk;rw[h,if_pos (List.prefix_append _ _)];simp
theorem tk_no {w t:T} {c:UInt8} (h:∀x u,sk t=x::u→x≠c):tk (c::w) t=none:=by
  unfold tk;rw[if_neg]
  rintro⟨u,hu⟩
  exact h c _ hu.symm rfl
theorem tw_stop {p:UInt8→Bool} {d r:T} (hd:∀c∈d,p c=true) (hr:∀c u,r=c::u→p c=false):(d++r).takeWhile p=d:=by
  rw[List.takeWhile_append_of_pos hd]
  cases r with
  | nil=>simp
  | cons c u=>rw[List.takeWhile_cons_of_neg (by rw[hr c u rfl];decide)];simp
theorem dg_ne {n:Nat} {d:T} (h:Dg n d):∃c u,d=c::u∧dig c=true:=by
  cases d with
  | nil=>exact absurd rfl h.1
  | cons c u=>exact⟨c,u,rfl,h.2.1 c (by simp)⟩
theorem dig_ne {c:UInt8} (h:dig c=true) {x:UInt8} (hx:dig x=false):c≠x:=by rintro rfl;rw[h] at hx;cases hx
theorem value_w {n:Nat} {d g r:T} (h:Dg n d) (hg:Bl g) (hr:∀c u,r=c::u→dig c=false):value (g++(d++r))= .ok (n,r):=by
  obtain⟨c,u,hc,hcd⟩:=dg_ne h
  have hs:sk (g++(d++r))=d++r:=by
    rw[sk_bl hg,hc,List.cons_append];exact sk_cons_ne (dig_ne hcd (by decide)) _
  unfold value
  rw[hs,tw_stop h.2.1 hr]
  dsimp only
  rw[if_neg (fun hh=>hh.elim h.1 (fun hh=>h.2.2.1 hh.1 hh.2)),if_neg (by have:=h.2.2.2.1;omega),h.2.2.2.2]
  simp
theorem bl_head {g:T} (hg:Bl g) {p:UInt8→Bool} (hp:p 32=false) {r:T} (hr:∀c u,r=c::u→p c=false):∀c u,g++r=c::u→p c=false:=by
  intro c u h
  cases g with
  | nil=>exact hr c u h
  | cons x g =>
    rw[List.cons_append] at h
    injection h with h1 h2
    rw[← h1,hg x (by simp)];exact hp
theorem sk_stop {p:UInt8→Bool} (hp:p 32=false) {r:T} (hr:∀c u,sk r=c::u→p c=false):∀c u,r=c::u→p c=false:=by
  intro c u h
  by_cases hc:c=32
  · rw[hc];exact hp
  · exact hr c u (by rw[h];exact sk_cons_ne hc u)
def Fo1 (r:T):Prop:=∀c u,sk r=c::u→c≠46∧dig c=false
def Fo2 (r:T):Prop:=∀c u,sk r=c::u→c≠46∧c≠44∧dig c=false
theorem Fo2.one {r:T} (h:Fo2 r):Fo1 r:=fun c u e=>⟨(h c u e).1,(h c u e).2.2⟩
theorem span_w {x:Nat × Nat} {s g r:T} (h:WSpan x s) (hg:Bl g) (hr:Fo1 r):∃u,span (g++(s++r))= .ok (x,u)∧sk u=sk r:=by
  rcases h with ⟨h1,h2⟩|⟨d,g1,h1,e,k1,k2,k3,k4,k5,rfl⟩
  · refine⟨sk r,?_,sk_sk r⟩
    unfold span
    rw[value_w h1 hg (sk_stop (by decide) (fun c u e=>(hr c u e).2))]
    dsimp only
    rw[tk_no (fun c u e=>(hr c u e).1)]
    obtain⟨a,b⟩:=x
    dsimp only at h2 ⊢
    rw[h2]
  · refine⟨r,?_,rfl⟩
    unfold span
    have e1:g++((d++(g1++(46::46::(h1++e))))++r)=g++(d++(g1++(46::46::(h1++(e++r))))):=by simp
    rw[e1,value_w k1 hg (bl_head k2 (by decide) (fun c u e=>by injection e with e _;rw[← e];decide))]
    dsimp only
    rw[tk_yes (w:=[46,46]) (u:=h1++(e++r)) (by rw[sk_bl k2,sk_cons_ne (by decide)];rfl)]
    dsimp only
    rw[value_w k4 k3 (sk_stop (by decide) (fun c u e=>(hr c u e).2))]
    dsimp only
    rw[if_neg (by omega)]
theorem WSpan.ne {x:Nat × Nat} {s:T} (h:WSpan x s):∃c u,s=c::u∧dig c=true:=by
  rcases h with ⟨h1,_⟩|⟨d,g1,h1,e,k1,_,_,_,_,rfl⟩
  · exact dg_ne h1
  · obtain⟨c,u,e,hc⟩:=dg_ne k1
    exact⟨c,u++_,by rw[e];rfl,hc⟩
theorem WSpans.len:∀ {xs:List (Nat × Nat)} {s:T},WSpans xs s→xs.length≤s.length
  | [],_,h=>h.elim
  | [x],s,h=>by obtain⟨c,u,e,_⟩:=WSpan.ne h;rw[e];simp
  | x::y::xs,s,⟨a,g,h,b,k1,k2,k3,k4,e⟩=>by
    have:=WSpans.len k4
    rw[e]
    simp only[List.length_append,List.length_cons] at this ⊢
    omega
theorem spans_w:∀ {xs:List (Nat × Nat)} {s g r:T} {n:Nat} (acc:List (Nat × Nat)),WSpans xs s→xs.length≤n→Bl g→Fo2 r→∃u,spans n (g++(s++r)) acc= .ok (acc++xs,u)∧sk u=sk r
  | [],_,_,_,_,_,h,_,_,_=>h.elim
  | _::_,_,_,_,0,_,_,hn,_,_=>absurd hn (by simp)
  | [x],s,g,r,n+1,acc,h,hn,hg,hr=>by
    obtain⟨u,h1,h2⟩:=span_w h hg hr.one
    refine⟨sk u,?_,by rw[sk_sk];exact h2⟩
    rw[spans,h1]
    dsimp only
    rw[tk_no (fun c v e=>(hr c v (by rw[← h2,e])).2.1)]
  | x::y::xs,s,g,r,n+1,acc,⟨a,g1,h1,b,k1,k2,k3,k4,e⟩,hn,hg,hr=>by
    have e1:g++(s++r)=g++(a++(g1++(44::(h1++(b++r))))):=by rw[e];simp
    have hs:sk (g1++(44::(h1++(b++r))))=44::(h1++(b++r)):=by rw[sk_bl k2,sk_cons_ne (by decide)]
    obtain⟨u,m1,m2⟩:=span_w k1 hg (r:=g1++(44::(h1++(b++r)))) (fun c v e=>by rw[hs] at e;injection e with e _;rw[← e];decide)
    obtain⟨v,m3,m4⟩:=spans_w (n:=n) (acc++[x]) k4 (by simp only[List.length_cons] at hn ⊢;omega) k3 hr
    refine⟨v,?_,m4⟩
    rw[e1,spans,m1]
    dsimp only
    rw[tk_yes (w:=[44]) (u:=h1++(b++r)) (by rw[m2,hs];rfl)]
    dsimp only
    rw[m3];simp
theorem ops_facts {c:UInt8} (h:c∈ops):c≠32∧low c=true:=by
  unfold ops at h
  simp only[List.mem_cons,List.not_mem_nil,or_false] at h
  rcases h with rfl|rfl|rfl|rfl|rfl|rfl|rfl|rfl <;> decide
theorem WRel.op_ {x:Rl} {s:T} (h:WRel x s):∃u,s=x.op::u∧x.op∈ops:=by
  obtain⟨g,m,h1,b,k1,_,_,_,_,e⟩:=h
  exact⟨_,e,k1⟩
def Sg (r:T):Prop:=∃u,r=33::61::u∨r=61::u
theorem Sg.sk {r:T} (h:Sg r):sk r=r:=by obtain⟨u,rfl|rfl⟩:=h <;> exact sk_cons_ne (by decide) _
theorem Sg.hd {r:T} (h:Sg r):∀c u,r=c::u→c=33∨c=61:=by
  obtain⟨v,rfl|rfl⟩:=h
  · intro c u e;injection e with e _;exact .inl e.symm
  · intro c u e;injection e with e _;exact .inr e.symm
theorem modq_w {m:Nat} {s g r:T} (h:WMod m s) (hg:Bl g) (hr:Sg r):∃w,modq (g++(s++r))= .ok (m,w)∧sk w=r:=by
  rcases h with ⟨rfl,rfl⟩|⟨g2,d,h2,j1,j2,j3,j4,rfl⟩
  · refine⟨sk (g++r),?_,by rw[sk_sk,sk_bl hg,hr.sk]⟩
    unfold modq
    rw[List.nil_append,tk_no]
    intro c u he
    rw[sk_bl hg,hr.sk] at he
    rcases hr.hd c u he with rfl|rfl <;> decide
  · refine⟨h2++r,?_,by rw[sk_bl j3,hr.sk]⟩
    unfold modq
    have e2:37::(g2++(d++h2))++r=37::(g2++(d++(h2++r))):=by simp
    rw[e2,tk_yes (w:=[37]) (u:=g2++(d++(h2++r))) (by rw[sk_bl hg,sk_cons_ne (by decide)];rfl)]
    dsimp only
    rw[value_w j2 j1 (bl_head j3 (by decide) (fun c u he=>by rcases hr.hd c u he with rfl|rfl <;> decide))]
    dsimp only
    rw[if_neg j4]
theorem sgn_w {nt:Bool} {w z:T} (h:sk w=(if nt then [33] else [])++(61::z)):sgn w= .ok (nt,z):=by
  unfold sgn
  cases nt with
  | true=>rw[tk_yes (w:=[33,61]) (u:=z) h]
  | false =>
    rw[tk_no (fun c u e=>by rw[h] at e;injection e with e _;rw[← e];decide),tk_yes (w:=[61]) (u:=z) h]
theorem rel_w {x:Rl} {s g r:T} {n:Nat} (h:WRel x s) (hg:Bl g) (hn:n+1≤200) (hr:Fo2 r):∃u,rel n (g++(s++r))= .ok (x,u)∧sk u=sk r:=by
  obtain⟨op,md,nt,rs⟩:=x
  obtain⟨g1,m,h1,b,k1,k2,k3,k4,k5,e⟩:=h
  dsimp only at k1 k3 k5 e
  obtain⟨ho,hl⟩:=ops_facts k1
  generalize hq:(if nt then [33] else [])++(61::(h1++(b++r)))=q
  have hS:Sg q:=by
    rw[← hq]
    cases nt with
    | true=>exact⟨_,.inl rfl⟩
    | false=>exact⟨_,.inr rfl⟩
  have e1:g++(s++r)=g++(op::(g1++(m++q))):=by rw[e, ← hq];simp
  have hs:sk (g++(s++r))=op::(g1++(m++q)):=by rw[e1,sk_bl hg,sk_cons_ne ho]
  have hw:word (g++(s++r))=[op]:=by
    unfold word
    rw[hs]
    refine tw_stop (d:=[op]) (by simpa using hl) (bl_head k2 (by decide) ?_)
    intro c u he
    rcases k3 with ⟨_,rfl⟩|⟨g2,d,h2,_,_,_,_,rfl⟩
    · rcases hS.hd c u he with rfl|rfl <;> decide
    · injection he with he _;rw[← he];decide
  obtain⟨v,hv1,hv2⟩:=spans_w (n:=(h1++(b++r)).length+1) [] k5 (by have:=WSpans.len k5;simp;omega) k4 hr
  refine⟨v,?_,hv2⟩
  obtain⟨w,m1,m2⟩:=modq_w k3 k2 hS
  unfold rel
  rw[hw]
  dsimp only
  rw[if_pos k1,if_neg (by omega),hs]
  show relB op (g1++(m++q))=_
  unfold relB
  rw[m1]
  dsimp only
  rw[sgn_w (z:=h1++(b++r)) (by rw[m2,hq])]
  dsimp only
  rw[hv1];rfl
/-- what may follow -/
def Fo3 (r:T):Prop:=Fo2 r∧word r≠[97,110,100]
theorem next_no {w t:T} (h:word t≠w):next w t=none:=by unfold next;rw[if_neg h]
theorem next_yes {w t u:T} (h:sk t=w++u) (hw:∀c∈w,low c=true) (hu:∀c v,u=c::v→low c=false):next w t=some u:=by
  unfold next
  rw[if_pos (by unfold word;rw[h];exact tw_stop hw hu),h];simp
theorem word_of {t w u:T} (h:sk t=w++u) (hw:∀c∈w,low c=true) (hu:∀c v,u=c::v→low c=false):word t=w:=by unfold word;rw[h];exact tw_stop hw hu
theorem WAll.len:∀ {xs:List Rl} {s:T},WAll xs s→xs.length≤s.length
  | [],_,h=>h.elim
  | [x],s,h=>by obtain⟨u,e,_⟩:=WRel.op_ h;rw[e];simp
  | x::y::xs,s,⟨a,g,h,b,k1,k2,k3,k4,e⟩=>by
    have:=WAll.len k4
    rw[e]
    simp only[List.length_append,List.length_cons] at this ⊢
    omega
theorem alls_w:∀ {xs:List Rl} {s g r:T} {k n:Nat} (acc:List Rl),WAll xs s→xs.length≤k→Bl g→n+xs.length≤200→Fo3 r→∃u,alls k n (g++(s++r)) acc= .ok (acc++xs,u)∧sk u=sk r
  | [],_,_,_,_,_,_,h,_,_,_,_=>h.elim
  | _::_,_,_,_,0,_,_,_,hn,_,_,_=>absurd hn (by simp)
  | [x],s,g,r,k+1,n,acc,h,hk,hg,hn,hr=>by
    obtain⟨u,h1,h2⟩:=rel_w h hg hn hr.1
    refine⟨sk u,?_,by rw[sk_sk];exact h2⟩
    rw[alls,h1]
    dsimp only
    rw[next_no (by rw[word_congr h2];exact hr.2)]
  | x::y::xs,s,g,r,k+1,n,acc,⟨a,g1,h1,b,k1,k2,k3,k4,e⟩,hk,hg,hn,hr=>by
    have e1:g++(s++r)=g++(a++(g1++(97::110::100::32::(h1++(b++r))))):=by rw[e];simp
    have hs:sk (g1++(97::110::100::32::(h1++(b++r))))=[97,110,100]++((32::h1)++(b++r)):=by rw[sk_bl k2,sk_cons_ne (by decide)];rfl
    simp only[List.length_cons] at hk hn
    obtain⟨u,m1,m2⟩:=rel_w (n:=n) k1 hg (by omega) (r:=g1++(97::110::100::32::(h1++(b++r)))) (fun c v e=>by rw[hs] at e;injection e with e _;rw[← e];decide)
    obtain⟨v,m3,m4⟩:=alls_w (k:=k) (n:=n+1) (acc++[x]) k4 (by simp only[List.length_cons];omega) (g:=32::h1) (fun c hc=>by rcases List.mem_cons.1 hc with hc|hc;exact hc;exact k3 c hc) (by simp only[List.length_cons];omega) hr
    refine⟨v,?_,m4⟩
    rw[e1,alls,m1]
    dsimp only
    rw[next_yes (w:=[97,110,100]) (u:=(32::h1)++(b++r)) (by rw[m2,hs]) (by decide) (fun c v e=>by injection e with e _;rw[← e];decide)]
    dsimp only
    rw[m3];simp
def Fo4 (r:T):Prop:=Fo3 r∧word r≠[111,114]
theorem WAny.len:∀ {xs:List (List Rl)} {s:T},WAny xs s→xs.length≤s.length
  | [],_,h=>h.elim
  | [x],s,h=>by
    have:=WAll.len h
    cases x with
    | nil=>exact h.elim
    | cons y ys=>simp at this ⊢;omega
  | x::y::xs,s,⟨a,g,h,b,k1,k2,k3,k4,e⟩=>by
    have:=WAny.len k4
    rw[e]
    simp only[List.length_append,List.length_cons] at this ⊢
    omega
theorem count_cons (x:List Rl) (l:List (List Rl)):count (x::l)=x.length+count l:=by unfold count;simp
theorem anys_w:∀ {xs:List (List Rl)} {s g r:T} {k n:Nat} (acc:List (List Rl)),WAny xs s→xs.length≤k→Bl g→n+count xs≤200→Fo4 r→∃u,anys k n (g++(s++r)) acc= .ok (acc++xs,u)∧sk u=sk r
  | [],_,_,_,_,_,_,h,_,_,_,_=>h.elim
  | _::_,_,_,_,0,_,_,_,hn,_,_,_=>absurd hn (by simp)
  | [x],s,g,r,k+1,n,acc,h,hk,hg,hn,hr=>by
    rw[count_cons] at hn
    obtain⟨u,h1,h2⟩:=alls_w (k:=(g++(s++r)).length+1) (n:=n) [] h (by have:=WAll.len h;simp;omega) hg (by omega) hr.1
    refine⟨sk u,?_,by rw[sk_sk];exact h2⟩
    rw[anys,h1]
    dsimp only
    rw[next_no (by rw[word_congr h2];exact hr.2)];rfl
  | x::y::xs,s,g,r,k+1,n,acc,⟨a,g1,h1,b,k1,k2,k3,k4,e⟩,hk,hg,hn,hr=>by
    have e1:g++(s++r)=g++(a++(g1++(111::114::32::(h1++(b++r))))):=by rw[e];simp
    have hs:sk (g1++(111::114::32::(h1++(b++r))))=[111,114]++((32::h1)++(b++r)):=by rw[sk_bl k2,sk_cons_ne (by decide)];rfl
    rw[count_cons] at hn
    simp only[List.length_cons] at hk
    have hlow:∀c v,(32::h1)++(b++r)=c::v→low c=false:=fun c v e=>by injection e with e _;rw[← e];decide
    obtain⟨u,m1,m2⟩:=alls_w (k:=(g++(a++(g1++(111::114::32::(h1++(b++r)))))).length+1) (n:=n) [] k1 (by have:=WAll.len k1;simp;omega) hg (by omega) (r:=g1++(111::114::32::(h1++(b++r)))) ⟨fun c v e=>by rw[hs] at e;injection e with e _;rw[← e];decide,by rw[word_of hs (by decide) hlow];decide⟩
    obtain⟨v,m3,m4⟩:=anys_w (k:=k) (n:=n+x.length) (acc++[x]) k4 (by simp only[List.length_cons];omega) (g:=32::h1) (fun c hc=>by rcases List.mem_cons.1 hc with hc|hc;exact hc;exact k3 c hc) (by omega) hr
    refine⟨v,?_,m4⟩
    rw[e1,anys,m1]
    dsimp only
    rw[next_yes (w:=[111,114]) (u:=(32::h1)++(b++r)) (by rw[m2,hs]) (by decide) hlow]
    dsimp only
    rw[List.nil_append,m3];simp
theorem cats_facts {w:T} {c:Nat} (h:cats.idxOf? w=some c):(∀x∈w,low x=true)∧(∃x u,w=x::u∧low x=true)∧c<6:=by
  have hm:w∈cats:=by
    apply Classical.byContradiction
    intro hn
    rw[List.idxOf?_eq_none_iff.2 hn] at h
    cases h
  unfold cats at hm
  simp only[List.mem_cons,List.not_mem_nil,or_false] at hm
  rcases hm with rfl|rfl|rfl|rfl|rfl|rfl <;>
    exact⟨by decide,⟨_,_,rfl,by decide⟩,by injection h with h;rw[← h];decide⟩
def End (r:T):Prop:=r=[]∨∃u,r=59::u
theorem End.sk {r:T} (h:End r):sk r=r:=by
  rcases h with rfl|⟨u,rfl⟩
  · rfl
  · exact sk_cons_ne (by decide) _
theorem trimR_w {s j:T} (h:s.getLast? ≠ some 32) (hj:Bl j):trimR (s++j)=s:=by
  unfold trimR
  have:(s++j).reverse.dropWhile (· ==32)=s.reverse:=by
    show sk ((s++j).reverse)=_
    rw[List.reverse_append,sk_bl (fun c hc=>hj c (List.mem_reverse.1 hc))]
    cases e:s.reverse with
    | nil=>rfl
    | cons c u =>
      refine sk_cons_ne (fun hc=>h ?_) u
      rw[List.getLast?_eq_head?_reverse,e,hc];rfl
  rw[this,List.reverse_reverse]
theorem smpl_w {p j r v:T} (h:WSmp p) (hj:Bl j) (hr:End r) (hv:sk v=sk (p++(j++r))):∃u,smpl v=(p,u)∧sk u=sk r:=by
  rcases h with rfl|⟨u,h1,h2,h3⟩
  · rw[List.nil_append,sk_bl hj,hr.sk] at hv
    refine⟨r,?_,rfl⟩
    unfold smpl
    rcases hr with rfl|⟨u,rfl⟩
    · rw[hv]
    · rw[hv];rfl
  · refine⟨r,?_,rfl⟩
    have e1:sk v=(p++j)++r:=by rw[hv,h1,List.cons_append,sk_cons_ne (by decide),List.append_assoc];rfl
    have e2:((p++j)++r).takeWhile (· !=59)=p++j:=by
      refine tw_stop (fun c hc=>?_) (fun c u e=>?_)
      · rcases List.mem_append.1 hc with hc|hc
        · simpa using h2 c hc
        · rw[hj c hc];decide
      · rcases hr with rfl|⟨w,rfl⟩
        · cases e
        · injection e with e _;rw[← e];decide
    have e3:(p++j)++r=64::(u++(j++r)):=by rw[h1];simp
    unfold smpl
    rw[e1,e3]
    show smplB (64::(u++(j++r)))=_
    unfold smplB
    rw[← e3,e2,trimR_w h3 hj]
    simp
theorem Fo4.of {t:T} (h:∀c u,sk t=c::u→c=59∨c=64):Fo4 t:=by
  have hw:word t=[]:=by
    unfold word
    cases e:sk t with
    | nil=>rfl
    | cons c u =>
      rw[List.takeWhile_cons_of_neg]
      rcases h c u e with rfl|rfl <;> decide
  refine⟨⟨fun c u e=>?_,by rw[hw];decide⟩,by rw[hw];decide⟩
  rcases h c u e with rfl|rfl <;> decide
theorem Fo4.end {i p j r:T} (hi:Bl i) (h:WSmp p) (hj:Bl j) (hr:End r):Fo4 (i++(p++(j++r))):=by
  apply Fo4.of
  intro c u e
  rw[sk_bl hi] at e
  rcases h with rfl|⟨v,rfl,_⟩
  · rw[List.nil_append,sk_bl hj,hr.sk] at e
    rcases hr with rfl|⟨w,rfl⟩
    · cases e
    · injection e with e _;exact .inl e.symm
  · rw[List.cons_append,sk_cons_ne (by decide)] at e
    injection e with e _;exact .inr e.symm
theorem rule_w {x:Ru} {s g r:T} {n:Nat} {seen:List Nat} (h:WRule x s) (hg:Bl g) (hn:n+count x.any≤200) (hs:x.cat∉seen) (hr:End r):∃u,rule n seen (g++(s++r))= .ok (x,u)∧sk u=sk r:=by
  obtain⟨c,any,p⟩:=x
  obtain⟨w,g1,h1,a,i,j,k1,k2,k3,k4,k5,k6,k7,e⟩:=h
  dsimp only at k1 k4 k6 e hn hs
  obtain⟨c1,⟨y,z,c2,c3⟩,c4⟩:=cats_facts k1
  have e1:sk (g++(s++r))=w++(g1++(58::(h1++(a++(i++(p++(j++r))))))):=by
    have e0:g++(s++r)=g++(w++(g1++(58::(h1++(a++(i++(p++(j++r)))))))):=by rw[e];simp
    rw[e0,sk_bl hg,c2,List.cons_append,sk_cons_ne]
    rintro rfl
    exact absurd c3 (by decide)
  have hw:word (g++(s++r))=w:=word_of e1 c1 (bl_head k2 (by decide) (fun c u e=>by injection e with e _;rw[← e];decide))
  have e2:(sk (g++(s++r))).drop w.length=g1++(58::(h1++(a++(i++(p++(j++r)))))):=by rw[e1];simp
  unfold rule
  dsimp only
  rw[hw,k1]
  dsimp only
  rw[if_neg hs,e2,tk_yes (w:=[58]) (u:=h1++(a++(i++(p++(j++r))))) (by rw[sk_bl k2,sk_cons_ne (by decide)];rfl)]
  dsimp only
  rcases k4 with ⟨rfl,rfl,rfl⟩|⟨d1,d2⟩
  · rw[if_pos rfl]
    dsimp only
    obtain⟨u,m1,m2⟩:=smpl_w (v:=h1++([]++(i++(p++(j++r))))) k6 k7 hr (by rw[sk_bl k3,List.nil_append,sk_bl k5])
    exact⟨u,by rw[m1],m2⟩
  · rw[if_neg d1]
    obtain⟨v,m3,m4⟩:=anys_w (k:=(h1++(a++(i++(p++(j++r))))).length+1) (n:=n) [] d2 (by have:=WAny.len d2;simp;omega) k3 hn (Fo4.end k5 k6 k7 hr)
    rw[m3]
    dsimp only
    obtain⟨u,m1,m2⟩:=smpl_w (v:=v) k6 k7 hr (by rw[m4,sk_bl k5])
    exact⟨u,by rw[m1];rfl,m2⟩
theorem WRule.head {x:Ru} {s:T} (h:WRule x s):∃c u,s=c::u∧low c=true:=by
  obtain⟨w,g1,h1,a,i,j,k1,_,_,_,_,_,_,e⟩:=h
  obtain⟨_,⟨y,z,c2,c3⟩,_⟩:=cats_facts k1
  exact⟨y,_,by rw[e,c2];rfl,c3⟩
theorem peek_w {x:Ru} {g s r:T} (h:WRule x s) (hg:Bl g):peek (g++(s++r))≠0:=by
  obtain⟨c,u,rfl,hc⟩:=h.head
  unfold peek
  rw[sk_bl hg,List.cons_append,sk_cons_ne (by rintro rfl;exact absurd hc (by decide))]
  show c≠0
  rintro rfl;exact absurd hc (by decide)
theorem WRules.len:∀ {xs:List Ru} {s:T},WRules xs s→xs.length≤s.length
  | [],_,_=>by simp
  | [x],s,⟨g,a,e,k1,k2,k3,k4⟩=>by
    obtain⟨c,u,rfl,_⟩:=k2.head
    rw[k4];simp;omega
  | x::y::xs,s,⟨g,a,b,k1,k2,k3,k4⟩=>by
    have:=WRules.len k3
    rw[k4]
    simp only[List.length_append,List.length_cons] at this ⊢
    omega
def total (l:List Ru):Nat:=(l.map fun x=>count x.any).sum
theorem total_cons (x:Ru) (l:List Ru):total (x::l)=count x.any+total l:=by unfold total;simp
theorem rules_bl {k n:Nat} {seen:List Nat} {s:T} {acc:List Ru} (h:Bl s) (hk:0<k):rules k n seen s acc= .ok acc:=by
  obtain⟨k,rfl⟩:∃k',k=k'+1:=⟨k-1,by omega⟩
  rw[rules,if_pos (by unfold peek;rw[sk_bl0 h];rfl)]
  unfold fin
  rw[if_pos (sk_bl0 h)]
theorem rules_w:∀ {xs:List Ru} {s:T} {k n:Nat} {seen:List Nat} (acc:List Ru),WRules xs s→xs.length<k→n+total xs≤200→(xs.map (·.cat)).Nodup→(∀x∈xs,x.cat∉seen)→rules k n seen s acc= .ok (acc++xs)
  | [],s,k,n,seen,acc,h,hk,_,_,_=>by rw[rules_bl h (by omega),List.append_nil]
  | _::_,_,0,_,_,_,_,hk,_,_,_=>absurd hk (by simp)
  | [x],s,k+1,n,seen,acc,⟨g,a,e,k1,k2,k3,k4⟩,hk,hn,hd,hs=>by
    rw[total_cons] at hn
    obtain⟨u,m1,m2⟩:=rule_w (r:=e) (n:=n) (seen:=seen) k2 k1 (by omega) (hs x (by simp)) (by rcases k3 with rfl|⟨f,rfl,_⟩;exact .inl rfl;exact .inr ⟨f,rfl⟩)
    rw[k4,rules,if_neg (peek_w k2 k1),m1]
    dsimp only
    rcases k3 with rfl|⟨f,rfl,hf⟩
    · rw[tk_no (fun c v e=>by rw[m2] at e;cases e)]
      dsimp only
      unfold fin
      rw[if_pos (by rw[m2];rfl)]
    · rw[tk_yes (w:=[59]) (u:=f) (by rw[m2,sk_cons_ne (by decide)];rfl)]
      dsimp only
      rw[rules_bl hf (by simp at hk;omega)]
  | x::y::xs,s,k+1,n,seen,acc,⟨g,a,b,k1,k2,k3,k4⟩,hk,hn,hd,hs=>by
    rw[total_cons] at hn
    obtain⟨u,m1,m2⟩:=rule_w (r:=59::b) (n:=n) (seen:=seen) k2 k1 (by omega) (hs x (by simp)) (.inr ⟨b,rfl⟩)
    rw[k4,rules,if_neg (peek_w k2 k1),m1]
    dsimp only
    rw[tk_yes (w:=[59]) (u:=b) (by rw[m2,sk_cons_ne (by decide)];rfl)]
    dsimp only
    rw[List.map_cons,List.nodup_cons] at hd
    rw[rules_w (k:=k) (acc++[x]) k3 (by simp only[List.length_cons] at hk ⊢;omega) (by omega) hd.2 (fun z hz=>by
      intro hm
      rcases List.mem_append.1 hm with hm|hm
      · exact hs z (List.mem_cons_of_mem _ hz) hm
      · rw[List.mem_singleton] at hm
        exact hd.1 (hm▸List.mem_map_of_mem hz))]
    simp
theorem parse_w {xs:List Ru} {s:T} (h:WRules xs s) (hn:total xs≤200) (hd:(xs.map (·.cat)).Nodup):parse s= .ok xs:=by
  unfold parse
  rw[rules_w [] h (by have:=h.len;omega) (by omega) hd (by simp)];rfl
end RG
end Go.Proofs.YtbhhfpjiacfofaaDoor.FM
namespace Go.Proofs.YtbhhfpjiacfofaaDoor.FM
namespace RG
/-! rules as they are written by the program -/
end RG
end Go.Proofs.YtbhhfpjiacfofaaDoor.FM
namespace Go.Proofs.YtbhhfpjiacfofaaDoor.FM
namespace RG
/-! what is read is well formed; as it is written it is at most three times as long; too many relations need a long text -/
/-! too many -/
end RG
end Go.Proofs.YtbhhfpjiacfofaaDoor.FM
