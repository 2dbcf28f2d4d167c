namespace Go.Proofs.YtbhhfpjiacfofaaDoor.FM
/-- the value of digits -/
def nvl (l:List UInt8):Nat:=l.foldl (fun a c=>10*a+(c.toNat-48)) 0
def Dig (l:List UInt8):Prop:=∀c∈l,48≤c.toNat∧c.toNat≤57
instance (l:List UInt8):Decidable (Dig l):=inferInstanceAs (Decidable (∀c∈l,48≤c.toNat∧c.toNat≤57))

theorem foldl_shift (l:List UInt8) (a:Nat):l.foldl (fun a c=>10*a+(c.toNat-48)) a=a*10 ^ l.length+nvl l:=by
  induction l generalizing a with
  | nil=>simp[nvl]
  | cons c l ih =>
    simp only[nvl,List.foldl_cons,List.length_cons]
    rw[ih,ih (10*0+_)]
    simp only[Nat.mul_zero,Nat.zero_add,Nat.pow_succ]
    rw[Nat.add_mul,Nat.add_assoc]
    congr 1
    rw[Nat.mul_comm 10 a,Nat.mul_assoc,Nat.mul_comm 10]

@[simp] theorem nvl_nil:nvl []=0:=rfl
theorem nvl_append (a b:List UInt8):nvl (a++b)=nvl a*10 ^ b.length+nvl b:=by
  unfold nvl;rw[List.foldl_append,foldl_shift];rfl
theorem nvl_cons (c:UInt8) (l:List UInt8):nvl (c::l)=(c.toNat-48)*10 ^ l.length+nvl l:=by
  have:=nvl_append [c] l
  simpa [nvl] using this
theorem nvl_snoc (l:List UInt8) (c:UInt8):nvl (l++[c])=10*nvl l+(c.toNat-48):=by
  rw[nvl_append];simp[nvl];omega

theorem Dig.nil:Dig []:=by intro c h;cases h
theorem Dig.append {a b:List UInt8} (ha:Dig a) (hb:Dig b):Dig (a++b):=by
  intro c h;rcases List.mem_append.1 h with h|h;exact ha c h;exact hb c h
theorem Dig.of_append_left {a b:List UInt8} (h:Dig (a++b)):Dig a:=fun c hc=>h c (List.mem_append.2 (.inl hc))
theorem Dig.of_append_right {a b:List UInt8} (h:Dig (a++b)):Dig b:=fun c hc=>h c (List.mem_append.2 (.inr hc))
theorem dig_append {a b:List UInt8}:Dig (a++b)↔Dig a∧Dig b:=⟨fun h=>⟨h.of_append_left,h.of_append_right⟩,fun h=>h.1.append h.2⟩
theorem dig_cons {c:UInt8} {b:List UInt8}:Dig (c::b)↔(48≤c.toNat∧c.toNat≤57)∧Dig b:=by
  unfold Dig;simp[List.mem_cons]
theorem Dig.take {a:List UInt8} (h:Dig a) (n:Nat):Dig (a.take n):=fun c hc=>h c (List.mem_of_mem_take hc)
theorem Dig.drop {a:List UInt8} (h:Dig a) (n:Nat):Dig (a.drop n):=fun c hc=>h c (List.mem_of_mem_drop hc)

theorem nvl_lt {l:List UInt8} (h:Dig l):nvl l<10 ^ l.length:=by
  induction l with
  | nil=>simp
  | cons c l ih =>
    rw[dig_cons] at h
    have:=ih h.2
    rw[nvl_cons,List.length_cons,Nat.pow_succ]
    have h9:(c.toNat-48)*10 ^ l.length≤9*10 ^ l.length:=Nat.mul_le_mul_right _ (by omega)
    omega

/-- the digits of a number; none of nought -/
def mkl (n:Nat):List UInt8:=if _h:n=0 then [] else mkl (n/10)++[UInt8.ofNat (48+n%10)]
  termination_by n
  decreasing_by omega

@[simp] theorem mkl_zero:mkl 0=[]:=by unfold mkl;simp
theorem mkl_pos {n:Nat} (h:0<n):mkl n=mkl (n/10)++[UInt8.ofNat (48+n%10)]:=by
  rw[mkl];rw[dif_neg (by omega)]
theorem ofNat_toNat {n:Nat} (h:n<256):(UInt8.ofNat n).toNat=n:=by simp;omega
theorem dig_mkl (n:Nat):Dig (mkl n):=by
  induction n using Nat.strongRecOn with
  | ind n ih =>
    rcases Nat.eq_zero_or_pos n with rfl|h
    · simp[Dig.nil]
    · rw[mkl_pos h]
      refine(ih _ (by omega)).append ?_
      rw[dig_cons,ofNat_toNat (by omega)]
      exact⟨by omega,Dig.nil⟩
@[simp] theorem nvl_mkl (n:Nat):nvl (mkl n)=n:=by
  induction n using Nat.strongRecOn with
  | ind n ih =>
    rcases Nat.eq_zero_or_pos n with rfl|h
    · simp
    · rw[mkl_pos h,nvl_snoc,ih _ (by omega),ofNat_toNat (by omega)];omega
theorem mkl_inj {a b:Nat}:mkl a=mkl b↔a=b:=⟨fun h=>by rw[← nvl_mkl a,h,nvl_mkl],fun h=>by rw[h]⟩
theorem mkl_eq_nil {a:Nat}:mkl a=[]↔a=0:=by rw[← mkl_zero,mkl_inj]
theorem mkl_length_le {n k:Nat}:(mkl n).length≤k↔n<10 ^ k:=by
  induction k generalizing n with
  | zero=>simp[List.length_eq_zero_iff,mkl_eq_nil]
  | succ k ih =>
    rcases Nat.eq_zero_or_pos n with rfl|h
    · simp[Nat.pow_pos]
    · rw[mkl_pos h,List.length_append,List.length_singleton,Nat.add_le_add_iff_right,ih,Nat.pow_succ]
      omega
theorem lt_pow_length (n:Nat):n<10 ^ (mkl n).length:=mkl_length_le.1 (Nat.le_refl _)
theorem mkl_length_mono {a b:Nat} (h:a≤b):(mkl a).length≤(mkl b).length:=by
  rw[mkl_length_le];exact Nat.lt_of_le_of_lt h (lt_pow_length b)
/-- no nought ahead -/
def Bare (l:List UInt8):Prop:=l.head? ≠ some 48
theorem mkl_nvl {l:List UInt8} (h:Dig l) (hb:Bare l):mkl (nvl l)=l:=by
  suffices H:∀k (l:List UInt8),l.length=k→Dig l→Bare l→mkl (nvl l)=l from H _ l rfl h hb
  intro k
  induction k with
  | zero=>intro l hl _ _;obtain rfl:=List.eq_nil_of_length_eq_zero hl;simp
  | succ k ih =>
    intro l hl h hb
    obtain⟨t,c,rfl⟩:∃t c,l=t++[c]:=⟨l.dropLast,l.getLast (by intro e;simp[e] at hl),(List.dropLast_concat_getLast _).symm⟩
    have hl':t.length=k:=by simpa using hl
    have⟨ht,hc⟩:=dig_append.1 h
    rw[dig_cons] at hc
    have hbt:Bare t:=by
      unfold Bare at hb ⊢
      cases t with
      | nil=>simp
      | cons d t=>simpa using hb
    have e1:=ih t hl' ht hbt
    rw[nvl_snoc]
    have hpos:0<10*nvl t+(c.toNat-48):=by
      cases t with
      | nil =>
        have:c≠48:=by simpa [Bare] using hb
        have:c.toNat≠48:=fun e=>this (UInt8.toNat_inj.1 (by simpa using e))
        simp;omega
      | cons d t =>
        have:nvl (d::t)≠0:=by
          intro e;rw[e] at e1;simp at e1
        omega
    rw[mkl_pos hpos]
    have h1:(10*nvl t+(c.toNat-48))/10=nvl t:=by omega
    have h2:(10*nvl t+(c.toNat-48))%10=c.toNat-48:=by omega
    rw[h1,h2,e1]
    congr 2
    apply UInt8.toNat_inj.1
    rw[ofNat_toNat (by omega)];omega
/-- digits without noughts ahead -/
def bare (l:List UInt8):List UInt8:=l.dropWhile (· ==48)
theorem nvl_bare (l:List UInt8):nvl (bare l)=nvl l:=by
  induction l with
  | nil=>rfl
  | cons c l ih =>
    unfold bare at ih ⊢
    rw[List.dropWhile_cons]
    split
    · rename_i h
      have:c=48:=by simpa using h
      subst this
      rw[ih,nvl_cons];simp
    · rfl
theorem dig_bare {l:List UInt8} (h:Dig l):Dig (bare l):=fun c hc=>h c ((List.dropWhile_sublist _).subset hc)
theorem bare_bare (l:List UInt8):Bare (bare l):=by
  unfold Bare bare
  induction l with
  | nil=>simp
  | cons c l ih =>
    rw[List.dropWhile_cons]
    split
    · exact ih
    · rename_i h;simpa using h
theorem bare_eq {l:List UInt8} (h:Dig l):bare l=mkl (nvl l):=by
  rw[← nvl_bare,mkl_nvl (dig_bare h) (bare_bare l)]
theorem dig_eq_of {a b:List UInt8} (ha:Dig a) (hb:Dig b) (hl:a.length=b.length) (h:nvl a=nvl b):a=b:=by
  induction a generalizing b with
  | nil=>exact(List.eq_nil_of_length_eq_zero hl.symm).symm
  | cons c a ih =>
    cases b with
    | nil=>simp at hl
    | cons d b =>
      rw[dig_cons] at ha hb
      simp at hl
      rw[nvl_cons,nvl_cons,hl] at h
      have h1:=nvl_lt ha.2
      have h2:=nvl_lt hb.2
      rw[hl] at h1
      have hp:0<10 ^ b.length:=Nat.pow_pos (by omega)
      have key:c.toNat-48=d.toNat-48:=by
        have e1:((c.toNat-48)*10 ^ b.length+nvl a)/10 ^ b.length=c.toNat-48:=by
          rw[Nat.mul_comm,Nat.mul_add_div hp,Nat.div_eq_of_lt h1];rfl
        have e2:((d.toNat-48)*10 ^ b.length+nvl b)/10 ^ b.length=d.toNat-48:=by
          rw[Nat.mul_comm,Nat.mul_add_div hp,Nat.div_eq_of_lt h2];rfl
        rw[← e1,h,e2]
      have hcd:c=d:=UInt8.toNat_inj.1 (by omega)
      subst hcd
      rw[ih ha.2 hb.2 hl (by omega)]
end Go.Proofs.YtbhhfpjiacfofaaDoor.FM
namespace Go.Proofs.YtbhhfpjiacfofaaDoor.FM

/-- noughts -/
def zs (k:Nat):List UInt8:=List.replicate k 48
theorem dig_zs (k:Nat):Dig (zs k):=by
  intro c hc;have:=List.eq_of_mem_replicate hc;subst this;decide
@[simp] theorem zs_length (k:Nat):(zs k).length=k:=by simp[zs]
@[simp] theorem zs_zero:zs 0=[]:=rfl
theorem zs_succ (k:Nat):zs (k+1)=48::zs k:=rfl
@[simp] theorem nvl_zs (k:Nat):nvl (zs k)=0:=by
  induction k with
  | zero=>rfl
  | succ k ih=>rw[zs_succ,nvl_cons,ih];simp
theorem nvl_append_zs (l:List UInt8) (k:Nat):nvl (l++zs k)=nvl l*10 ^ k:=by rw[nvl_append];simp
theorem nvl_zs_append (l:List UInt8) (k:Nat):nvl (zs k++l)=nvl l:=by rw[nvl_append];simp
theorem snoc_induction {P:List UInt8→Prop} (h0:P []) (h1:∀l c,P l→P (l++[c])) (l:List UInt8):P l:=by
  suffices H:∀k (l:List UInt8),l.length=k→P l from H _ l rfl
  intro k
  induction k with
  | zero=>intro l hl;obtain rfl:=List.eq_nil_of_length_eq_zero hl;exact h0
  | succ k ih =>
    intro l hl
    obtain⟨t,c,rfl⟩:∃t c,l=t++[c]:=⟨l.dropLast,l.getLast (by intro e;simp[e] at hl),(List.dropLast_concat_getLast _).symm⟩
    exact h1 t c (ih t (by simpa using hl))
end Go.Proofs.YtbhhfpjiacfofaaDoor.FM
namespace Go.Proofs.YtbhhfpjiacfofaaDoor.FM

end Go.Proofs.YtbhhfpjiacfofaaDoor.FM
namespace Go.Proofs.YtbhhfpjiacfofaaDoor.FM

end Go.Proofs.YtbhhfpjiacfofaaDoor.FM
namespace Go.Proofs.YtbhhfpjiacfofaaDoor.FM

end Go.Proofs.YtbhhfpjiacfofaaDoor.FM
namespace Go.Proofs.YtbhhfpjiacfofaaDoor.FM
/-! digits from the end on -/
theorem get_digit {l:List UInt8} (h:Dig l) {i:Nat} (hi:i<l.length):(l.getD (l.length-1-i) 0).toNat-48=nvl l/10 ^ i%10:=by
  have hj:l.length-1-i<l.length:=by omega
  have e:l=l.take (l.length-1-i)++l[l.length-1-i]::l.drop (l.length-1-i+1):=by
    rw[List.getElem_cons_drop,List.take_append_drop]
  rw[List.getD_eq_getElem?_getD,List.getElem?_eq_getElem hj,Option.getD_some]
  have hc:=h l[l.length-1-i] (List.getElem_mem hj)
  obtain⟨c,hcc⟩:∃c,l[l.length-1-i]=c:=⟨_,rfl⟩
  rw[hcc] at e hc ⊢
  have hd:Dig (l.drop (l.length-1-i+1)):=h.drop _
  have hlen:(l.drop (l.length-1-i+1)).length=i:=by rw[List.length_drop];omega
  have hlt:=nvl_lt hd
  rw[hlen] at hlt
  have hp:0<10 ^ i:=Nat.pow_pos (by omega)
  have hv:nvl l=10 ^ i*(10*nvl (l.take (l.length-1-i))+(c.toNat-48))+nvl (l.drop (l.length-1-i+1)):=by
    conv=>lhs;rw[e]
    rw[nvl_append,nvl_cons,List.length_cons,hlen,Nat.pow_succ,Nat.mul_add,Nat.add_assoc]
    rw[show nvl (l.take (l.length-1-i))*(10 ^ i*10)=10 ^ i*(10*nvl (l.take (l.length-1-i))) by
      rw[Nat.mul_comm,Nat.mul_assoc]]
    rw[Nat.mul_comm (c.toNat-48)]
  rw[hv,Nat.mul_add_div hp,Nat.div_eq_of_lt hlt]
  omega
theorem digit_beyond {l:List UInt8} (h:Dig l) {i:Nat} (hi:l.length≤i):nvl l/10 ^ i=0:=by
  apply Nat.div_eq_of_lt
  exact Nat.lt_of_lt_of_le (nvl_lt h) (Nat.pow_le_pow_right (by omega) hi)

/-- what bytes tell that were found from the end on -/
def rvi (l:List Int):Nat:=l.foldr (fun c a=>(c-48).toNat+10*a) 0
def DI (l:List Int):Prop:=∀c∈l,48≤c∧c≤57
theorem rvi_append (a b:List Int):rvi (a++b)=rvi a+10 ^ a.length*rvi b:=by
  induction a with
  | nil=>simp[rvi]
  | cons c a ih =>
    have e:rvi (c::a++b)=(c-48).toNat+10*rvi (a++b):=rfl
    have e2:rvi (c::a)=(c-48).toNat+10*rvi a:=rfl
    rw[e,e2,ih,List.length_cons,Nat.pow_succ,Nat.mul_add,Nat.mul_comm (10 ^ a.length) 10,Nat.mul_assoc];omega
theorem rvi_snoc (a:List Int) (c:Int):rvi (a++[c])=rvi a+10 ^ a.length*(c-48).toNat:=by
  rw[rvi_append];simp[rvi]
theorem DI.snoc {a:List Int} {c:Int} (h:DI a) (h1:48≤c) (h2:c≤57):DI (a++[c]):=by
  intro x hx
  rcases List.mem_append.1 hx with hx|hx
  · exact h x hx
  · rw[List.mem_singleton] at hx;subst hx;exact⟨h1,h2⟩
theorem DI.nil:DI []:=by intro c h;cases h
/-- their text -/
def bytesR (l:List Int):List UInt8:=l.reverse.map fun n=>UInt8.ofNat n.toNat
theorem bytesR_dig {l:List Int} (h:DI l):Dig (bytesR l):=by
  intro c hc
  obtain⟨n,hn,rfl⟩:=List.mem_map.1 hc
  have:=h n (List.mem_reverse.1 hn)
  rw[ofNat_toNat (by omega)];omega
theorem bytesR_nvl {l:List Int} (h:DI l):nvl (bytesR l)=rvi l:=by
  induction l with
  | nil=>rfl
  | cons c l ih =>
    have e:bytesR (c::l)=bytesR l++[UInt8.ofNat c.toNat]:=by simp[bytesR]
    have hc:=h c List.mem_cons_self
    rw[e,nvl_snoc,ih (fun x hx=>h x (List.mem_cons_of_mem _ hx)),ofNat_toNat (by omega)]
    show _=(c-48).toNat+10*rvi l
    omega
/-- a row of a length of which the last ones are laid -/
theorem set_row (l:List Int) (i:Nat) (hi:i<l.length) :
    (List.replicate (l.length-i) 0++(l.take i).reverse).set (l.length-1-i) (l.getD i 0)=List.replicate (l.length-(i+1)) 0++(l.take (i+1)).reverse:=by
  have e1:l.length-i=(l.length-1-i)+1:=by omega
  rw[e1,List.replicate_succ',List.append_assoc,List.set_append_right _ _ (by simp),List.length_replicate,Nat.sub_self]
  rw[List.take_succ_eq_append_getElem hi,List.reverse_append,List.getD_eq_getElem?_getD,List.getElem?_eq_getElem hi]
  simp
  omega
end Go.Proofs.YtbhhfpjiacfofaaDoor.FM
namespace Go.Proofs.YtbhhfpjiacfofaaDoor.FM
/-- -1, 0 or 1 -/
def cmpN (a b:Nat):Int:=if a<b then -1 else if b<a then 1 else 0
theorem cmpN_neg {a b:Nat}:cmpN a b<0↔a<b:=by
  unfold cmpN
  repeat' split
  all_goals omega
theorem len_lt {a b:Nat} (h:(mkl a).length<(mkl b).length):a<b:=by
  rcases Nat.lt_or_ge a b with h'|h'
  · exact h'
  · have:=mkl_length_mono h';omega
/-- numbers so many digits long -/
theorem head_lt {c d:UInt8} {a b:List UInt8} (hd:Dig a) (hl:a.length=b.length) (h1:48≤c.toNat) (h:c.toNat<d.toNat):nvl (c::a)<nvl (d::b):=by
  rw[nvl_cons,nvl_cons,hl]
  have h2:=nvl_lt hd
  rw[hl] at h2
  have h3:(c.toNat-48+1)*10 ^ b.length≤(d.toNat-48)*10 ^ b.length:=Nat.mul_le_mul_right _ (by omega)
  rw[Nat.add_mul,Nat.one_mul] at h3
  omega

/-- what is left: one place more -/
theorem sub_step_math {na nb i x y c r q:Nat} (hx:na/10 ^ i%10=x) (hy:nb/10 ^ i%10=y) (hv:r+nb%10 ^ i=na%10 ^ i+10 ^ i*c) (q1:Nat) (hq:q+y+c=x+10*q1) :
    r+10 ^ i*q+nb%10 ^ (i+1)=na%10 ^ (i+1)+10 ^ (i+1)*q1:=by
  rw[Nat.mod_pow_succ,Nat.mod_pow_succ,hx,hy,Nat.pow_succ]
  have e:10 ^ i*(q+y+c)=10 ^ i*x+10 ^ i*10*q1:=by rw[hq,Nat.mul_add,Nat.mul_assoc]
  have e2:10 ^ i*(q+y+c)=10 ^ i*q+10 ^ i*y+10 ^ i*c:=by rw[Nat.mul_add,Nat.mul_add]
  omega
theorem rvi_lt {l:List Int} (h:DI l):rvi l<10 ^ l.length:=by
  have h1:=nvl_lt (bytesR_dig h)
  rw[bytesR_nvl h] at h1
  simpa [bytesR] using h1
theorem sub_end_math {na nb n c r:Nat} (hr:r<10 ^ n) (ha:na<10 ^ n) (hb:nb<10 ^ n) (hle:nb≤na) (hc:c≤1) (hv:r+nb%10 ^ n=na%10 ^ n+10 ^ n*c):r=na-nb:=by
  rw[Nat.mod_eq_of_lt ha,Nat.mod_eq_of_lt hb] at hv
  rcases Nat.eq_zero_or_pos c with rfl|h
  · rw[Nat.mul_zero] at hv;omega
  · obtain rfl:c=1:=by omega
    rw[Nat.mul_one] at hv;omega

end Go.Proofs.YtbhhfpjiacfofaaDoor.FM
namespace Go.Proofs.YtbhhfpjiacfofaaDoor.FM

end Go.Proofs.YtbhhfpjiacfofaaDoor.FM
namespace Go.Proofs.YtbhhfpjiacfofaaDoor.FM
/-! sums -/

end Go.Proofs.YtbhhfpjiacfofaaDoor.FM
namespace Go.Proofs.YtbhhfpjiacfofaaDoor.FM
/-! the digits ahead of the point and behind it -/

theorem nvl_take_drop {l:List UInt8} (h:Dig l) {q:Nat} (hq:q≤l.length):nvl (l.take (l.length-q))=nvl l/10 ^ q∧nvl (l.drop (l.length-q))=nvl l%10 ^ q:=by
  have e1:nvl l=nvl (l.take (l.length-q))*10 ^ q+nvl (l.drop (l.length-q)):=by
    conv=>lhs;rw[← List.take_append_drop (l.length-q) l,nvl_append,List.length_drop,show l.length-(l.length-q)=q by omega]
  have e2:nvl (l.drop (l.length-q))<10 ^ q:=by
    have:=nvl_lt (h.drop (l.length-q))
    rwa [List.length_drop,show l.length-(l.length-q)=q by omega] at this
  have hp:0<10 ^ q:=Nat.pow_pos (by decide)
  constructor
  · rw[e1,Nat.mul_comm,Nat.mul_add_div hp,Nat.div_eq_of_lt e2,Nat.add_zero]
  · rw[e1,Nat.mul_comm,Nat.mul_add_mod,Nat.mod_eq_of_lt e2]
/-- digits with noughts ahead, so that there are at least q -/
def padL (q m:Nat):List UInt8:=zs (q-(mkl m).length)++mkl m
theorem padL_length (q m:Nat):(padL q m).length=max q (mkl m).length:=by
  unfold padL;rw[List.length_append,zs_length];omega
theorem dig_padL (q m:Nat):Dig (padL q m):=(dig_zs _).append (dig_mkl _)
theorem nvl_padL (q m:Nat):nvl (padL q m)=m:=by unfold padL;rw[nvl_zs_append,nvl_mkl]
end Go.Proofs.YtbhhfpjiacfofaaDoor.FM
namespace Go.Proofs.YtbhhfpjiacfofaaDoor.FM
/-! rounding, as the program does it -/

end Go.Proofs.YtbhhfpjiacfofaaDoor.FM
namespace Go.Proofs.YtbhhfpjiacfofaaDoor.FM
/-! the modes that go one way alone -/
end Go.Proofs.YtbhhfpjiacfofaaDoor.FM
namespace Go.Proofs.YtbhhfpjiacfofaaDoor.FM
/-! what is shown: rounding to places that hang on the first digit -/
/-! the digits that are shown -/
end Go.Proofs.YtbhhfpjiacfofaaDoor.FM
namespace Go.Proofs.YtbhhfpjiacfofaaDoor.FM
/-! rules' texts, as they are read: in plain lists of bytes -/
namespace RG
abbrev T:=List UInt8
def sk (t:T):T:=t.dropWhile (· ==32)
inductive Er|form|long|arg|cat|many
  deriving DecidableEq,Repr
structure Rl where
  op:UInt8
  md:Nat
  nt:Bool
  rs:List (Nat × Nat)
  deriving DecidableEq,Repr
structure Ru where
  cat:Nat
  any:List (List Rl)
  smp:T
  deriving DecidableEq,Repr
def dig (c:UInt8):Bool:=48≤c.toNat&&c.toNat≤57
def low (c:UInt8):Bool:=97≤c.toNat&&c.toNat≤122
def tk (w t:T):Option T:=if w <+:sk t then some ((sk t).drop w.length) else none
def value (t:T):Except (Er × T) (Nat × T) :=
  let d:=(sk t).takeWhile dig
  if d=[]∨(1<d.length∧d.head? = some 48) then .error (.form,sk t)
  else if 9<d.length then .error (.long,sk t)
  else .ok (nvl d,(sk t).drop d.length)
def span (t:T):Except (Er × T) ((Nat × Nat) × T):=match value t with
  | .error e=> .error e
  | .ok (lo,u)=>match tk [46,46] u with
    | none=> .ok ((lo,lo),sk u)
    | some v=>match value v with
      | .error e=> .error e
      | .ok (hi,x)=>if hi<lo then .error (.arg,sk v) else .ok ((lo,hi),x)
def spans:Nat→T→List (Nat × Nat)→Except (Er × T) (List (Nat × Nat) × T)
  | 0,t,_=> .error (.form,t)
  | n+1,t,acc=>match span t with
    | .error e=> .error e
    | .ok (x,u)=>match tk [44] u with
      | none=> .ok (acc++[x],sk u)
      | some v=>spans n v (acc++[x])
def ops:T:=[110,105,118,119,102,116,99,101]
def word (t:T):T:=(sk t).takeWhile low
def modq (u:T):Except (Er × T) (Nat × T):=match tk [37] u with
  | none=> .ok (0,sk u)
  | some v=>match value v with
    | .error e=> .error e
    | .ok (m,x)=>if m=0 then .error (.arg,sk v) else .ok (m,x)
def sgn (x:T):Except (Er × T) (Bool × T):=match tk [33,61] x with
  | some y=> .ok (true,y)
  | none=>match tk [61] x with
    | some y=> .ok (false,y)
    | none=> .error (.form,sk x)
/-- behind a relation's letter -/
def relB (c:UInt8) (u:T):Except (Er × T) (Rl × T):=match modq u with
  | .error e=> .error e
  | .ok (m,x)=>match sgn x with
    | .error e=> .error e
    | .ok (b,y)=>match spans (y.length+1) y [] with
      | .error e=> .error e
      | .ok (rs,z)=> .ok (⟨c,m,b,rs⟩,z)
/-- a relation; n: how many there were -/
def rel (n:Nat) (t:T):Except (Er × T) (Rl × T):=match word t with
  | [c]=>if c∈ops then (if 200<n+1 then .error (.many,sk t) else relB c ((sk t).drop 1)) else .error (.form,sk t)
  | _=> .error (.form,sk t)
def next (w t:T):Option T:=if word t=w then some ((sk t).drop w.length) else none
def alls:Nat→Nat→T→List Rl→Except (Er × T) (List Rl × T)
  | 0,_,t,_=> .error (.form,t)
  | k+1,n,t,acc=>match rel n t with
    | .error e=> .error e
    | .ok (x,u)=>match next [97,110,100] u with
      | none=> .ok (acc++[x],sk u)
      | some v=>alls k (n+1) v (acc++[x])
def anys:Nat→Nat→T→List (List Rl)→Except (Er × T) (List (List Rl) × T)
  | 0,_,t,_=> .error (.form,t)
  | k+1,n,t,acc=>match alls (t.length+1) n t [] with
    | .error e=> .error e
    | .ok (x,u)=>match next [111,114] u with
      | none=> .ok (acc++[x],sk u)
      | some v=>anys k (n+x.length) v (acc++[x])
def cats:List T:=[[122,101,114,111],[111,110,101],[116,119,111],[102,101,119],[109,97,110,121],[111,116,104,101,114]]
def trimR (t:T):T:=(t.reverse.dropWhile (· ==32)).reverse
def smplB (q:T):T × T:=(trimR (q.takeWhile (· !=59)),q.drop (q.takeWhile (· !=59)).length)
def smpl (t:T):T × T:=match sk t with
  | 64::u=>smplB (64::u)
  | u=>([],u)
def count (l:List (List Rl)):Nat:=(l.map List.length).sum
def rule (n:Nat) (seen:List Nat) (t:T):Except (Er × T) (Ru × T) :=
  let w:=word t
  match cats.idxOf? w with
  | none=> .error (.form,sk t)
  | some c=>if c∈seen then .error (.cat,sk t) else
    match tk [58] ((sk t).drop w.length) with
    | none=> .error (.form,sk ((sk t).drop w.length))
    | some u =>
      let p:Except (Er × T) (List (List Rl) × T):=if c=5 then .ok ([],u) else anys (u.length+1) n u []
      match p with
      | .error e=> .error e
      | .ok (any,v)=> .ok (⟨c,any,(smpl v).1⟩,(smpl v).2)
def peek (t:T):UInt8:=(sk t).headD 0
def fin (t:T) (acc:List Ru):Except (Er × T) (List Ru):=if sk t=[] then .ok acc else .error (.form,sk t)
def rules:Nat→Nat→List Nat→T→List Ru→Except (Er × T) (List Ru)
  | 0,_,_,t,_=> .error (.form,t)
  | k+1,n,seen,t,acc =>
    if peek t=0 then fin t acc else
    match rule n seen t with
    | .error e=> .error e
    | .ok (x,u)=>match tk [59] u with
      | none=>fin u (acc++[x])
      | some v=>rules k (n+count x.any) (seen++[x.cat]) v (acc++[x])
/-! how they are written -/
def Bl (g:T):Prop:=∀c∈g,c=32
def Dg (n:Nat) (d:T):Prop:=d≠[]∧(∀c∈d,dig c=true)∧(1<d.length→d.head? ≠ some 48)∧d.length≤9∧nvl d=n
def WSpan (x:Nat × Nat) (s:T):Prop:=(Dg x.1 s∧x.2=x.1)∨∃d g h e,Dg x.1 d∧Bl g∧Bl h∧Dg x.2 e∧x.1≤x.2∧s=d++(g++(46::46::(h++e)))
def WSpans:List (Nat × Nat)→T→Prop
  | [],_=>False
  | [x],s=>WSpan x s
  | x::y::xs,s=>∃a g h b,WSpan x a∧Bl g∧Bl h∧WSpans (y::xs) b∧s=a++(g++(44::(h++b)))
def WMod (m:Nat) (s:T):Prop:=(m=0∧s=[])∨∃g d h,Bl g∧Dg m d∧Bl h∧m≠0∧s=37::(g++(d++h))
def WRel (x:Rl) (s:T):Prop:=∃g m h b,x.op∈ops∧Bl g∧WMod x.md m∧Bl h∧WSpans x.rs b∧s=x.op::(g++(m++((if x.nt then [33] else [])++(61::(h++b)))))
def WAll:List Rl→T→Prop
  | [],_=>False
  | [x],s=>WRel x s
  | x::y::xs,s=>∃a g h b,WRel x a∧Bl g∧Bl h∧WAll (y::xs) b∧s=a++(g++(97::110::100::32::(h++b)))
def WAny:List (List Rl)→T→Prop
  | [],_=>False
  | [x],s=>WAll x s
  | x::y::xs,s=>∃a g h b,WAll x a∧Bl g∧Bl h∧WAny (y::xs) b∧s=a++(g++(111::114::32::(h++b)))
def WSmp (s:T):Prop:=s=[]∨∃u,s=64::u∧(∀c∈s,c≠59)∧s.getLast? ≠ some 32
def WRule (x:Ru) (s:T):Prop:=∃w g h a i j,cats.idxOf? w=some x.cat∧Bl g∧Bl h∧((x.cat=5∧x.any=[]∧a=[])∨(x.cat≠5∧WAny x.any a))∧Bl i∧WSmp x.smp∧Bl j∧s=w++(g++(58::(h++(a++(i++(x.smp++j))))))
theorem sk_cons_ne {c:UInt8} (h:c≠32) (u:T):sk (c::u)=c::u:=by
  unfold sk;rw[List.dropWhile_cons_of_neg];simpa using h
theorem sk_bl:∀ {g:T},Bl g→∀t,sk (g++t)=sk t
  | [],_,t=>rfl
  | c::g,h,t=>by
    have hc:c=32:=h c (by simp)
    subst hc
    have:=sk_bl (g:=g) (fun c hc=>h c (by simp[hc])) t
    rw[List.cons_append, ← this];rfl
def Fo1 (r:T):Prop:=∀c u,sk r=c::u→c≠46∧dig c=false
def Fo2 (r:T):Prop:=∀c u,sk r=c::u→c≠46∧c≠44∧dig c=false
theorem Fo2.one {r:T} (h:Fo2 r):Fo1 r:=fun c u e=>⟨(h c u e).1,(h c u e).2.2⟩
def Sg (r:T):Prop:=∃u,r=33::61::u∨r=61::u
theorem Sg.sk {r:T} (h:Sg r):sk r=r:=by obtain⟨u,rfl|rfl⟩:=h <;> exact sk_cons_ne (by decide) _
theorem Sg.hd {r:T} (h:Sg r):∀c u,r=c::u→c=33∨c=61:=by
  obtain⟨v,rfl|rfl⟩:=h
  · intro c u e;injection e with e _;exact .inl e.symm
  · intro c u e;injection e with e _;exact .inr e.symm
/-- what may follow -/
def Fo3 (r:T):Prop:=Fo2 r∧word r≠[97,110,100]
def Fo4 (r:T):Prop:=Fo3 r∧word r≠[111,114]
theorem cats_facts {w:T} {c:Nat} (h:cats.idxOf? w=some c):(∀x∈w,low x=true)∧(∃x u,w=x::u∧low x=true)∧c<6:=by
  have hm:w∈cats:=by
    apply Classical.byContradiction
    intro hn
    rw[List.idxOf?_eq_none_iff.2 hn] at h
    cases h
  unfold cats at hm
  simp only[List.mem_cons,List.not_mem_nil,or_false] at hm
  rcases hm with rfl|rfl|rfl|rfl|rfl|rfl <;>
    exact⟨by decide,⟨_,_,rfl,by decide⟩,by injection h with h;rw[← h];decide⟩
def End (r:T):Prop:=r=[]∨∃u,r=59::u
theorem End.sk {r:T} (h:End r):sk r=r:=by
  rcases h with rfl|⟨u,rfl⟩
  · rfl
  · exact sk_cons_ne (by decide) _
theorem Fo4.of {t:T} (h:∀c u,sk t=c::u→c=59∨c=64):Fo4 t:=by
  have hw:word t=[]:=by
    unfold word
    cases e:sk t with
    | nil=>rfl
    | cons c u =>
      rw[List.takeWhile_cons_of_neg]
      rcases h c u e with rfl|rfl <;> decide
  refine⟨⟨fun c u e=>?_,by rw[hw];decide⟩,by rw[hw];decide⟩
  rcases h c u e with rfl|rfl <;> decide
theorem Fo4.end {i p j r:T} (hi:Bl i) (h:WSmp p) (hj:Bl j) (hr:End r):Fo4 (i++(p++(j++r))):=by
  apply Fo4.of
  intro c u e
  rw[sk_bl hi] at e
  rcases h with rfl|⟨v,rfl,_⟩
  · rw[List.nil_append,sk_bl hj,hr.sk] at e
    rcases hr with rfl|⟨w,rfl⟩
    · cases e
    · injection e with e _;exact .inl e.symm
  · rw[List.cons_append,sk_cons_ne (by decide)] at e
    injection e with e _;exact .inr e.symm
theorem WRule.head {x:Ru} {s:T} (h:WRule x s):∃c u,s=c::u∧low c=true:=by
  obtain⟨w,g1,h1,a,i,j,k1,_,_,_,_,_,_,e⟩:=h
  obtain⟨_,⟨y,z,c2,c3⟩,_⟩:=cats_facts k1
  exact⟨y,_,by rw[e,c2];rfl,c3⟩
end RG
end Go.Proofs.YtbhhfpjiacfofaaDoor.FM
namespace Go.Proofs.YtbhhfpjiacfofaaDoor.FM
namespace RG
/-! rules as they are written by the program -/
end RG
end Go.Proofs.YtbhhfpjiacfofaaDoor.FM
namespace Go.Proofs.YtbhhfpjiacfofaaDoor.FM
namespace RG
/-! what is read is well formed; as it is written it is at most three times as long; too many relations need a long text -/
theorem sk_len (t:T):(sk t).length≤t.length:=(List.dropWhile_suffix _).length_le
theorem tk_len {w t u:T} (h:tk w t=some u):u.length+w.length≤t.length:=by
  unfold tk at h
  split at h
  · rename_i hp
    have h1:=hp.length_le
    have h2:=sk_len t
    injection h with h
    rw[← h,List.length_drop];omega
  · cases h
/-! too many -/
end RG
end Go.Proofs.YtbhhfpjiacfofaaDoor.FM
