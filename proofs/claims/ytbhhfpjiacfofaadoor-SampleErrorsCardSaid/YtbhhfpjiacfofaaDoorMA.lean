namespace Go.Proofs.YtbhhfpjiacfofaaDoor.FM
/-- the value of digits -/
def nvl (l:List UInt8):Nat:=l.foldl (fun a c=>10*a+(c.toNat-48)) 0
def Dig (l:List UInt8):Prop:=∀c∈l,48≤c.toNat∧c.toNat≤57
instance (l:List UInt8):Decidable (Dig l):=inferInstanceAs (Decidable (∀c∈l,48≤c.toNat∧c.toNat≤57))

theorem foldl_shift (l:List UInt8) (a:Nat):l.foldl (fun a c=>10*a+(c.toNat-48)) a=a*10 ^ l.length+nvl l:=by
  induction l generalizing a with
  | nil=>simp[nvl]
  | cons c l ih =>
    simp only[nvl,List.foldl_cons,List.length_cons]
    rw[ih,ih (10*0+_)]
    simp only[Nat.mul_zero,Nat.zero_add,Nat.pow_succ]
    rw[Nat.add_mul,Nat.add_assoc]
    congr 1
    rw[Nat.mul_comm 10 a,Nat.mul_assoc,Nat.mul_comm 10]

@[simp] theorem nvl_nil:nvl []=0:=rfl
theorem nvl_append (a b:List UInt8):nvl (a++b)=nvl a*10 ^ b.length+nvl b:=by
  unfold nvl;rw[List.foldl_append,foldl_shift];rfl
theorem nvl_cons (c:UInt8) (l:List UInt8):nvl (c::l)=(c.toNat-48)*10 ^ l.length+nvl l:=by
  have:=nvl_append [c] l
  simpa [nvl] using this
theorem nvl_snoc (l:List UInt8) (c:UInt8):nvl (l++[c])=10*nvl l+(c.toNat-48):=by
  rw[nvl_append];simp[nvl];omega

theorem Dig.nil:Dig []:=by intro c h;cases h
/-- the digits of a number; none of nought -/
def mkl (n:Nat):List UInt8:=if _h:n=0 then [] else mkl (n/10)++[UInt8.ofNat (48+n%10)]
  termination_by n
  decreasing_by omega

@[simp] theorem mkl_zero:mkl 0=[]:=by unfold mkl;simp
theorem mkl_pos {n:Nat} (h:0<n):mkl n=mkl (n/10)++[UInt8.ofNat (48+n%10)]:=by
  rw[mkl];rw[dif_neg (by omega)]
theorem ofNat_toNat {n:Nat} (h:n<256):(UInt8.ofNat n).toNat=n:=by simp;omega
@[simp] theorem nvl_mkl (n:Nat):nvl (mkl n)=n:=by
  induction n using Nat.strongRecOn with
  | ind n ih =>
    rcases Nat.eq_zero_or_pos n with rfl|h
    · simp
    · rw[mkl_pos h,nvl_snoc,ih _ (by omega),ofNat_toNat (by omega)];omega
end Go.Proofs.YtbhhfpjiacfofaaDoor.FM
namespace Go.Proofs.YtbhhfpjiacfofaaDoor.FM

/-- noughts -/
def zs (k:Nat):List UInt8:=List.replicate k 48
@[simp] theorem zs_length (k:Nat):(zs k).length=k:=by simp[zs]
@[simp] theorem zs_zero:zs 0=[]:=rfl
theorem zs_succ (k:Nat):zs (k+1)=48::zs k:=rfl
@[simp] theorem nvl_zs (k:Nat):nvl (zs k)=0:=by
  induction k with
  | zero=>rfl
  | succ k ih=>rw[zs_succ,nvl_cons,ih];simp
end Go.Proofs.YtbhhfpjiacfofaaDoor.FM
namespace Go.Proofs.YtbhhfpjiacfofaaDoor.FM

end Go.Proofs.YtbhhfpjiacfofaaDoor.FM
namespace Go.Proofs.YtbhhfpjiacfofaaDoor.FM

end Go.Proofs.YtbhhfpjiacfofaaDoor.FM
namespace Go.Proofs.YtbhhfpjiacfofaaDoor.FM

end Go.Proofs.YtbhhfpjiacfofaaDoor.FM
namespace Go.Proofs.YtbhhfpjiacfofaaDoor.FM
/-! digits from the end on -/
def DI (l:List Int):Prop:=∀c∈l,48≤c∧c≤57
theorem DI.nil:DI []:=by intro c h;cases h
end Go.Proofs.YtbhhfpjiacfofaaDoor.FM
namespace Go.Proofs.YtbhhfpjiacfofaaDoor.FM
end Go.Proofs.YtbhhfpjiacfofaaDoor.FM
