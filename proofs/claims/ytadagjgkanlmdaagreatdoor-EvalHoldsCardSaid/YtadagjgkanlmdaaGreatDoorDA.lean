import Derived.Test.YtadagjgkanlmdaaGreatDoorSA
import Derived.Test.YtadagjgkanlmdaaGreatDoorPx13
import Derived.Test.YtadagjgkanlmdaaGreatDoorPx14
import Derived.Test.YtadagjgkanlmdaaGreatDoorPx15
import Derived.Test.YtadagjgkanlmdaaGreatDoorPx5
import Derived.Test.YtadagjgkanlmdaaGreatDoorMA
namespace Go.Proofs.YtadagjgkanlmdaaGreatDoor.P
open Go.RowKit Go.Proofs.YtadagjgkanlmdaaGreatDoorW.PrintWords Go.Proofs.YtadagjgkanlmdaaGreatDoorW.PrintLast Go.Proofs.YtadagjgkanlmdaaGreatDoorW.PrintMore Go.Proofs.YtadagjgkanlmdaaGreatDoor.FM
set_option linter.unusedVariables false
set_option linter.unusedSimpArgs false

theorem S_drop (l:List UInt8) (n:Nat):(S l).extract n (S l).size=S (l.drop n):=by rw[S_extract,S_size,List.take_length]
/-- a text parted at the first one of some bytes -/
def cutL (l some':List UInt8):List UInt8 × List UInt8 × Bool :=
  match l.dropWhile (fun c=>¬c∈some') with
  | []=>(l,[],false)
  | _::t=>(l.takeWhile (fun c=>¬c∈some'),t,true)
theorem cutL_cons (c:UInt8) (l s:List UInt8):cutL (c::l) s=if c∈s then ([],l,true) else if (cutL l s).2.2=true then (c::(cutL l s).1,(cutL l s).2.1,true) else (c::l,[],false):=by
  unfold cutL
  by_cases h:c∈s
  · rw[List.dropWhile_cons_of_neg (by simpa using h),List.takeWhile_cons_of_neg (by simpa using h),_root_.if_pos h]
  · rw[List.dropWhile_cons_of_pos (by simpa using h),List.takeWhile_cons_of_pos (by simpa using h),_root_.if_neg h]
    cases l.dropWhile (fun c=>¬c∈s) with
    | nil=>simp
    | cons d t=>simp
/-- the point moved: how many places, of how many digits behind it -/
def ofE (e:Int):Nat:=min e.toNat 10000
def ofN (b:List UInt8) (e:Int):Nat:=min (ofE e) b.length
def ofInt (a b:List UInt8) (e:Int):Nat:=nvl (a++b.take (ofN b e))*10 ^ (ofE e-ofN b e)
theorem OpOf_ev (neg:Bool) (a b:List UInt8) (la:a.length≤10000000000) (lb:b.length≤10000000000) (da:Dig a) (db:Dig b) (e:Int) :
    Ev (fun k=>operand_Of.f k neg (S a) (S b) e) (S (mkl (ofInt a b e)),S (b.drop (ofN b e)),(ofE e:Int)):=by
  have hE:mn (mx e 0) 10000=(ofE e:Int):=by
    unfold mn mx ofE
    repeat' split
    all_goals omega
  have hN:mn (mn (mx e 0) 10000) ((S b).size:Int)=(ofN b e:Int):=by
    rw[hE,S_size];unfold mn ofN;split <;> omega
  have hle:ofN b e≤ofE e:=by unfold ofN;omega
  have hle2:ofN b e≤b.length:=by unfold ofN;omega
  have hE2:ofE e≤10000:=by unfold ofE;omega
  unfold operand_Of.f
  rw[hN,hE]
  obtain⟨E,hEE⟩:∃E,ofE e=E:=⟨_,rfl⟩
  obtain⟨n,hnn⟩:∃n,ofN b e=n:=⟨_,rfl⟩
  have hI:ofInt a b e=nvl (a++b.take n)*10 ^ (E-n):=by unfold ofInt;rw[hEE,hnn]
  rw[hI]
  rw[hEE] at hle hE2 ⊢
  rw[hnn] at hle hle2 ⊢
  have hz:num_Zeros.f ((E:Int)-(n:Int))=some (S (zs (E-n))):=by
    rw[Zeros_ev,show min ((E:Int)-(n:Int)).toNat 60000=E-n by omega]
  by_cases h:(n:Int)>0
  · refine Ev.if_pos h (Ev.if_pos (by omega) (Ev.if_pos (by rw[S_size];omega) ?_))
    rw[Int.toNat_natCast,S_drop,S_extract,List.drop_zero]
    refine Ev.if_pos (by rw[S_size,S_size,List.length_take];omega) ?_
    refine Ev.const hz ?_
    rw[S_append]
    refine Ev.if_pos (by rw[S_size,S_size,zs_length,List.length_append,List.length_take];omega) ?_
    rw[S_append]
    have ht:=Trim_dig (a++b.take n++zs (E-n)) (by rw[List.length_append,List.length_append,zs_length,List.length_take];omega) ((da.append (db.take n)).append (dig_zs _))
    rw[nvl_append_zs] at ht
    exact Ev.bind ht (Ev.now _)
  · obtain rfl:n=0:=by omega
    refine Ev.if_neg h ?_
    have hz0:num_Zeros.f (E:Int)=some (S (zs E)):=by
      rw[Zeros_ev,show min (E:Int).toNat 60000=E by omega]
    refine Ev.const hz0 (Ev.if_pos (by rw[S_size,S_size,zs_length];omega) ?_)
    rw[S_append]
    have ht:=Trim_dig (a++zs E) (by rw[List.length_append,zs_length];omega) (da.append (dig_zs _))
    rw[nvl_append_zs] at ht
    refine Ev.bind ht ?_
    rw[List.take_zero,List.append_nil,List.drop_zero,Nat.sub_zero]
    exact Ev.now _
end Go.Proofs.YtadagjgkanlmdaaGreatDoor.P
namespace Go.Proofs.YtadagjgkanlmdaaGreatDoor.P
open Go.RowKit Go.Proofs.YtadagjgkanlmdaaGreatDoorW.PrintWords Go.Proofs.YtadagjgkanlmdaaGreatDoorW.PrintLast Go.Proofs.YtadagjgkanlmdaaGreatDoorW.PrintMore Go.Proofs.YtadagjgkanlmdaaGreatDoor.FM
set_option linter.unusedVariables false
set_option linter.unusedSimpArgs false

/-- a decimal as the program holds it -/
def tri (d:D):Bool × ByteArray × Int:=(d.neg,S (mkl d.m),d.e)
theorem tri_D0:tri D0=(false,S [],0):=by unfold tri D0;rw[mkl_zero]
theorem held_ev (e:Int):dec_held.f e=some (held e):=by
  unfold dec_held.f held mn mx
  congr 1
  repeat' split
  all_goals omega
theorem Made_ev (neg:Bool) (l:List UInt8) (hl:l.length≤1000000000000) (hd:Dig l) (e:Int):Ev (fun k=>dec_Made.f k neg (S l) e) (tri (nrm neg (nvl l) e)):=by
  unfold dec_Made.f
  refine Ev.bind (Trim_dig l hl hd) ?_
  obtain⟨n,hn⟩:∃n,nvl l=n:=⟨_,rfl⟩
  have hlen:(mkl n).length≤l.length:=by rw[← hn];exact mkl_length_le.2 (nvl_lt hd)
  rw[hn,S_toList]
  by_cases h0:n=0
  · refine Ev.if_pos (mkl_eq_nil.2 h0) ?_
    unfold nrm
    rw[_root_.if_pos h0,tri_D0]
    exact Ev.now _
  · refine Ev.if_neg (fun h=>h0 (mkl_eq_nil.1 h)) ?_
    refine Ev.const (TrimRight_zero (mkl n) (by omega)) ?_
    refine Ev.const (held_ev e) ?_
    have hp:0<n:=by omega
    have hl2:=mkl_len_st hp
    have hr:=held_range e
    rw[tr_mkl]
    have hw:wrap64 (wrap64 (held e+((S (mkl n)).size:Int))-((S (mkl (st n).1)).size:Int))=held e+((st n).2:Int):=by
      rw[S_size,S_size,w64 (x:=held e+((mkl n).length:Int)) (by omega) (by omega),w64 (by omega) (by omega)]
      omega
    rw[hw]
    refine Ev.const (held_ev _) ?_
    unfold nrm
    rw[_root_.if_neg h0]
    exact Ev.now _
theorem Norm_ev (neg:Bool) (l:List UInt8) (hl:l.length≤1000000000000) (hd:Dig l) (e:Int):Ev (fun k=>dec_Dec_Norm.f k neg (S l) e) (tri (nrm neg (nvl l) e)):=by
  unfold dec_Dec_Norm.f
  exact Ev.bind (Made_ev neg l hl hd e) (Ev.now _)
theorem Zero_ev (neg:Bool) (l:List UInt8) (hl:l.length≤1000000000000) (hd:Dig l) (e:Int):Ev (fun k=>dec_Dec_Zero.f k neg (S l) e) (decide (nvl l=0)):=by
  unfold dec_Dec_Zero.f
  refine Ev.bind (Trim_dig l hl hd) ?_
  rw[S_toList]
  have e1:(mkl (nvl l)==([]:List UInt8))=decide (nvl l=0):=by
    by_cases h:nvl l=0
    · rw[h,mkl_zero];rfl
    · rw[decide_eq_false h];exact beq_eq_false_iff_ne.2 (fun h2=>h (mkl_eq_nil.1 h2))
  rw[e1]
  exact Ev.now _
/-! the decimals that the program holds: their digits are few enough -/
/-- as many digits as a decimal may have here -/
def Few (d:D):Prop:=(mkl d.m).length≤100000000∧ -30000≤d.e∧d.e≤30000
theorem few_nrm {neg:Bool} {n:Nat} {e:Int} (h:(mkl n).length≤100000000):Few (nrm neg n e):=by
  have:=nrm_e_range neg n e
  refine⟨?_,this.1,this.2⟩
  rw[nrm_m]
  exact Nat.le_trans (mkl_length_mono (st_le n)) h
theorem few_dig {neg:Bool} {l:List UInt8} {e:Int} (h:l.length≤100000000) (hd:Dig l):Few (nrm neg (nvl l) e) :=
  few_nrm (Nat.le_trans (mkl_length_le.2 (nvl_lt hd)) h)
theorem tri1 (d:D):(tri d).1=d.neg:=rfl
theorem tri2 (d:D):(tri d).2.1=S (mkl d.m):=rfl
theorem tri3 (d:D):(tri d).2.2=d.e:=rfl
theorem Made_tri (neg:Bool) (m:Nat) (hl:(mkl m).length≤1000000000000) (e:Int):Ev (fun k=>dec_Made.f k neg (S (mkl m)) e) (tri (nrm neg m e)):=by
  have h:=Made_ev neg (mkl m) hl (dig_mkl _) e
  rwa [nvl_mkl] at h
theorem Zero_tri (d:D) (h:Few d):Ev (fun k=>dec_Dec_Zero.f k (tri d).1 (tri d).2.1 (tri d).2.2) (decide (d.m=0)):=by
  have hh:=Zero_ev d.neg (mkl d.m) (by have:=h.1;omega) (dig_mkl _) d.e
  rwa [nvl_mkl] at hh
theorem Minus_ev (neg:Bool) (l:List UInt8) (hl:l.length≤1000000000000) (hd:Dig l) (e:Int):Ev (fun k=>dec_Dec_Minus.f k neg (S l) e) (tri (nrm (!neg) (nvl l) e)):=by
  unfold dec_Dec_Minus.f
  exact Ev.bind (Made_ev (!neg) l hl hd e) (Ev.now _)
theorem Parts_gen (k:Nat) (neg:Bool) (l:List UInt8) (e:Int) (d:D) (hf:Few d) (h0:d.e<0∨0<d.m∨d.e=0) (hn:Ev (fun r=>dec_Dec_Norm.f r neg (S l) e) (tri d)) :
    Ev (fun r=>dec_Dec_Parts.f r neg (S l) e) (S (mkl (wholeN d.m d.e)),S (partL d.m d.e)):=by
  unfold dec_Dec_Parts.f
  obtain⟨h1,h2,h3⟩:=hf
  refine Ev.bind hn ?_
  rw[tri2,tri3,S_size]
  by_cases he:d.e≥0
  · refine Ev.if_pos he (Ev.const (Zeros_ev _) (Ev.if_pos (by rw[S_size,zs_length];omega) ?_))
    rw[S_append,show min d.e.toNat 60000=d.e.toNat by omega]
    unfold wholeN partL
    rw[_root_.if_pos he,_root_.if_pos he]
    have hm:mkl d.m++zs d.e.toNat=mkl (d.m*10 ^ d.e.toNat):=by
      rcases Nat.eq_zero_or_pos d.m with hm|hm
      · rw[hm,Nat.zero_mul,show d.e.toNat=0 by omega];simp
      · exact(mkl_mul_pow hm _).symm
    rw[hm]
    exact Ev.now _
  · refine Ev.if_neg he ?_
    have hz:wrap64 (wrap64 (-d.e)-((mkl d.m).length:Int))= -d.e-(mkl d.m).length:=by
      rw[w64 (x:= -d.e) (by omega) (by omega),w64 (by omega) (by omega)]
    rw[hz]
    refine Ev.const (Zeros_ev _) ?_
    rw[show min (-d.e-((mkl d.m).length:Int)).toNat 60000=(-d.e).toNat-(mkl d.m).length by omega]
    have hp:zs ((-d.e).toNat-(mkl d.m).length)++mkl d.m=padL (-d.e).toNat d.m:=rfl
    rw[S_append,hp]
    have hpl:=padL_length (-d.e).toNat d.m
    obtain⟨q,hq⟩:∃q,(-d.e).toNat=q:=⟨_,rfl⟩
    rw[hq] at hpl ⊢
    have hcut:wrap64 (((S (padL q d.m)).size:Int)+d.e)=(((padL q d.m).length-q:Nat):Int):=by
      rw[S_size,w64 (by omega) (by omega)];omega
    rw[hcut,S_size,S_size,zs_length]
    refine Ev.if_pos (by omega) (Ev.if_pos (by omega) (Ev.if_pos (by omega) ?_))
    rw[Int.toNat_natCast,S_extract,List.drop_zero,S_extract,List.take_length]
    have ht:=Trim_dig ((padL q d.m).take ((padL q d.m).length-q)) (by rw[List.length_take];omega) ((dig_padL _ _).take _)
    rw[(nvl_take_drop (dig_padL q d.m) (q:=q) (by omega)).1,nvl_padL] at ht
    refine Ev.bind ht ?_
    unfold wholeN partL
    rw[_root_.if_neg he,_root_.if_neg he,hq]
    exact Ev.now _
theorem nrm_e_zero {neg:Bool} {n:Nat} {e:Int}:(nrm neg n e).e<0∨0<(nrm neg n e).m∨(nrm neg n e).e=0:=by
  rcases Nat.eq_zero_or_pos n with rfl|h
  · rw[nrm_zero];exact .inr (.inr rfl)
  · exact .inr (.inl (by rw[nrm_m];exact st_pos h))
theorem Parts_ev (neg:Bool) (l:List UInt8) (hl:l.length≤100000000) (hd:Dig l) (e:Int) :
    Ev (fun r=>dec_Dec_Parts.f r neg (S l) e) (S (mkl (wholeN (nrm neg (nvl l) e).m (nrm neg (nvl l) e).e)),S (partL (nrm neg (nvl l) e).m (nrm neg (nvl l) e).e)) :=
  Parts_gen 0 neg l e _ (few_dig hl hd) nrm_e_zero (Norm_ev neg l (by omega) hd e)
theorem Parts_tri (d:D) (h:Few d):Ev (fun r=>dec_Dec_Parts.f r (tri d).1 (tri d).2.1 (tri d).2.2) (S (mkl (wholeN (nrm d.neg d.m d.e).m (nrm d.neg d.m d.e).e)),S (partL (nrm d.neg d.m d.e).m (nrm d.neg d.m d.e).e)):=by
  have hh:=Parts_ev d.neg (mkl d.m) h.1 (dig_mkl _) d.e
  rwa [nvl_mkl] at hh
end Go.Proofs.YtadagjgkanlmdaaGreatDoor.P
namespace Go.Proofs.YtadagjgkanlmdaaGreatDoor.P
open Go.RowKit Go.Proofs.YtadagjgkanlmdaaGreatDoorW.PrintWords Go.Proofs.YtadagjgkanlmdaaGreatDoorW.PrintLast Go.Proofs.YtadagjgkanlmdaaGreatDoorW.PrintMore Go.Proofs.YtadagjgkanlmdaaGreatDoor.FM
set_option linter.unusedVariables false
set_option linter.unusedSimpArgs false

/-! the reader of decimals -/
end Go.Proofs.YtadagjgkanlmdaaGreatDoor.P
namespace Go.Proofs.YtadagjgkanlmdaaGreatDoor.P
open Go.RowKit Go.Proofs.YtadagjgkanlmdaaGreatDoorW.PrintWords Go.Proofs.YtadagjgkanlmdaaGreatDoorW.PrintLast Go.Proofs.YtadagjgkanlmdaaGreatDoorW.PrintMore Go.Proofs.YtadagjgkanlmdaaGreatDoor.FM
set_option linter.unusedVariables false
set_option linter.unusedSimpArgs false

theorem both_ev (a b:D) (ha:Few a) (hb:Few b):dec_both.f (tri a).1 (tri a).2.1 (tri a).2.2 (tri b).1 (tri b).2.1 (tri b).2.2 =
    some (S (mkl a.m++zs (a.e-min a.e b.e).toNat),S (mkl b.m++zs (b.e-min a.e b.e).toNat),min a.e b.e):=by
  obtain⟨h1,h2,h3⟩:=ha
  obtain⟨h4,h5,h6⟩:=hb
  have hm:mn a.e b.e=min a.e b.e:=by unfold mn;split <;> omega
  unfold dec_both.f
  rw[tri2,tri3,tri2,tri3,hm]
  obtain⟨e,he⟩:∃e,min a.e b.e=e:=⟨_,rfl⟩
  rw[he,w64 (by omega) (by omega),w64 (by omega) (by omega),Zeros_ev,Option.bind_some,Zeros_ev,show min (a.e-e).toNat 60000=(a.e-e).toNat by omega,show min (b.e-e).toNat 60000=(b.e-e).toNat by omega]
  rw[_root_.if_pos (by rw[S_size,S_size,zs_length];omega),Option.bind_some,_root_.if_pos (by rw[S_size,S_size,zs_length];omega),S_append,S_append]
theorem Add_gen (na nb:Bool) (la lb:List UInt8) (ea eb:Int) (a b:D) (ha:Few a) (hb:Few b) (ra:Ev (fun k=>dec_Dec_Norm.f k na (S la) ea) (tri a)) (rb:Ev (fun k=>dec_Dec_Norm.f k nb (S lb) eb) (tri b)) :
    Ev (fun k=>dec_Add.f k na (S la) ea nb (S lb) eb) (tri (addD a b)):=by
  unfold dec_Add.f
  refine Ev.bind ra (Ev.bind rb (Ev.const (both_ev a b ha hb) ?_))
  obtain⟨h1,h2,h3⟩:=ha
  obtain⟨h4,h5,h6⟩:=hb
  dsimp only
  rw[tri1,tri1]
  unfold addD
  obtain⟨e,he⟩:∃e,min a.e b.e=e:=⟨_,rfl⟩
  rw[he]
  have v1:nvl (mkl a.m++zs (a.e-e).toNat)=a.m*10 ^ (a.e-e).toNat:=by rw[nvl_append_zs,nvl_mkl]
  have v2:nvl (mkl b.m++zs (b.e-e).toNat)=b.m*10 ^ (b.e-e).toNat:=by rw[nvl_append_zs,nvl_mkl]
  have d1:Dig (mkl a.m++zs (a.e-e).toNat):=(dig_mkl _).append (dig_zs _)
  have d2:Dig (mkl b.m++zs (b.e-e).toNat):=(dig_mkl _).append (dig_zs _)
  have s1:(mkl a.m++zs (a.e-e).toNat).length≤100060000:=by rw[List.length_append,zs_length];omega
  have s2:(mkl b.m++zs (b.e-e).toNat).length≤100060000:=by rw[List.length_append,zs_length];omega
  obtain⟨x,hx⟩:∃x,mkl a.m++zs (a.e-e).toNat=x:=⟨_,rfl⟩
  obtain⟨y,hy⟩:∃y,mkl b.m++zs (b.e-e).toNat=y:=⟨_,rfl⟩
  rw[hx] at v1 d1 s1 ⊢
  rw[hy] at v2 d2 s2 ⊢
  rw[← v1, ← v2]
  clear hx hy v1 v2
  have l1:(mkl (nvl x)).length≤100060000:=Nat.le_trans (mkl_length_le.2 (nvl_lt d1)) s1
  have l2:(mkl (nvl y)).length≤100060000:=Nat.le_trans (mkl_length_le.2 (nvl_lt d2)) s2
  have lsub:∀p q:Nat,(mkl p).length≤100060000→(mkl (p-q)).length≤100060000:=fun p q h=>Nat.le_trans (mkl_length_mono (Nat.sub_le p q)) h
  by_cases hs:a.neg=b.neg
  · rw[_root_.if_pos hs]
    refine Ev.if_pos (by rw[hs];simp) (Ev.bind (Add_ev x y (by unfold Sm;omega) (by unfold Sm;omega) d1 d2) ?_)
    refine Ev.bind (Made_tri a.neg (nvl x+nvl y) ?_ e) (Ev.now _)
    have hh:nvl x+nvl y<10 ^ (max x.length y.length+1):=by
      have e1:=Nat.lt_of_lt_of_le (nvl_lt d1) (Nat.pow_le_pow_right (by decide:0<10) (Nat.le_max_left x.length y.length))
      have e2:=Nat.lt_of_lt_of_le (nvl_lt d2) (Nat.pow_le_pow_right (by decide:0<10) (Nat.le_max_right x.length y.length))
      rw[Nat.pow_succ];omega
    have:=mkl_length_le.2 hh
    omega
  · rw[_root_.if_neg hs]
    refine Ev.if_neg (by simpa using hs) ?_
    by_cases hle:nvl y≤nvl x
    · rw[_root_.if_pos hle]
      refine Ev.bind (Sub_ev x y (by unfold Sm;omega) (by unfold Sm;omega) d1 d2 hle) (Ev.if_pos rfl ?_)
      exact Ev.bind (Made_tri a.neg (nvl x-nvl y) (by have:=lsub (nvl x) (nvl y) l1;omega) e) (Ev.now _)
    · rw[_root_.if_neg hle]
      refine Ev.bind (Sub_less x y (by unfold Sm;omega) (by unfold Sm;omega) d1 d2 (by omega)) (Ev.if_neg (by dsimp only;decide) ?_)
      refine Ev.bind (Sub_ev y x (by unfold Sm;omega) (by unfold Sm;omega) d2 d1 (by omega)) ?_
      exact Ev.bind (Made_tri b.neg (nvl y-nvl x) (by have:=lsub (nvl y) (nvl x) l2;omega) e) (Ev.now _)
/-- a decimal as it was made, or in its normal form: what it is -/
structure Val (neg:Bool) (l:List UInt8) (e:Int) (a:D):Prop where
  dig:Dig l
  len:l.length≤100000000
  nrm:FM.nrm neg (nvl l) e=a
theorem Val.few {neg:Bool} {l:List UInt8} {e:Int} {a:D} (h:Val neg l e a):Few a:=h.nrm▸few_dig h.len h.dig
theorem Val.norm {neg:Bool} {l:List UInt8} {e:Int} {a:D} (h:Val neg l e a):Ev (fun k=>dec_Dec_Norm.f k neg (S l) e) (tri a):=by
  have:=Norm_ev neg l (by have:=h.len;omega) h.dig e
  rwa [h.nrm] at this
theorem Add_val {na nb:Bool} {la lb:List UInt8} {ea eb:Int} {a b:D} (ha:Val na la ea a) (hb:Val nb lb eb b):Ev (fun k=>dec_Add.f k na (S la) ea nb (S lb) eb) (tri (addD a b)) :=
  Add_gen na nb la lb ea eb a b ha.few hb.few ha.norm hb.norm
/-- of few places -/
structure Plc (M K:Nat) (z:Int):Prop where
  hK:K≤M
  hM:M≤29000
  hz:z.natAbs<10 ^ M
theorem Val.dk {M K:Nat} {z:Int} (h:Plc M K z):Val (FM.dk K z).neg (mkl (FM.dk K z).m) (FM.dk K z).e (FM.dk K z):=by
  refine⟨dig_mkl _,?_,?_⟩
  · rw[dk_m]
    have:=mkl_length_le.2 (Nat.lt_of_le_of_lt (st_le z.natAbs) h.hz)
    have:=h.hM
    omega
  · rw[nvl_mkl,dk_again h.hK h.hM h.hz,dk_neg,sg_of]
theorem Val.neg_eq {nb:Bool} {lb:List UInt8} {eb:Int} {K:Nat} {v:Int} (h:Val nb lb eb (FM.dk K v)) (hv:v≠0):nb=decide (v<0):=by
  have h1:=congrArg D.neg h.nrm
  rw[nrm_neg,dk_neg] at h1
  have h2:nvl lb≠0:=by
    intro h0
    have h3:=h.nrm
    rw[h0,nrm_zero] at h3
    exact hv (dk_eq_D0.1 h3.symm)
  rw[decide_eq_true h2,Bool.and_true] at h1
  exact h1
theorem Val.sign {nb b:Bool} {lb:List UInt8} {eb:Int} {M K:Nat} {v:Int} (h:Val nb lb eb (FM.dk K v)) (hp:Plc M K v):FM.nrm b (nvl lb) eb=FM.dk K (sg b v.natAbs):=by
  have h1:=nrm_again b nb (nvl lb) eb
  rw[h.nrm,dk_again hp.hK hp.hM hp.hz] at h1
  exact h1.symm
theorem Val.minus {nb:Bool} {lb:List UInt8} {eb:Int} {M K:Nat} {v:Int} (h:Val nb lb eb (FM.dk K v)) (hp:Plc M K v):FM.nrm (!nb) (nvl lb) eb=FM.dk K (-v):=by
  rw[h.sign hp,sg_not]
  by_cases hv:v=0
  · subst hv;rw[show(0:Int).natAbs=0 from rfl,sg_zero]
  · rw[h.neg_eq hv,sg_of]
theorem Plc.neg {M K:Nat} {z:Int} (h:Plc M K z):Plc M K (-z):=⟨h.hK,h.hM,by rw[Int.natAbs_neg];exact h.hz⟩
theorem Plc.add {M K:Nat} {u v:Int} (h:Plc M K u) (h2:Plc M K v) (hM:M+1≤29000):Plc (M+1) K (u+v) :=
  ⟨Nat.le_succ_of_le h.hK,hM,by have:=h.hz;have:=h2.hz;rw[Nat.pow_succ];omega⟩
theorem Add_dk {na nb:Bool} {la lb:List UInt8} {ea eb:Int} {M K:Nat} {u v:Int} (hu:Plc M K u) (hv:Plc M K v) (ha:Val na la ea (FM.dk K u)) (hb:Val nb lb eb (FM.dk K v)) :
    Ev (fun k=>dec_Add.f k na (S la) ea nb (S lb) eb) (tri (FM.dk K (u+v))):=by
  have h:=Add_val ha hb
  rwa [addD_dk hu.hK hu.hM hu.hz hv.hz] at h
theorem Minus_dk {nb:Bool} {lb:List UInt8} {eb:Int} {M K:Nat} {v:Int} (hv:Plc M K v) (hb:Val nb lb eb (FM.dk K v)):Ev (fun k=>dec_Dec_Minus.f k nb (S lb) eb) (tri (FM.dk K (-v))):=by
  have h:=Minus_ev nb lb (by have:=hb.len;omega) hb.dig eb
  rwa [hb.minus hv] at h
theorem Sub_dk {na nb:Bool} {la lb:List UInt8} {ea eb:Int} {M K:Nat} {u v:Int} (hu:Plc M K u) (hv:Plc M K v) (ha:Val na la ea (FM.dk K u)) (hb:Val nb lb eb (FM.dk K v)) :
    Ev (fun k=>dec_Sub.f k na (S la) ea nb (S lb) eb) (tri (FM.dk K (u-v))):=by
  unfold dec_Sub.f
  refine Ev.bind (Minus_dk hv hb) (Ev.bind (Add_dk hu hv.neg ha (Val.dk hv.neg)) ?_)
  rw[show u + -v=u-v by omega]
  exact Ev.now _
def cmpI (u v:Int):Int:=if u=v then 0 else if u<v then -1 else 1
theorem Cmp_dk {na nb:Bool} {la lb:List UInt8} {ea eb:Int} {M K:Nat} {u v:Int} (hM:M+1≤29000) (hu:Plc M K u) (hv:Plc M K v) (ha:Val na la ea (FM.dk K u)) (hb:Val nb lb eb (FM.dk K v)) :
    Ev (fun k=>dec_Cmp.f k na (S la) ea nb (S lb) eb) (cmpI u v):=by
  unfold dec_Cmp.f
  have hs:Plc (M+1) K (u-v):=by
    have:=hu.add hv.neg hM
    rwa [show u + -v=u-v by omega] at this
  refine Ev.bind (Sub_dk hu hv ha hb) (Ev.bind (Zero_tri _ (Val.dk hs).few) ?_)
  unfold cmpI
  by_cases h:u=v
  · rw[_root_.if_pos h]
    exact Ev.if_pos (decide_eq_true (dk_m_zero.2 (by omega))) (Ev.now _)
  · rw[_root_.if_neg h]
    refine Ev.if_neg (by rw[decide_eq_true_eq,dk_m_zero];omega) ?_
    rw[tri1,dk_neg]
    by_cases h2:u<v
    · rw[_root_.if_pos h2]
      exact Ev.if_pos (decide_eq_true (by omega)) (Ev.now _)
    · rw[_root_.if_neg h2]
      exact Ev.if_neg (by rw[decide_eq_true_eq];omega) (Ev.now _)
end Go.Proofs.YtadagjgkanlmdaaGreatDoor.P
namespace Go.Proofs.YtadagjgkanlmdaaGreatDoor.P
open Go.RowKit Go.Proofs.YtadagjgkanlmdaaGreatDoorW.PrintWords Go.Proofs.YtadagjgkanlmdaaGreatDoorW.PrintLast Go.Proofs.YtadagjgkanlmdaaGreatDoorW.PrintMore Go.Proofs.YtadagjgkanlmdaaGreatDoor.FM
set_option linter.unusedVariables false
set_option linter.unusedSimpArgs false

theorem dk_norm {K M:Nat} {z:Int} (h:Plc M K z):FM.dk K z=nrm (FM.dk K z).neg (FM.dk K z).m (FM.dk K z).e:=by
  rw[dk_again h.hK h.hM h.hz,dk_neg,sg_of]
end Go.Proofs.YtadagjgkanlmdaaGreatDoor.P
