import Derived.Test.YtbhhfpjiacfofaaDoorMA
import Derived.Test.YtbhhfpjiacfofaaDoorPx2
import Derived.Test.YtbhhfpjiacfofaaDoorPx3
import Derived.Test.YtbhhfpjiacfofaaDoorPx7
import Derived.Laws.BitsLemmas
namespace Go.Proofs.YtbhhfpjiacfofaaDoor.P
open Go.RowKit Go.Proofs.YtbhhfpjiacfofaaDoorW.PrintWords Go.Proofs.YtbhhfpjiacfofaaDoorW.PrintLast Go.Proofs.YtbhhfpjiacfofaaDoorW.PrintMore Go.Proofs.YtbhhfpjiacfofaaDoor.FM
set_option linter.unusedVariables false
set_option linter.unusedSimpArgs false

/-! strings as lists of bytes -/
def S (l:List UInt8):ByteArray:=⟨l.toArray⟩
theorem S_data (l:List UInt8):(S l).data.toList=l:=rfl
theorem S_of (s:ByteArray):s=S s.data.toList:=rfl
theorem S_size (l:List UInt8):(S l).size=l.length:=rfl
theorem S_toList (l:List UInt8):(S l).toList=l:=by rw[ByteArray.toList_eq];rfl
theorem S_inj {a b:List UInt8}:S a=S b↔a=b:=⟨fun h=>by have:=congrArg (fun s:ByteArray=>s.data.toList) h;exact this,fun h=>by rw[h]⟩
theorem S_append (a b:List UInt8):S a++S b=S (a++b):=by
  have h:(S a++S b).data.toList=a++b:=by simp[S]
  rw[S_of (S a++S b),h]
theorem S_extract (l:List UInt8) (i j:Nat):(S l).extract i j=S ((l.take j).drop i):=by
  have h:((S l).extract i j).data.toList=(l.take j).drop i:=by
    simp[S,ByteArray.data_extract,Array.toList_extract,List.drop_take]
  rw[S_of ((S l).extract i j),h]
theorem bt_S (l:List UInt8) (i:Int):bt (S l) i=(l.getD i.toNat 0).toNat:=by
  unfold bt
  have hs:(S l).size=l.length:=rfl
  by_cases h:i.toNat<l.length
  · rw[dif_pos (by rw[hs];exact h)]
    rw[List.getD_eq_getElem?_getD,List.getElem?_eq_getElem h]
    rfl
  · rw[dif_neg (by rw[hs];exact h),List.getD_eq_getElem?_getD,List.getElem?_eq_none (by omega)]
    rfl
theorem w64 {x:Int} (h1: -9223372036854775808≤x) (h2:x≤9223372036854775807):wrap64 x=x:=by unfold wrap64;omega
/-- from some number of rounds on, whatever was asked first: a call that doesn't hang on the rounds -/
theorem Ev.const {α β:Type} {g:Option α} {f:Nat→α→Option β} {a:α} {r:β} (h:g=some a) (k:Ev (fun n=>f n a) r):Ev (fun n=>g.bind (f n)) r:=by
  subst h;exact k
theorem Ev.if_pos {α:Type} {c:Prop} [Decidable c] {a b:Nat→Option α} {r:α} (h:c) (k:Ev a r):Ev (fun n=>if c then a n else b n) r:=by
  simpa only[_root_.if_pos h] using k
theorem Ev.if_neg {α:Type} {c:Prop} [Decidable c] {a b:Nat→Option α} {r:α} (h:¬c) (k:Ev b r):Ev (fun n=>if c then a n else b n) r:=by
  simpa only[_root_.if_neg h] using k
/-- a length that never wraps -/
abbrev Sm (l:List UInt8):Prop:=l.length≤100000000000

theorem Is_loop (l:List UInt8) (hl:l.length≤1000000000000) (d:Nat):∀i:Nat,i+d=l.length→Ev (fun k=>num_Is.l0 k (S l) (l.length:Int) (i:Int)) (decide (Dig (l.drop i))):=by
  induction d with
  | zero =>
    intro i hi
    refine Ev.step (f:=fun _=>some true) (fun k=>?_) ?_
    · rw[num_Is.l0,_root_.if_neg (by omega)]
    · rw[List.drop_of_length_le (by omega)]
      exact Ev.now true
  | succ d ih =>
    intro i hi
    have hlt:i<l.length:=by omega
    have hdrop:l.drop i=l[i]::l.drop (i+1):=(List.getElem_cons_drop ..).symm
    have hb:bt (S l) (i:Int)=(l[i].toNat:Int):=by
      rw[bt_S,Int.toNat_natCast,List.getD_eq_getElem?_getD,List.getElem?_eq_getElem hlt];rfl
    have hw:wrap64 ((i:Int)+1)=((i+1:Nat):Int):=by rw[w64 (by omega) (by omega)];rfl
    by_cases hc:48≤l[i].toNat∧l[i].toNat≤57
    · refine Ev.step (f:=fun k=>num_Is.l0 k (S l) (l.length:Int) ((i+1:Nat):Int)) (fun k=>?_) ?_
      · rw[num_Is.l0,_root_.if_pos (by omega),_root_.if_pos (by omega),_root_.if_pos (by rw[S_size];omega),hb,_root_.if_neg (by omega),_root_.if_neg (by omega),hw]
      · have:=ih (i+1) (by omega)
        rw[hdrop]
        rw[show decide (Dig (l[i]::l.drop (i+1)))=decide (Dig (l.drop (i+1))) by simp only[dig_cons,hc,true_and]]
        exact this
    · refine Ev.step (f:=fun k=>some false) (fun k=>?_) ?_
      · rw[num_Is.l0,_root_.if_pos (by omega),_root_.if_pos (by omega),_root_.if_pos (by rw[S_size];omega),hb]
        by_cases h1:l[i].toNat<48
        · rw[_root_.if_pos (by omega)]
        · rw[_root_.if_neg (by omega),_root_.if_pos (by omega)]
      · rw[hdrop,show decide (Dig (l[i]::l.drop (i+1)))=false by
          rw[decide_eq_false_iff_not,dig_cons];intro h;exact hc h.1]
        exact Ev.now false
theorem Is_ev (l:List UInt8) (hl:l.length≤1000000000000):Ev (fun k=>num_Is.f k (S l)) (decide (Dig l)):=Is_loop l hl l.length 0 (by omega)
theorem TrimLeft_zero (l:List UInt8):strings_TrimLeft.f (S l) (⟨#[48]⟩:ByteArray)=some (S (bare l)):=by
  unfold strings_TrimLeft.f
  rw[dif_pos (by rfl),_root_.if_pos (by decide)]
  rfl
theorem Trim_dig (l:List UInt8) (hl:l.length≤1000000000000) (hd:Dig l):Ev (fun k=>num_Trim.f k (S l)) (S (mkl (nvl l))):=by
  unfold num_Trim.f
  refine Ev.bind (Is_ev l hl) ?_
  rw[decide_eq_true hd]
  refine Ev.if_pos rfl ?_
  refine Ev.const (TrimLeft_zero l) ?_
  rw[bare_eq hd]
  exact Ev.now _
theorem text_loop (l:List Int) (hl:l.length≤1000000000000) (r:ByteArray) (hr:Ev (fun k=>num_Trim.f k (strOfNums l.reverse)) r) (d:Nat):∀i:Nat,i+d=l.length →
    Ev (fun k=>num_text.l0 k l (List.replicate (l.length-i) 0++(l.take i).reverse) l (l.length:Int) (i:Int)) r:=by
  induction d with
  | zero =>
    intro i hi
    obtain rfl:i=l.length:=by omega
    refine Ev.step (f:=fun k=>(num_Trim.f k (strOfNums l.reverse)).bind fun t=>some t) (fun k=>?_) (Ev.bind hr (Ev.now _))
    rw[num_text.l0,_root_.if_neg (by omega)]
    simp
  | succ d ih =>
    intro i hi
    have hlt:i<l.length:=by omega
    refine Ev.step (f:=fun k=>num_text.l0 k l (List.replicate (l.length-(i+1)) 0++(l.take (i+1)).reverse) l (l.length:Int) ((i+1:Nat):Int)) (fun k=>?_) (ih (i+1) (by omega))
    have hw:wrap64 ((i:Int)+1)=((i+1:Nat):Int):=by rw[w64 (by omega) (by omega)];rfl
    have hw2:wrap64 (wrap64 ((l.length:Int)-1)-i)=((l.length-1-i:Nat):Int):=by
      rw[w64 (x:=(l.length:Int)-1) (by omega) (by omega),w64 (by omega) (by omega)];omega
    rw[num_text.l0,_root_.if_pos (by omega),_root_.if_pos (by omega),_root_.if_pos (by omega),hw2,_root_.if_pos (by omega),_root_.if_pos (by simp;omega),hw]
    rw[Int.toNat_natCast]
    have:=set_row l i hlt
    unfold rd
    rw[Int.toNat_natCast,this]
theorem text_ev (l:List Int) (hl:l.length≤1000000000000) (hd:DI l):Ev (fun k=>num_text.f k l) (S (mkl (rvi l))):=by
  unfold num_text.f
  refine Ev.if_pos (by omega) (Ev.if_pos (by omega) ?_)
  have h:=text_loop l hl (S (mkl (rvi l))) (by
    have h1:=Trim_dig (bytesR l) (by simpa [bytesR] using hl) (bytesR_dig hd)
    rw[bytesR_nvl hd] at h1
    exact h1) l.length 0 (by omega)
  simpa using h

theorem all_ev (a b:List UInt8) (ha:Sm a) (hb:Sm b):Ev (fun k=>num_all.f k ([S a,S b]:List ByteArray)) (decide (Dig a∧Dig b)):=by
  unfold num_all.f
  refine Ev.step (f:=fun k=>(num_Is.f k (S a)).bind fun t=>if t=true then num_all.l0 k [S a,S b] 2 1 else some false) (fun k=>?_) ?_
  · rw[num_all.l0,_root_.if_pos (by simp),_root_.if_pos (by omega),_root_.if_pos (by simp),w64 (x:=0+1) (by omega) (by omega)]
    rfl
  refine Ev.bind (Is_ev a (by unfold Sm at ha;omega)) ?_
  by_cases h1:Dig a
  · rw[decide_eq_true h1]
    refine Ev.if_pos rfl ?_
    refine Ev.step (f:=fun k=>(num_Is.f k (S b)).bind fun t=>if t=true then num_all.l0 k [S a,S b] 2 2 else some false) (fun k=>?_) ?_
    · rw[num_all.l0,_root_.if_pos (by omega),_root_.if_pos (by omega),_root_.if_pos (by simp),w64 (x:=1+1) (by omega) (by omega)]
      rfl
    refine Ev.bind (Is_ev b (by unfold Sm at hb;omega)) ?_
    by_cases h2:Dig b
    · rw[decide_eq_true h2]
      refine Ev.if_pos rfl ?_
      refine Ev.step (f:=fun k=>some true) (fun k=>?_) ?_
      · rw[num_all.l0,_root_.if_neg (by omega)]
      · rw[decide_eq_true ⟨h1,h2⟩];exact Ev.now _
    · rw[decide_eq_false h2,decide_eq_false (fun h=>h2 h.2)]
      exact Ev.if_neg (by decide) (Ev.now _)
  · rw[decide_eq_false h1,decide_eq_false (fun h=>h1 h.1)]
    exact Ev.if_neg (by decide) (Ev.now _)

theorem at_ev (l:List UInt8) (hl:Sm l) (hd:Dig l) (i:Nat) (hi:i≤1000000000001):num_at.f (S l) (i:Int)=some ((nvl l/10 ^ i%10:Nat):Int):=by
  unfold num_at.f
  rw[S_size]
  by_cases h:l.length≤i
  · rw[_root_.if_pos (by omega),digit_beyond hd h];rfl
  · have hw2:wrap64 (wrap64 ((l.length:Int)-1)-i)=((l.length-1-i:Nat):Int):=by
      unfold Sm at hl
      rw[w64 (x:=(l.length:Int)-1) (by omega) (by omega),w64 (by omega) (by omega)];omega
    rw[_root_.if_neg (by omega),hw2,_root_.if_pos (by omega),_root_.if_pos (by omega),bt_S,Int.toNat_natCast]
    have h1:=get_digit hd (show i<l.length by omega)
    have h2:=hd (l.getD (l.length-1-i) 0) (by
      rw[List.getD_eq_getElem?_getD,List.getElem?_eq_getElem (show l.length-1-i<l.length by omega)]
      exact List.getElem_mem _)
    rw[← h1]
    congr 1
    omega
end Go.Proofs.YtbhhfpjiacfofaaDoor.P
namespace Go.Proofs.YtbhhfpjiacfofaaDoor.P
open Go.RowKit Go.Proofs.YtbhhfpjiacfofaaDoorW.PrintWords Go.Proofs.YtbhhfpjiacfofaaDoorW.PrintLast Go.Proofs.YtbhhfpjiacfofaaDoorW.PrintMore Go.Proofs.YtbhhfpjiacfofaaDoor.FM
set_option linter.unusedVariables false
set_option linter.unusedSimpArgs false

theorem mx_len (a b:Nat):mx (a:Int) (b:Int)=((max a b:Nat):Int):=by unfold mx;split <;> omega
theorem Dig.lt {l:List UInt8} (h:Dig l) (i:Nat) (hi:l.length≤i):nvl l%10 ^ i=nvl l :=
  Nat.mod_eq_of_lt (Nat.lt_of_lt_of_le (nvl_lt h) (Nat.pow_le_pow_right (by omega) hi))

theorem add_step_math {na nb i x y c r:Nat} (hx:na/10 ^ i%10=x) (hy:nb/10 ^ i%10=y) (hv:r+10 ^ i*c=na%10 ^ i+nb%10 ^ i) :
    r+10 ^ i*((x+y+c)%10)+10 ^ (i+1)*((x+y+c)/10)=na%10 ^ (i+1)+nb%10 ^ (i+1):=by
  rw[Nat.mod_pow_succ,Nat.mod_pow_succ,hx,hy,Nat.pow_succ]
  have e:10 ^ i*((x+y+c)%10)+10 ^ i*10*((x+y+c)/10)=10 ^ i*(x+y+c):=by
    rw[Nat.mul_assoc, ← Nat.mul_add];congr 1;omega
  have e2:10 ^ i*(x+y+c)=10 ^ i*x+10 ^ i*y+10 ^ i*c:=by rw[Nat.mul_add,Nat.mul_add]
  omega
theorem end_step_math {i c r v:Nat} (hv:r+10 ^ i*c=v):r+10 ^ i*(c%10)+10 ^ (i+1)*(c/10)=v:=by
  rw[Nat.pow_succ, ← hv]
  have e:10 ^ i*(c%10)+10 ^ i*10*(c/10)=10 ^ i*c:=by
    rw[Nat.mul_assoc, ← Nat.mul_add];congr 1;omega
  omega

/-! the sum -/
theorem add_go (a b:List UInt8) (la:a.length≤100000000000) (lb:b.length≤100000000000) (da:Dig a) (db:Dig b) (i:Nat) (back:List Int) (c x y:Nat) (hi:i≤100000000000) (hl:back.length=i) (hc:c≤1)
    (hx:nvl a/10 ^ i%10=x) (hy:nvl b/10 ^ i%10=y) (hx9:x≤9) (hy9:y≤9) (k:Nat) :
    num_Add.j1 (k+1) (S a) (S b) back (c:Int) (i:Int) true=num_Add.l0 k (S a) (S b) (back++[((48+(x+y+c)%10:Nat):Int)]) (((x+y+c)/10:Nat):Int) ((i+1:Nat):Int):=by
  rw[num_Add.j1,_root_.if_pos rfl,at_ev a la da i (by omega),at_ev b lb db i (by omega),hx,hy]
  clear hx hy
  simp only[Option.bind_some]
  have hc1:back.length<140737488355328:=by omega
  have hw:wrap64 (wrap64 ((x:Int)+y)+c)=((x+y+c:Nat):Int):=by
    rw[w64 (x:=(x:Int)+y) (by omega) (by omega),w64 (by omega) (by omega)];omega
  have hq:wrap64 (Int.tdiv ((x+y+c:Nat):Int) 10)=(((x+y+c)/10:Nat):Int):=by
    rw[show Int.tdiv ((x+y+c:Nat):Int) 10=(((x+y+c)/10:Nat):Int) from rfl,w64 (by omega) (by omega)]
  have hm:(48+Int.tmod ((x+y+c:Nat):Int) 10)%256=((48+(x+y+c)%10:Nat):Int):=by
    rw[show Int.tmod ((x+y+c:Nat):Int) 10=(((x+y+c)%10:Nat):Int) from rfl];omega
  have hi1:wrap64 ((i:Int)+1)=((i+1:Nat):Int):=by rw[w64 (by omega) (by omega)];rfl
  rw[_root_.if_pos hc1,hw,hq,hm,hi1]
theorem add_end (a b:List UInt8) (la:a.length≤100000000000) (lb:b.length≤100000000000) (i:Nat) (back:List Int) (hi:max a.length b.length≤i) (hl:back.length≤1000000000000) (hD:DI back) (v:Nat) (hv:rvi back=v) :
    Ev (fun k=>num_Add.l0 k (S a) (S b) back ((0:Nat):Int) (i:Int)) (S (mkl v)):=by
  refine Ev.step (f:=fun k=>num_Add.j1 k (S a) (S b) back ((0:Nat):Int) (i:Int) false) (fun k=>?_) ?_
  · rw[num_Add.l0,S_size,S_size,mx_len,_root_.if_neg (by omega)];rfl
  · refine Ev.step (f:=fun k=>(num_text.f k back).bind fun t=>some t) (fun k=>?_) ?_
    · rw[num_Add.j1,_root_.if_neg (by decide)]
    · have:=text_ev back hl hD
      rw[hv] at this
      exact Ev.bind this (Ev.now _)
theorem add_loop (a b:List UInt8) (la:a.length≤100000000000) (lb:b.length≤100000000000) (da:Dig a) (db:Dig b) (d:Nat):∀(i:Nat) (back:List Int) (c:Nat),i+d=max a.length b.length+1→DI back→back.length=i→c≤1→(d=0→c=0) →
    rvi back+10 ^ i*c=nvl a%10 ^ i+nvl b%10 ^ i→Ev (fun k=>num_Add.l0 k (S a) (S b) back (c:Int) (i:Int)) (S (mkl (nvl a+nvl b))):=by
  induction d with
  | zero =>
    intro i back c hi hD hl hc h0 hv
    obtain rfl:=h0 rfl
    rw[Dig.lt da i (by clear hv;omega),Dig.lt db i (by clear hv;omega),Nat.mul_zero,Nat.add_zero] at hv
    exact add_end a b la lb i back (by clear hv;omega) (by clear hv;omega) hD _ hv
  | succ d ih =>
    intro i back c hi hD hl hc h0 hv
    by_cases hgo:i<max a.length b.length∨0<c
    · obtain⟨x,hx⟩:∃x,nvl a/10 ^ i%10=x:=⟨_,rfl⟩
      obtain⟨y,hy⟩:∃y,nvl b/10 ^ i%10=y:=⟨_,rfl⟩
      have hx9:x≤9:=by clear hv hy;omega
      have hy9:y≤9:=by clear hv hx;omega
      have e3:=add_step_math hx hy hv
      refine Ev.step (f:=fun k=>num_Add.j1 k (S a) (S b) back (c:Int) (i:Int) true) (fun k=>?_) ?_
      · clear hv hx hy e3
        rw[num_Add.l0,S_size,S_size,mx_len]
        by_cases h1:i<max a.length b.length
        · rw[_root_.if_pos (by omega)]
        · rw[_root_.if_neg (by omega),decide_eq_true (by omega:(c:Int)>0)]
      · refine Ev.step (add_go a b la lb da db i back c x y (by clear hv hx hy e3;omega) hl hc hx hy hx9 hy9) ?_
        have hz:d=0→x=0∧y=0:=by
          intro hd0
          exact⟨by rw[← hx,digit_beyond da (by clear hv hx hy e3;omega)],by rw[← hy,digit_beyond db (by clear hv hx hy e3;omega)]⟩
        clear hv hx hy
        refine ih (i+1) _ _ (by clear e3;omega) (hD.snoc (by clear e3;omega) (by clear e3;omega)) (by simp[hl]) (by clear e3;omega) (by clear e3;omega) ?_
        rw[rvi_snoc,hl,show((48+(x+y+c)%10:Nat):Int)-48=(((x+y+c)%10:Nat):Int) by clear e3;omega,Int.toNat_natCast]
        exact e3
    · obtain rfl:c=0:=by clear hv;omega
      rw[Dig.lt da i (by clear hv;omega),Dig.lt db i (by clear hv;omega),Nat.mul_zero,Nat.add_zero] at hv
      exact add_end a b la lb i back (by clear hv;omega) (by clear hv;omega) hD _ hv
theorem Add_ev (a b:List UInt8) (ha:Sm a) (hb:Sm b) (da:Dig a) (db:Dig b):Ev (fun k=>num_Add.f k (S a) (S b)) (S (mkl (nvl a+nvl b))):=by
  unfold num_Add.f
  refine Ev.bind (all_ev a b ha hb) ?_
  rw[decide_eq_true (⟨da,db⟩:Dig a∧Dig b)]
  refine Ev.if_pos rfl ?_
  exact add_loop a b ha hb da db (max a.length b.length+1) 0 [] 0 (by omega) DI.nil rfl (by omega) (by intro h;rfl) (by simp[rvi,Nat.mod_one])
end Go.Proofs.YtbhhfpjiacfofaaDoor.P
namespace Go.Proofs.YtbhhfpjiacfofaaDoor.P
open Go.RowKit Go.Proofs.YtbhhfpjiacfofaaDoorW.PrintWords Go.Proofs.YtbhhfpjiacfofaaDoorW.PrintLast Go.Proofs.YtbhhfpjiacfofaaDoorW.PrintMore Go.Proofs.YtbhhfpjiacfofaaDoor.FM
set_option linter.unusedVariables false
set_option linter.unusedSimpArgs false

theorem d10 (c:Nat):Int.tdiv (c:Int) 10=((c/10:Nat):Int):=(Int.ofNat_tdiv c 10).symm
theorem m10 (c:Nat):Int.tmod (c:Int) 10=((c%10:Nat):Int):=(Int.ofNat_tmod c 10).symm
theorem byte10 (c:Nat):(48+((c%10:Nat):Int))%256=((48+c%10:Nat):Int):=by omega
theorem back10 (c:Nat):(((48+c%10:Nat):Int)-48).toNat=c%10:=by omega
theorem snoc10 {l:List Int} (h:DI l) (c:Nat):DI (l++[((48+c%10:Nat):Int)]):=h.snoc (by omega) (by omega)
theorem inc64 {i:Nat} (h:i≤9000000000000000000):wrap64 ((i:Int)+1)=((i+1:Nat):Int):=by rw[w64 (by omega) (by omega)];rfl
/-! an int's digits -/
theorem of_loop (v:Nat) (n:Nat):∀(i:Nat) (back:List Int),i+n≤9223372036854775807+100→i≤100→n<10 ^ (100-i)→DI back→back.length=i→rvi back+10 ^ i*n=v →
    Ev (fun k=>num_Of.l0 k (n:Int) back) (S (mkl v)):=by
  induction n using Nat.strongRecOn with
  | ind n ih =>
    intro i back hin hi hn hD hl hv
    rcases Nat.eq_zero_or_pos n with rfl|hc
    · rw[Nat.mul_zero,Nat.add_zero] at hv
      refine Ev.step (f:=fun k=>(num_text.f k back).bind fun t=>some t) (fun k=>?_) ?_
      · rw[num_Of.l0,_root_.if_neg (by omega)]
      · have:=text_ev back (by clear hv hn;omega) hD
        rw[hv] at this
        exact Ev.bind this (Ev.now _)
    · have e3:=end_step_math hv
      clear hv
      have hi1:i<100:=by
        rcases Nat.lt_or_ge i 100 with h|h
        · exact h
        · rw[Nat.sub_eq_zero_of_le h] at hn
          clear e3;omega
      have hn':n/10<10 ^ (100-(i+1)):=by
        rw[show 100-i=(100-(i+1))+1 by clear e3 hn;omega,Nat.pow_succ] at hn
        clear e3;omega
      clear hn
      refine Ev.step (f:=fun k=>num_Of.l0 k ((n/10:Nat):Int) (back++[((48+n%10:Nat):Int)])) (fun k=>?_) ?_
      · have hb:back.length<140737488355328:=by clear e3 hn';omega
        have hw:wrap64 ((n/10:Nat):Int)=((n/10:Nat):Int):=w64 (by omega) (by clear e3 hn';omega)
        rw[num_Of.l0,_root_.if_pos (by clear e3 hn';omega),_root_.if_pos hb,d10,m10,byte10,hw]
      · refine ih (n/10) (by clear e3 hn';omega) (i+1) _ (by clear e3 hn';omega) (by omega) hn' (snoc10 hD n) (by simp[hl]) ?_
        rw[rvi_snoc,hl,back10]
        exact e3
theorem Of_ev (n:Nat) (hn:n≤9223372036854775807):Ev (fun k=>num_Of.f k (n:Int)) (S (mkl n)):=by
  unfold num_Of.f
  exact of_loop n n 0 [] (by omega) (by omega) (Nat.lt_of_le_of_lt hn (by decide)) DI.nil rfl (by simp[rvi])
end Go.Proofs.YtbhhfpjiacfofaaDoor.P
namespace Go.Proofs.YtbhhfpjiacfofaaDoor.P
open Go.RowKit Go.Proofs.YtbhhfpjiacfofaaDoorW.PrintWords Go.Proofs.YtbhhfpjiacfofaaDoorW.PrintLast Go.Proofs.YtbhhfpjiacfofaaDoorW.PrintMore Go.Proofs.YtbhhfpjiacfofaaDoor.FM
set_option linter.unusedVariables false
set_option linter.unusedSimpArgs false

/-! the order -/
theorem compareBytes_dig:∀(a b:List UInt8),Dig a→Dig b→a.length=b.length→Lib.compareBytes a b=cmpN (nvl a) (nvl b)
  | [],[],_,_,_=>by simp[Lib.compareBytes,cmpN]
  | [],_::_,_,_,h=>by simp at h
  | _::_,[],_,_,h=>by simp at h
  | c::a,d::b,ha,hb,h=>by
    rw[dig_cons] at ha hb
    have hl:a.length=b.length:=by simpa using h
    unfold Lib.compareBytes
    by_cases h1:c<d
    · have:=head_lt ha.2 hl ha.1.1 (UInt8.lt_iff_toNat_lt.1 h1)
      rw[_root_.if_pos h1];unfold cmpN;rw[_root_.if_pos this]
    · rw[_root_.if_neg h1]
      by_cases h2:d<c
      · have:=head_lt hb.2 hl.symm hb.1.1 (UInt8.lt_iff_toNat_lt.1 h2)
        rw[_root_.if_pos h2];unfold cmpN;rw[_root_.if_neg (by omega),_root_.if_pos this]
      · have hcd:c=d:=by
          apply UInt8.toNat_inj.1
          rw[UInt8.lt_iff_toNat_lt] at h1 h2
          omega
        subst hcd
        rw[_root_.if_neg h2,compareBytes_dig a b ha.2 hb.2 hl]
        unfold cmpN
        rw[nvl_cons,nvl_cons,hl]
        repeat' split
        all_goals omega
theorem Cmp_ev (a b:List UInt8) (la:Sm a) (lb:Sm b) (da:Dig a) (db:Dig b):Ev (fun k=>num_Cmp.f k (S a) (S b)) (cmpN (nvl a) (nvl b)):=by
  unfold num_Cmp.f
  refine Ev.bind (all_ev a b la lb) ?_
  rw[decide_eq_true (⟨da,db⟩:Dig a∧Dig b)]
  refine Ev.if_pos rfl ?_
  refine Ev.bind (Trim_dig a (by unfold Sm at la;omega) da) (Ev.bind (Trim_dig b (by unfold Sm at lb;omega) db) ?_)
  simp only[S_size]
  by_cases h:(mkl (nvl a)).length=(mkl (nvl b)).length
  · refine Ev.if_pos (by omega) ?_
    refine Ev.const (a:=cmpN (nvl a) (nvl b)) ?_ (Ev.now _)
    unfold strings_Compare.f
    rw[S_data,S_data,compareBytes_dig _ _ (dig_mkl _) (dig_mkl _) h,nvl_mkl,nvl_mkl]
  · refine Ev.if_neg (by omega) ?_
    refine Ev.const (a:=cmpN (nvl a) (nvl b)) ?_ (Ev.now _)
    unfold cmp_Compare_int.f Lib.compareInt
    congr 1
    unfold cmpN
    rcases Nat.lt_or_ge (mkl (nvl a)).length (mkl (nvl b)).length with h1|h1
    · have:=len_lt h1
      rw[_root_.if_pos (by omega),_root_.if_pos this]
    · have:=len_lt (show(mkl (nvl b)).length<(mkl (nvl a)).length by omega)
      rw[_root_.if_neg (by omega),_root_.if_pos (by omega),_root_.if_neg (by omega),_root_.if_pos this]
/-! what is left -/
theorem sub_no {x y c:Nat} (hx:x≤9) (hy:y≤9) (hc:c≤1):wrap64 (wrap64 ((x:Int)-y)-c)=(x:Int)-y-c:=by
  rw[w64 (x:=(x:Int)-y) (by omega) (by omega),w64 (by omega) (by omega)]
theorem sub_lo {x y c:Nat} (hx:x≤9) (hy:y≤9) (hc:c≤1) (h:x<y+c):(48+(wrap64 ((x:Int)-y-c+10)))%256=((48+(x+10-y-c):Nat):Int):=by
  rw[w64 (by omega) (by omega)];omega
theorem sub_hi {x y c:Nat} (hx:x≤9) (h:y+c≤x):(48+((x:Int)-y-c))%256=((48+(x-y-c):Nat):Int):=by omega
theorem Sub_go (a b:List UInt8) (la:a.length≤100000000000) (lb:b.length≤100000000000) (da:Dig a) (db:Dig b) (i:Nat) (back:List Int) (c x y:Nat) (hi:i<a.length) (hb:back.length<140737488355328) (hc:c≤1)
    (hx:nvl a/10 ^ i%10=x) (hy:nvl b/10 ^ i%10=y) (hx9:x≤9) (hy9:y≤9) (k:Nat) :
    num_Sub.l0 (k+1) (S a) (S b) back (c:Int) (a.length:Int) (i:Int)=if x<y+c then num_Sub.l0 k (S a) (S b) (back++[((48+(x+10-y-c):Nat):Int)]) ((1:Nat):Int) (a.length:Int) ((i+1:Nat):Int) else num_Sub.l0 k (S a) (S b) (back++[((48+(x-y-c):Nat):Int)]) ((0:Nat):Int) (a.length:Int) ((i+1:Nat):Int):=by
  rw[num_Sub.l0,_root_.if_pos (by omega),at_ev a la da i (by omega),at_ev b lb db i (by omega),hx,hy]
  clear hx hy
  simp only[Option.bind_some]
  rw[sub_no hx9 hy9 hc,inc64 (by omega)]
  by_cases h:x<y+c
  · rw[_root_.if_pos h,_root_.if_pos (by omega),_root_.if_pos hb,sub_lo hx9 hy9 hc h];rfl
  · rw[_root_.if_neg h,_root_.if_neg (by omega),_root_.if_pos hb,sub_hi hx9 (by omega)];rfl
theorem Sub_loop (a b:List UInt8) (la:a.length≤100000000000) (lb:b.length≤100000000000) (da:Dig a) (db:Dig b) (hle:nvl b≤nvl a) (d:Nat):∀(i:Nat) (back:List Int) (c:Nat),i+d=a.length→DI back→back.length=i→c≤1 →
    rvi back+nvl b%10 ^ i=nvl a%10 ^ i+10 ^ i*c→Ev (fun k=>num_Sub.l0 k (S a) (S b) back (c:Int) (a.length:Int) (i:Int)) (S (mkl (nvl a-nvl b)),true):=by
  induction d with
  | zero =>
    intro i back c hi hD hl hc hv
    obtain rfl:i=a.length:=by clear hv;omega
    have hA:=nvl_lt da
    have hR:=rvi_lt hD
    rw[hl] at hR
    have hv':=sub_end_math hR hA (Nat.lt_of_le_of_lt hle hA) hle hc hv
    clear hv
    refine Ev.step (f:=fun k=>(num_text.f k back).bind fun t=>some (t,true)) (fun k=>?_) ?_
    · rw[num_Sub.l0,_root_.if_neg (by clear hv' hA hR;omega)]
    · have:=text_ev back (by clear hv' hA hR;omega) hD
      rw[hv'] at this
      exact Ev.bind this (Ev.now _)
  | succ d ih =>
    intro i back c hi hD hl hc hv
    obtain⟨x,hx⟩:∃x,nvl a/10 ^ i%10=x:=⟨_,rfl⟩
    obtain⟨y,hy⟩:∃y,nvl b/10 ^ i%10=y:=⟨_,rfl⟩
    have hx9:x≤9:=by clear hv hy;omega
    have hy9:y≤9:=by clear hv hx;omega
    have hgo:=Sub_go a b la lb da db i back c x y (by clear hv hx hy;omega) (by clear hv hx hy;omega) hc hx hy hx9 hy9
    by_cases h:x<y+c
    · have e3:=sub_step_math hx hy hv 1 (q:=x+10-y-c) (by clear hv hx hy hgo;omega)
      refine Ev.step (fun k=>(hgo k).trans (_root_.if_pos h)) ?_
      clear hv hx hy hgo
      refine ih (i+1) _ 1 (by clear e3;omega) (hD.snoc (by clear e3;omega) (by clear e3;omega)) (by simp[hl]) (by omega) ?_
      rw[rvi_snoc,hl,show(((48+(x+10-y-c):Nat):Int)-48).toNat=x+10-y-c by clear e3;omega]
      exact e3
    · have e3:=sub_step_math hx hy hv 0 (q:=x-y-c) (by clear hv hx hy hgo;omega)
      refine Ev.step (fun k=>(hgo k).trans (_root_.if_neg h)) ?_
      clear hv hx hy hgo
      refine ih (i+1) _ 0 (by clear e3;omega) (hD.snoc (by clear e3;omega) (by clear e3;omega)) (by simp[hl]) (by omega) ?_
      rw[rvi_snoc,hl,show(((48+(x-y-c):Nat):Int)-48).toNat=x-y-c by clear e3;omega]
      exact e3
theorem Sub_none (a b:ByteArray):Ev (fun k=>num_Sub.j0 k a b true) (S [],false):=by
  refine Ev.step (f:=fun k=>some (S [],false)) (fun k=>?_) (Ev.now _)
  rw[num_Sub.j0,_root_.if_pos rfl];rfl
theorem Sub_ev (a b:List UInt8) (la:Sm a) (lb:Sm b) (da:Dig a) (db:Dig b) (h:nvl b≤nvl a):Ev (fun k=>num_Sub.f k (S a) (S b)) (S (mkl (nvl a-nvl b)),true):=by
  unfold num_Sub.f
  refine Ev.bind (all_ev a b la lb) ?_
  rw[decide_eq_true (⟨da,db⟩:Dig a∧Dig b)]
  refine Ev.if_pos rfl (Ev.bind (Cmp_ev a b la lb da db) ?_)
  rw[decide_eq_false (by rw[cmpN_neg];omega:¬cmpN (nvl a) (nvl b)<0)]
  refine Ev.step (f:=fun k=>num_Sub.l0 k (S a) (S b) [] 0 (a.length:Int) 0) (fun k=>?_) ?_
  · rw[num_Sub.j0,_root_.if_neg (by decide)];rfl
  · exact Sub_loop a b la lb da db h a.length 0 [] 0 (by omega) DI.nil rfl (by omega) (by simp[rvi,Nat.mod_one])
theorem Sub_less (a b:List UInt8) (la:Sm a) (lb:Sm b) (da:Dig a) (db:Dig b) (h:nvl a<nvl b):Ev (fun k=>num_Sub.f k (S a) (S b)) (S [],false):=by
  unfold num_Sub.f
  refine Ev.bind (all_ev a b la lb) ?_
  rw[decide_eq_true (⟨da,db⟩:Dig a∧Dig b)]
  refine Ev.if_pos rfl (Ev.bind (Cmp_ev a b la lb da db) ?_)
  rw[decide_eq_true (by rw[cmpN_neg];omega:cmpN (nvl a) (nvl b)<0)]
  exact Sub_none _ _
theorem Sub_not (a b:List UInt8) (la:Sm a) (lb:Sm b) (h:¬(Dig a∧Dig b)):Ev (fun k=>num_Sub.f k (S a) (S b)) (S [],false):=by
  unfold num_Sub.f
  refine Ev.bind (all_ev a b la lb) ?_
  rw[decide_eq_false h]
  exact Ev.if_neg (by decide) (Sub_none _ _)

/-! a number as an int -/
theorem Int_go (l:List UInt8) (hd:Dig l) (hl:l.length≤18):num_Int.go l=(nvl l:Int):=by
  unfold num_Int.go
  induction l using snoc_induction with
  | h0=>rfl
  | h1 l c ih =>
    rw[dig_append,dig_cons] at hd
    have hl':l.length≤18:=by simp at hl;omega
    rw[List.foldl_append,List.foldl_cons,List.foldl_nil,ih hd.1 hl',nvl_snoc]
    have hlt:nvl l<10 ^ 18:=Nat.lt_of_lt_of_le (nvl_lt hd.1) (Nat.pow_le_pow_right (by omega) hl')
    have hlt':nvl l<10 ^ 17:=Nat.lt_of_lt_of_le (nvl_lt hd.1) (Nat.pow_le_pow_right (by omega) (by simp at hl;omega))
    unfold num_Int.step
    have hc:=hd.2.1
    rw[w64 (x:=10*(nvl l:Int)) (by omega) (by omega),w64 (by omega) (by omega)]
    omega
theorem Int_ev (a:List UInt8) (la:Sm a) (da:Dig a) (h:nvl a<10 ^ 18):Ev (fun k=>num_Int.f k (S a)) ((nvl a:Int),true):=by
  unfold num_Int.f
  refine Ev.bind (Is_ev a (by unfold Sm at la;omega)) ?_
  rw[decide_eq_true da]
  refine Ev.if_pos rfl (Ev.bind (Trim_dig a (by unfold Sm at la;omega) da) ?_)
  have hl:(mkl (nvl a)).length≤18:=mkl_length_le.2 h
  refine Ev.if_neg (by rw[S_size];omega) ?_
  rw[S_data,Int_go _ (dig_mkl _) hl,nvl_mkl]
  exact Ev.now _
theorem Int_long (a:List UInt8) (la:Sm a) (da:Dig a) (h:10 ^ 18≤nvl a):Ev (fun k=>num_Int.f k (S a)) (0,false):=by
  unfold num_Int.f
  refine Ev.bind (Is_ev a (by unfold Sm at la;omega)) ?_
  rw[decide_eq_true da]
  refine Ev.if_pos rfl (Ev.bind (Trim_dig a (by unfold Sm at la;omega) da) ?_)
  have hl:¬(mkl (nvl a)).length≤18:=by rw[mkl_length_le];omega
  exact Ev.if_pos (by rw[S_size];omega) (Ev.now _)
/-! noughts -/
theorem repeat_zs (n:Nat):Lib.repeatL [48] n=zs n:=by
  induction n with
  | zero=>rfl
  | succ n ih=>rw[Lib.repeatL,ih];rfl
theorem Zeros_ev (n:Int):num_Zeros.f n=some (S (zs (min n.toNat 60000))):=by
  unfold num_Zeros.f
  have e:mn (mx n 0) 60000=((min n.toNat 60000:Nat):Int):=by
    unfold mn mx
    repeat' split
    all_goals omega
  rw[e]
  unfold strings_Repeat.f
  rw[_root_.if_pos ⟨by omega,by omega,by show 1*_≤_;omega⟩,Int.toNat_natCast]
  show some (S (Lib.repeatL [48] _))=_
  rw[repeat_zs]
end Go.Proofs.YtbhhfpjiacfofaaDoor.P
namespace Go.Proofs.YtbhhfpjiacfofaaDoor.P
open Go.RowKit Go.Proofs.YtbhhfpjiacfofaaDoorW.PrintWords Go.Proofs.YtbhhfpjiacfofaaDoorW.PrintLast Go.Proofs.YtbhhfpjiacfofaaDoorW.PrintMore Go.Proofs.YtbhhfpjiacfofaaDoor.FM
set_option linter.unusedVariables false
set_option linter.unusedSimpArgs false

end Go.Proofs.YtbhhfpjiacfofaaDoor.P
namespace Go.Proofs.YtbhhfpjiacfofaaDoor.P
open Go.RowKit Go.Proofs.YtbhhfpjiacfofaaDoorW.PrintWords Go.Proofs.YtbhhfpjiacfofaaDoorW.PrintLast Go.Proofs.YtbhhfpjiacfofaaDoorW.PrintMore Go.Proofs.YtbhhfpjiacfofaaDoor.FM
set_option linter.unusedVariables false
set_option linter.unusedSimpArgs false

/-- the last bits of an int -/
theorem and64 (j:Nat) (hj:j≤63) (n m:Int) (hm:(BitVec.ofInt 64 m).toNat=2 ^ j-1):Go.bits .and .i64 n m=n%((2 ^ j:Nat):Int):=by
  have key:(BitVec.ofInt 64 n &&& BitVec.ofInt 64 m).toNat=(n%((2 ^ 64:Nat):Int)).toNat%2 ^ j:=by
    rw[BitVec.toNat_and,BitVec.toNat_ofInt,hm,Nat.and_two_pow_sub_one_eq_mod]
  show IntKind.i64.wrap ((BitVec.ofInt 64 n &&& BitVec.ofInt 64 m).toNat:Nat)=_
  rw[key,IntKind.wrap_i64]
  have h1:(n%((2 ^ 64:Nat):Int)).toNat%2 ^ j<2 ^ 63:=Nat.lt_of_lt_of_le (Nat.mod_lt _ (Nat.pow_pos (by omega))) (Nat.pow_le_pow_right (by omega) hj)
  have h2:(((n%((2 ^ 64:Nat):Int)).toNat%2 ^ j:Nat):Int)=n%((2 ^ j:Nat):Int):=by
    rw[Int.natCast_emod,Int.toNat_of_nonneg (Int.emod_nonneg _ (by decide))]
    exact Int.emod_emod_of_dvd n (Int.natCast_dvd_natCast.2 (Nat.pow_dvd_pow 2 (by omega)))
  rw[← h2]
  have h3:(2:Nat) ^ 63=9223372036854775808:=by decide
  rw[h3] at h1
  clear h2 key hm
  omega
theorem Ev.yes {b:Bool} (h:b=true):Ev (fun _=>some b) true:=by rw[h];exact Ev.now true
/-- the last bits, as a number -/
theorem low64 (j:Nat) (hj:j≤63) (n m:Int) (hm:(BitVec.ofInt 64 m).toNat=2 ^ j-1):∃x:Nat,Go.bits .and .i64 n m=x∧x<2 ^ j:=by
  rw[and64 j hj n m hm]
  have h1:=Int.emod_nonneg n (b:=((2 ^ j:Nat):Int)) (by have:=Nat.pow_pos (a:=2) (n:=j) (by omega);omega)
  have h2:=Int.emod_lt_of_pos n (b:=((2 ^ j:Nat):Int)) (by have:=Nat.pow_pos (a:=2) (n:=j) (by omega);omega)
  exact⟨(n%((2 ^ j:Nat):Int)).toNat,by omega,by omega⟩
theorem sm_le {l:List UInt8} {n:Nat} (h:l.length≤n) (hn:n≤100000000000):Sm l:=Nat.le_trans h hn
end Go.Proofs.YtbhhfpjiacfofaaDoor.P
