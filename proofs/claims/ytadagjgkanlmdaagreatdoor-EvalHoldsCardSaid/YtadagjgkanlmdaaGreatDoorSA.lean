import Derived.Test.YtadagjgkanlmdaaGreatDoorMA
import Derived.Test.YtadagjgkanlmdaaGreatDoorPx1
import Derived.Test.YtadagjgkanlmdaaGreatDoorPx10
import Derived.Test.YtadagjgkanlmdaaGreatDoorPx11
import Derived.Test.YtadagjgkanlmdaaGreatDoorPx12
import Derived.Test.YtadagjgkanlmdaaGreatDoorPx13
import Derived.Test.YtadagjgkanlmdaaGreatDoorPx2
import Derived.Test.YtadagjgkanlmdaaGreatDoorPx3
import Derived.Test.YtadagjgkanlmdaaGreatDoorPx5
import Derived.Test.YtadagjgkanlmdaaGreatDoorPx7
import Derived.Test.YtadagjgkanlmdaaGreatDoorPx8
import Derived.Laws.BitsLemmas
namespace Go.Proofs.YtadagjgkanlmdaaGreatDoor.P
open Go.RowKit Go.Proofs.YtadagjgkanlmdaaGreatDoorW.PrintWords Go.Proofs.YtadagjgkanlmdaaGreatDoorW.PrintLast Go.Proofs.YtadagjgkanlmdaaGreatDoorW.PrintMore Go.Proofs.YtadagjgkanlmdaaGreatDoor.FM
set_option linter.unusedVariables false
set_option linter.unusedSimpArgs false

/-! strings as lists of bytes -/
def S (l:List UInt8):ByteArray:=⟨l.toArray⟩
theorem S_data (l:List UInt8):(S l).data.toList=l:=rfl
theorem S_of (s:ByteArray):s=S s.data.toList:=rfl
theorem S_size (l:List UInt8):(S l).size=l.length:=rfl
theorem S_toList (l:List UInt8):(S l).toList=l:=by rw[ByteArray.toList_eq];rfl
theorem S_append (a b:List UInt8):S a++S b=S (a++b):=by
  have h:(S a++S b).data.toList=a++b:=by simp[S]
  rw[S_of (S a++S b),h]
theorem S_extract (l:List UInt8) (i j:Nat):(S l).extract i j=S ((l.take j).drop i):=by
  have h:((S l).extract i j).data.toList=(l.take j).drop i:=by
    simp[S,ByteArray.data_extract,Array.toList_extract,List.drop_take]
  rw[S_of ((S l).extract i j),h]
theorem bt_S (l:List UInt8) (i:Int):bt (S l) i=(l.getD i.toNat 0).toNat:=by
  unfold bt
  have hs:(S l).size=l.length:=rfl
  by_cases h:i.toNat<l.length
  · rw[dif_pos (by rw[hs];exact h)]
    rw[List.getD_eq_getElem?_getD,List.getElem?_eq_getElem h]
    rfl
  · rw[dif_neg (by rw[hs];exact h),List.getD_eq_getElem?_getD,List.getElem?_eq_none (by omega)]
    rfl
theorem w64 {x:Int} (h1: -9223372036854775808≤x) (h2:x≤9223372036854775807):wrap64 x=x:=by unfold wrap64;omega
theorem strOfNums_S (l:List Int):strOfNums l=S (l.map fun n=>UInt8.ofNat n.toNat):=rfl

/-- from some number of rounds on, whatever was asked first: a call that doesn't hang on the rounds -/
theorem Ev.const {α β:Type} {g:Option α} {f:Nat→α→Option β} {a:α} {r:β} (h:g=some a) (k:Ev (fun n=>f n a) r):Ev (fun n=>g.bind (f n)) r:=by
  subst h;exact k
theorem Ev.if_pos {α:Type} {c:Prop} [Decidable c] {a b:Nat→Option α} {r:α} (h:c) (k:Ev a r):Ev (fun n=>if c then a n else b n) r:=by
  simpa only[_root_.if_pos h] using k
theorem Ev.if_neg {α:Type} {c:Prop} [Decidable c] {a b:Nat→Option α} {r:α} (h:¬c) (k:Ev b r):Ev (fun n=>if c then a n else b n) r:=by
  simpa only[_root_.if_neg h] using k
/-- a length that never wraps -/
abbrev Sm (l:List UInt8):Prop:=l.length≤100000000000

theorem Is_loop (l:List UInt8) (hl:l.length≤1000000000000) (d:Nat):∀i:Nat,i+d=l.length→Ev (fun k=>num_Is.l0 k (S l) (l.length:Int) (i:Int)) (decide (Dig (l.drop i))):=by
  induction d with
  | zero =>
    intro i hi
    refine Ev.step (f:=fun _=>some true) (fun k=>?_) ?_
    · rw[num_Is.l0,_root_.if_neg (by omega)]
    · rw[List.drop_of_length_le (by omega)]
      exact Ev.now true
  | succ d ih =>
    intro i hi
    have hlt:i<l.length:=by omega
    have hdrop:l.drop i=l[i]::l.drop (i+1):=(List.getElem_cons_drop ..).symm
    have hb:bt (S l) (i:Int)=(l[i].toNat:Int):=by
      rw[bt_S,Int.toNat_natCast,List.getD_eq_getElem?_getD,List.getElem?_eq_getElem hlt];rfl
    have hw:wrap64 ((i:Int)+1)=((i+1:Nat):Int):=by rw[w64 (by omega) (by omega)];rfl
    by_cases hc:48≤l[i].toNat∧l[i].toNat≤57
    · refine Ev.step (f:=fun k=>num_Is.l0 k (S l) (l.length:Int) ((i+1:Nat):Int)) (fun k=>?_) ?_
      · rw[num_Is.l0,_root_.if_pos (by omega),_root_.if_pos (by omega),_root_.if_pos (by rw[S_size];omega),hb,_root_.if_neg (by omega),_root_.if_neg (by omega),hw]
      · have:=ih (i+1) (by omega)
        rw[hdrop]
        rw[show decide (Dig (l[i]::l.drop (i+1)))=decide (Dig (l.drop (i+1))) by simp only[dig_cons,hc,true_and]]
        exact this
    · refine Ev.step (f:=fun k=>some false) (fun k=>?_) ?_
      · rw[num_Is.l0,_root_.if_pos (by omega),_root_.if_pos (by omega),_root_.if_pos (by rw[S_size];omega),hb]
        by_cases h1:l[i].toNat<48
        · rw[_root_.if_pos (by omega)]
        · rw[_root_.if_neg (by omega),_root_.if_pos (by omega)]
      · rw[hdrop,show decide (Dig (l[i]::l.drop (i+1)))=false by
          rw[decide_eq_false_iff_not,dig_cons];intro h;exact hc h.1]
        exact Ev.now false
theorem Is_ev (l:List UInt8) (hl:l.length≤1000000000000):Ev (fun k=>num_Is.f k (S l)) (decide (Dig l)):=Is_loop l hl l.length 0 (by omega)
theorem TrimLeft_zero (l:List UInt8):strings_TrimLeft.f (S l) (⟨#[48]⟩:ByteArray)=some (S (bare l)):=by
  unfold strings_TrimLeft.f
  rw[dif_pos (by rfl),_root_.if_pos (by decide)]
  rfl
theorem Trim_dig (l:List UInt8) (hl:l.length≤1000000000000) (hd:Dig l):Ev (fun k=>num_Trim.f k (S l)) (S (mkl (nvl l))):=by
  unfold num_Trim.f
  refine Ev.bind (Is_ev l hl) ?_
  rw[decide_eq_true hd]
  refine Ev.if_pos rfl ?_
  refine Ev.const (TrimLeft_zero l) ?_
  rw[bare_eq hd]
  exact Ev.now _
theorem text_loop (l:List Int) (hl:l.length≤1000000000000) (r:ByteArray) (hr:Ev (fun k=>num_Trim.f k (strOfNums l.reverse)) r) (d:Nat):∀i:Nat,i+d=l.length →
    Ev (fun k=>num_text.l0 k l (List.replicate (l.length-i) 0++(l.take i).reverse) l (l.length:Int) (i:Int)) r:=by
  induction d with
  | zero =>
    intro i hi
    obtain rfl:i=l.length:=by omega
    refine Ev.step (f:=fun k=>(num_Trim.f k (strOfNums l.reverse)).bind fun t=>some t) (fun k=>?_) (Ev.bind hr (Ev.now _))
    rw[num_text.l0,_root_.if_neg (by omega)]
    simp
  | succ d ih =>
    intro i hi
    have hlt:i<l.length:=by omega
    refine Ev.step (f:=fun k=>num_text.l0 k l (List.replicate (l.length-(i+1)) 0++(l.take (i+1)).reverse) l (l.length:Int) ((i+1:Nat):Int)) (fun k=>?_) (ih (i+1) (by omega))
    have hw:wrap64 ((i:Int)+1)=((i+1:Nat):Int):=by rw[w64 (by omega) (by omega)];rfl
    have hw2:wrap64 (wrap64 ((l.length:Int)-1)-i)=((l.length-1-i:Nat):Int):=by
      rw[w64 (x:=(l.length:Int)-1) (by omega) (by omega),w64 (by omega) (by omega)];omega
    rw[num_text.l0,_root_.if_pos (by omega),_root_.if_pos (by omega),_root_.if_pos (by omega),hw2,_root_.if_pos (by omega),_root_.if_pos (by simp;omega),hw]
    rw[Int.toNat_natCast]
    have:=set_row l i hlt
    unfold rd
    rw[Int.toNat_natCast,this]
theorem text_ev (l:List Int) (hl:l.length≤1000000000000) (hd:DI l):Ev (fun k=>num_text.f k l) (S (mkl (rvi l))):=by
  unfold num_text.f
  refine Ev.if_pos (by omega) (Ev.if_pos (by omega) ?_)
  have h:=text_loop l hl (S (mkl (rvi l))) (by
    have h1:=Trim_dig (bytesR l) (by simpa [bytesR] using hl) (bytesR_dig hd)
    rw[bytesR_nvl hd] at h1
    exact h1) l.length 0 (by omega)
  simpa using h

theorem all_ev (a b:List UInt8) (ha:Sm a) (hb:Sm b):Ev (fun k=>num_all.f k ([S a,S b]:List ByteArray)) (decide (Dig a∧Dig b)):=by
  unfold num_all.f
  refine Ev.step (f:=fun k=>(num_Is.f k (S a)).bind fun t=>if t=true then num_all.l0 k [S a,S b] 2 1 else some false) (fun k=>?_) ?_
  · rw[num_all.l0,_root_.if_pos (by simp),_root_.if_pos (by omega),_root_.if_pos (by simp),w64 (x:=0+1) (by omega) (by omega)]
    rfl
  refine Ev.bind (Is_ev a (by unfold Sm at ha;omega)) ?_
  by_cases h1:Dig a
  · rw[decide_eq_true h1]
    refine Ev.if_pos rfl ?_
    refine Ev.step (f:=fun k=>(num_Is.f k (S b)).bind fun t=>if t=true then num_all.l0 k [S a,S b] 2 2 else some false) (fun k=>?_) ?_
    · rw[num_all.l0,_root_.if_pos (by omega),_root_.if_pos (by omega),_root_.if_pos (by simp),w64 (x:=1+1) (by omega) (by omega)]
      rfl
    refine Ev.bind (Is_ev b (by unfold Sm at hb;omega)) ?_
    by_cases h2:Dig b
    · rw[decide_eq_true h2]
      refine Ev.if_pos rfl ?_
      refine Ev.step (f:=fun k=>some true) (fun k=>?_) ?_
      · rw[num_all.l0,_root_.if_neg (by omega)]
      · rw[decide_eq_true ⟨h1,h2⟩];exact Ev.now _
    · rw[decide_eq_false h2,decide_eq_false (fun h=>h2 h.2)]
      exact Ev.if_neg (by decide) (Ev.now _)
  · rw[decide_eq_false h1,decide_eq_false (fun h=>h1 h.1)]
    exact Ev.if_neg (by decide) (Ev.now _)

theorem at_ev (l:List UInt8) (hl:Sm l) (hd:Dig l) (i:Nat) (hi:i≤1000000000001):num_at.f (S l) (i:Int)=some ((nvl l/10 ^ i%10:Nat):Int):=by
  unfold num_at.f
  rw[S_size]
  by_cases h:l.length≤i
  · rw[_root_.if_pos (by omega),digit_beyond hd h];rfl
  · have hw2:wrap64 (wrap64 ((l.length:Int)-1)-i)=((l.length-1-i:Nat):Int):=by
      unfold Sm at hl
      rw[w64 (x:=(l.length:Int)-1) (by omega) (by omega),w64 (by omega) (by omega)];omega
    rw[_root_.if_neg (by omega),hw2,_root_.if_pos (by omega),_root_.if_pos (by omega),bt_S,Int.toNat_natCast]
    have h1:=get_digit hd (show i<l.length by omega)
    have h2:=hd (l.getD (l.length-1-i) 0) (by
      rw[List.getD_eq_getElem?_getD,List.getElem?_eq_getElem (show l.length-1-i<l.length by omega)]
      exact List.getElem_mem _)
    rw[← h1]
    congr 1
    omega
end Go.Proofs.YtadagjgkanlmdaaGreatDoor.P
namespace Go.Proofs.YtadagjgkanlmdaaGreatDoor.P
open Go.RowKit Go.Proofs.YtadagjgkanlmdaaGreatDoorW.PrintWords Go.Proofs.YtadagjgkanlmdaaGreatDoorW.PrintLast Go.Proofs.YtadagjgkanlmdaaGreatDoorW.PrintMore Go.Proofs.YtadagjgkanlmdaaGreatDoor.FM
set_option linter.unusedVariables false
set_option linter.unusedSimpArgs false

theorem mx_len (a b:Nat):mx (a:Int) (b:Int)=((max a b:Nat):Int):=by unfold mx;split <;> omega
theorem Dig.lt {l:List UInt8} (h:Dig l) (i:Nat) (hi:l.length≤i):nvl l%10 ^ i=nvl l :=
  Nat.mod_eq_of_lt (Nat.lt_of_lt_of_le (nvl_lt h) (Nat.pow_le_pow_right (by omega) hi))

theorem add_step_math {na nb i x y c r:Nat} (hx:na/10 ^ i%10=x) (hy:nb/10 ^ i%10=y) (hv:r+10 ^ i*c=na%10 ^ i+nb%10 ^ i) :
    r+10 ^ i*((x+y+c)%10)+10 ^ (i+1)*((x+y+c)/10)=na%10 ^ (i+1)+nb%10 ^ (i+1):=by
  rw[Nat.mod_pow_succ,Nat.mod_pow_succ,hx,hy,Nat.pow_succ]
  have e:10 ^ i*((x+y+c)%10)+10 ^ i*10*((x+y+c)/10)=10 ^ i*(x+y+c):=by
    rw[Nat.mul_assoc, ← Nat.mul_add];congr 1;omega
  have e2:10 ^ i*(x+y+c)=10 ^ i*x+10 ^ i*y+10 ^ i*c:=by rw[Nat.mul_add,Nat.mul_add]
  omega
theorem end_step_math {i c r v:Nat} (hv:r+10 ^ i*c=v):r+10 ^ i*(c%10)+10 ^ (i+1)*(c/10)=v:=by
  rw[Nat.pow_succ, ← hv]
  have e:10 ^ i*(c%10)+10 ^ i*10*(c/10)=10 ^ i*c:=by
    rw[Nat.mul_assoc, ← Nat.mul_add];congr 1;omega
  omega

/-! the sum -/
theorem add_go (a b:List UInt8) (la:a.length≤100000000000) (lb:b.length≤100000000000) (da:Dig a) (db:Dig b) (i:Nat) (back:List Int) (c x y:Nat) (hi:i≤100000000000) (hl:back.length=i) (hc:c≤1)
    (hx:nvl a/10 ^ i%10=x) (hy:nvl b/10 ^ i%10=y) (hx9:x≤9) (hy9:y≤9) (k:Nat) :
    num_Add.j1 (k+1) (S a) (S b) back (c:Int) (i:Int) true=num_Add.l0 k (S a) (S b) (back++[((48+(x+y+c)%10:Nat):Int)]) (((x+y+c)/10:Nat):Int) ((i+1:Nat):Int):=by
  rw[num_Add.j1,_root_.if_pos rfl,at_ev a la da i (by omega),at_ev b lb db i (by omega),hx,hy]
  clear hx hy
  simp only[Option.bind_some]
  have hc1:back.length<140737488355328:=by omega
  have hw:wrap64 (wrap64 ((x:Int)+y)+c)=((x+y+c:Nat):Int):=by
    rw[w64 (x:=(x:Int)+y) (by omega) (by omega),w64 (by omega) (by omega)];omega
  have hq:wrap64 (Int.tdiv ((x+y+c:Nat):Int) 10)=(((x+y+c)/10:Nat):Int):=by
    rw[show Int.tdiv ((x+y+c:Nat):Int) 10=(((x+y+c)/10:Nat):Int) from rfl,w64 (by omega) (by omega)]
  have hm:(48+Int.tmod ((x+y+c:Nat):Int) 10)%256=((48+(x+y+c)%10:Nat):Int):=by
    rw[show Int.tmod ((x+y+c:Nat):Int) 10=(((x+y+c)%10:Nat):Int) from rfl];omega
  have hi1:wrap64 ((i:Int)+1)=((i+1:Nat):Int):=by rw[w64 (by omega) (by omega)];rfl
  rw[_root_.if_pos hc1,hw,hq,hm,hi1]
theorem add_end (a b:List UInt8) (la:a.length≤100000000000) (lb:b.length≤100000000000) (i:Nat) (back:List Int) (hi:max a.length b.length≤i) (hl:back.length≤1000000000000) (hD:DI back) (v:Nat) (hv:rvi back=v) :
    Ev (fun k=>num_Add.l0 k (S a) (S b) back ((0:Nat):Int) (i:Int)) (S (mkl v)):=by
  refine Ev.step (f:=fun k=>num_Add.j1 k (S a) (S b) back ((0:Nat):Int) (i:Int) false) (fun k=>?_) ?_
  · rw[num_Add.l0,S_size,S_size,mx_len,_root_.if_neg (by omega)];rfl
  · refine Ev.step (f:=fun k=>(num_text.f k back).bind fun t=>some t) (fun k=>?_) ?_
    · rw[num_Add.j1,_root_.if_neg (by decide)]
    · have:=text_ev back hl hD
      rw[hv] at this
      exact Ev.bind this (Ev.now _)
theorem add_loop (a b:List UInt8) (la:a.length≤100000000000) (lb:b.length≤100000000000) (da:Dig a) (db:Dig b) (d:Nat):∀(i:Nat) (back:List Int) (c:Nat),i+d=max a.length b.length+1→DI back→back.length=i→c≤1→(d=0→c=0) →
    rvi back+10 ^ i*c=nvl a%10 ^ i+nvl b%10 ^ i→Ev (fun k=>num_Add.l0 k (S a) (S b) back (c:Int) (i:Int)) (S (mkl (nvl a+nvl b))):=by
  induction d with
  | zero =>
    intro i back c hi hD hl hc h0 hv
    obtain rfl:=h0 rfl
    rw[Dig.lt da i (by clear hv;omega),Dig.lt db i (by clear hv;omega),Nat.mul_zero,Nat.add_zero] at hv
    exact add_end a b la lb i back (by clear hv;omega) (by clear hv;omega) hD _ hv
  | succ d ih =>
    intro i back c hi hD hl hc h0 hv
    by_cases hgo:i<max a.length b.length∨0<c
    · obtain⟨x,hx⟩:∃x,nvl a/10 ^ i%10=x:=⟨_,rfl⟩
      obtain⟨y,hy⟩:∃y,nvl b/10 ^ i%10=y:=⟨_,rfl⟩
      have hx9:x≤9:=by clear hv hy;omega
      have hy9:y≤9:=by clear hv hx;omega
      have e3:=add_step_math hx hy hv
      refine Ev.step (f:=fun k=>num_Add.j1 k (S a) (S b) back (c:Int) (i:Int) true) (fun k=>?_) ?_
      · clear hv hx hy e3
        rw[num_Add.l0,S_size,S_size,mx_len]
        by_cases h1:i<max a.length b.length
        · rw[_root_.if_pos (by omega)]
        · rw[_root_.if_neg (by omega),decide_eq_true (by omega:(c:Int)>0)]
      · refine Ev.step (add_go a b la lb da db i back c x y (by clear hv hx hy e3;omega) hl hc hx hy hx9 hy9) ?_
        have hz:d=0→x=0∧y=0:=by
          intro hd0
          exact⟨by rw[← hx,digit_beyond da (by clear hv hx hy e3;omega)],by rw[← hy,digit_beyond db (by clear hv hx hy e3;omega)]⟩
        clear hv hx hy
        refine ih (i+1) _ _ (by clear e3;omega) (hD.snoc (by clear e3;omega) (by clear e3;omega)) (by simp[hl]) (by clear e3;omega) (by clear e3;omega) ?_
        rw[rvi_snoc,hl,show((48+(x+y+c)%10:Nat):Int)-48=(((x+y+c)%10:Nat):Int) by clear e3;omega,Int.toNat_natCast]
        exact e3
    · obtain rfl:c=0:=by clear hv;omega
      rw[Dig.lt da i (by clear hv;omega),Dig.lt db i (by clear hv;omega),Nat.mul_zero,Nat.add_zero] at hv
      exact add_end a b la lb i back (by clear hv;omega) (by clear hv;omega) hD _ hv
theorem Add_ev (a b:List UInt8) (ha:Sm a) (hb:Sm b) (da:Dig a) (db:Dig b):Ev (fun k=>num_Add.f k (S a) (S b)) (S (mkl (nvl a+nvl b))):=by
  unfold num_Add.f
  refine Ev.bind (all_ev a b ha hb) ?_
  rw[decide_eq_true (⟨da,db⟩:Dig a∧Dig b)]
  refine Ev.if_pos rfl ?_
  exact add_loop a b ha hb da db (max a.length b.length+1) 0 [] 0 (by omega) DI.nil rfl (by omega) (by intro h;rfl) (by simp[rvi,Nat.mod_one])
end Go.Proofs.YtadagjgkanlmdaaGreatDoor.P
namespace Go.Proofs.YtadagjgkanlmdaaGreatDoor.P
open Go.RowKit Go.Proofs.YtadagjgkanlmdaaGreatDoorW.PrintWords Go.Proofs.YtadagjgkanlmdaaGreatDoorW.PrintLast Go.Proofs.YtadagjgkanlmdaaGreatDoorW.PrintMore Go.Proofs.YtadagjgkanlmdaaGreatDoor.FM
set_option linter.unusedVariables false
set_option linter.unusedSimpArgs false

theorem d10 (c:Nat):Int.tdiv (c:Int) 10=((c/10:Nat):Int):=(Int.ofNat_tdiv c 10).symm
theorem m10 (c:Nat):Int.tmod (c:Int) 10=((c%10:Nat):Int):=(Int.ofNat_tmod c 10).symm
theorem byte10 (c:Nat):(48+((c%10:Nat):Int))%256=((48+c%10:Nat):Int):=by omega
theorem back10 (c:Nat):(((48+c%10:Nat):Int)-48).toNat=c%10:=by omega
theorem snoc10 {l:List Int} (h:DI l) (c:Nat):DI (l++[((48+c%10:Nat):Int)]):=h.snoc (by omega) (by omega)
theorem inc64 {i:Nat} (h:i≤9000000000000000000):wrap64 ((i:Int)+1)=((i+1:Nat):Int):=by rw[w64 (by omega) (by omega)];rfl
/-! an int's digits -/
theorem of_loop (v:Nat) (n:Nat):∀(i:Nat) (back:List Int),i+n≤9223372036854775807+100→i≤100→n<10 ^ (100-i)→DI back→back.length=i→rvi back+10 ^ i*n=v →
    Ev (fun k=>num_Of.l0 k (n:Int) back) (S (mkl v)):=by
  induction n using Nat.strongRecOn with
  | ind n ih =>
    intro i back hin hi hn hD hl hv
    rcases Nat.eq_zero_or_pos n with rfl|hc
    · rw[Nat.mul_zero,Nat.add_zero] at hv
      refine Ev.step (f:=fun k=>(num_text.f k back).bind fun t=>some t) (fun k=>?_) ?_
      · rw[num_Of.l0,_root_.if_neg (by omega)]
      · have:=text_ev back (by clear hv hn;omega) hD
        rw[hv] at this
        exact Ev.bind this (Ev.now _)
    · have e3:=end_step_math hv
      clear hv
      have hi1:i<100:=by
        rcases Nat.lt_or_ge i 100 with h|h
        · exact h
        · rw[Nat.sub_eq_zero_of_le h] at hn
          clear e3;omega
      have hn':n/10<10 ^ (100-(i+1)):=by
        rw[show 100-i=(100-(i+1))+1 by clear e3 hn;omega,Nat.pow_succ] at hn
        clear e3;omega
      clear hn
      refine Ev.step (f:=fun k=>num_Of.l0 k ((n/10:Nat):Int) (back++[((48+n%10:Nat):Int)])) (fun k=>?_) ?_
      · have hb:back.length<140737488355328:=by clear e3 hn';omega
        have hw:wrap64 ((n/10:Nat):Int)=((n/10:Nat):Int):=w64 (by omega) (by clear e3 hn';omega)
        rw[num_Of.l0,_root_.if_pos (by clear e3 hn';omega),_root_.if_pos hb,d10,m10,byte10,hw]
      · refine ih (n/10) (by clear e3 hn';omega) (i+1) _ (by clear e3 hn';omega) (by omega) hn' (snoc10 hD n) (by simp[hl]) ?_
        rw[rvi_snoc,hl,back10]
        exact e3
theorem Of_ev (n:Nat) (hn:n≤9223372036854775807):Ev (fun k=>num_Of.f k (n:Int)) (S (mkl n)):=by
  unfold num_Of.f
  exact of_loop n n 0 [] (by omega) (by omega) (Nat.lt_of_le_of_lt hn (by decide)) DI.nil rfl (by simp[rvi])
end Go.Proofs.YtadagjgkanlmdaaGreatDoor.P
namespace Go.Proofs.YtadagjgkanlmdaaGreatDoor.P
open Go.RowKit Go.Proofs.YtadagjgkanlmdaaGreatDoorW.PrintWords Go.Proofs.YtadagjgkanlmdaaGreatDoorW.PrintLast Go.Proofs.YtadagjgkanlmdaaGreatDoorW.PrintMore Go.Proofs.YtadagjgkanlmdaaGreatDoor.FM
set_option linter.unusedVariables false
set_option linter.unusedSimpArgs false

/-! the order -/
theorem compareBytes_dig:∀(a b:List UInt8),Dig a→Dig b→a.length=b.length→Lib.compareBytes a b=cmpN (nvl a) (nvl b)
  | [],[],_,_,_=>by simp[Lib.compareBytes,cmpN]
  | [],_::_,_,_,h=>by simp at h
  | _::_,[],_,_,h=>by simp at h
  | c::a,d::b,ha,hb,h=>by
    rw[dig_cons] at ha hb
    have hl:a.length=b.length:=by simpa using h
    unfold Lib.compareBytes
    by_cases h1:c<d
    · have:=head_lt ha.2 hl ha.1.1 (UInt8.lt_iff_toNat_lt.1 h1)
      rw[_root_.if_pos h1];unfold cmpN;rw[_root_.if_pos this]
    · rw[_root_.if_neg h1]
      by_cases h2:d<c
      · have:=head_lt hb.2 hl.symm hb.1.1 (UInt8.lt_iff_toNat_lt.1 h2)
        rw[_root_.if_pos h2];unfold cmpN;rw[_root_.if_neg (by omega),_root_.if_pos this]
      · have hcd:c=d:=by
          apply UInt8.toNat_inj.1
          rw[UInt8.lt_iff_toNat_lt] at h1 h2
          omega
        subst hcd
        rw[_root_.if_neg h2,compareBytes_dig a b ha.2 hb.2 hl]
        unfold cmpN
        rw[nvl_cons,nvl_cons,hl]
        repeat' split
        all_goals omega
theorem Cmp_ev (a b:List UInt8) (la:Sm a) (lb:Sm b) (da:Dig a) (db:Dig b):Ev (fun k=>num_Cmp.f k (S a) (S b)) (cmpN (nvl a) (nvl b)):=by
  unfold num_Cmp.f
  refine Ev.bind (all_ev a b la lb) ?_
  rw[decide_eq_true (⟨da,db⟩:Dig a∧Dig b)]
  refine Ev.if_pos rfl ?_
  refine Ev.bind (Trim_dig a (by unfold Sm at la;omega) da) (Ev.bind (Trim_dig b (by unfold Sm at lb;omega) db) ?_)
  simp only[S_size]
  by_cases h:(mkl (nvl a)).length=(mkl (nvl b)).length
  · refine Ev.if_pos (by omega) ?_
    refine Ev.const (a:=cmpN (nvl a) (nvl b)) ?_ (Ev.now _)
    unfold strings_Compare.f
    rw[S_data,S_data,compareBytes_dig _ _ (dig_mkl _) (dig_mkl _) h,nvl_mkl,nvl_mkl]
  · refine Ev.if_neg (by omega) ?_
    refine Ev.const (a:=cmpN (nvl a) (nvl b)) ?_ (Ev.now _)
    unfold cmp_Compare_int.f Lib.compareInt
    congr 1
    unfold cmpN
    rcases Nat.lt_or_ge (mkl (nvl a)).length (mkl (nvl b)).length with h1|h1
    · have:=len_lt h1
      rw[_root_.if_pos (by omega),_root_.if_pos this]
    · have:=len_lt (show(mkl (nvl b)).length<(mkl (nvl a)).length by omega)
      rw[_root_.if_neg (by omega),_root_.if_pos (by omega),_root_.if_neg (by omega),_root_.if_pos this]
/-! what is left -/
theorem sub_no {x y c:Nat} (hx:x≤9) (hy:y≤9) (hc:c≤1):wrap64 (wrap64 ((x:Int)-y)-c)=(x:Int)-y-c:=by
  rw[w64 (x:=(x:Int)-y) (by omega) (by omega),w64 (by omega) (by omega)]
theorem sub_lo {x y c:Nat} (hx:x≤9) (hy:y≤9) (hc:c≤1) (h:x<y+c):(48+(wrap64 ((x:Int)-y-c+10)))%256=((48+(x+10-y-c):Nat):Int):=by
  rw[w64 (by omega) (by omega)];omega
theorem sub_hi {x y c:Nat} (hx:x≤9) (h:y+c≤x):(48+((x:Int)-y-c))%256=((48+(x-y-c):Nat):Int):=by omega
theorem Sub_go (a b:List UInt8) (la:a.length≤100000000000) (lb:b.length≤100000000000) (da:Dig a) (db:Dig b) (i:Nat) (back:List Int) (c x y:Nat) (hi:i<a.length) (hb:back.length<140737488355328) (hc:c≤1)
    (hx:nvl a/10 ^ i%10=x) (hy:nvl b/10 ^ i%10=y) (hx9:x≤9) (hy9:y≤9) (k:Nat) :
    num_Sub.l0 (k+1) (S a) (S b) back (c:Int) (a.length:Int) (i:Int)=if x<y+c then num_Sub.l0 k (S a) (S b) (back++[((48+(x+10-y-c):Nat):Int)]) ((1:Nat):Int) (a.length:Int) ((i+1:Nat):Int) else num_Sub.l0 k (S a) (S b) (back++[((48+(x-y-c):Nat):Int)]) ((0:Nat):Int) (a.length:Int) ((i+1:Nat):Int):=by
  rw[num_Sub.l0,_root_.if_pos (by omega),at_ev a la da i (by omega),at_ev b lb db i (by omega),hx,hy]
  clear hx hy
  simp only[Option.bind_some]
  rw[sub_no hx9 hy9 hc,inc64 (by omega)]
  by_cases h:x<y+c
  · rw[_root_.if_pos h,_root_.if_pos (by omega),_root_.if_pos hb,sub_lo hx9 hy9 hc h];rfl
  · rw[_root_.if_neg h,_root_.if_neg (by omega),_root_.if_pos hb,sub_hi hx9 (by omega)];rfl
theorem Sub_loop (a b:List UInt8) (la:a.length≤100000000000) (lb:b.length≤100000000000) (da:Dig a) (db:Dig b) (hle:nvl b≤nvl a) (d:Nat):∀(i:Nat) (back:List Int) (c:Nat),i+d=a.length→DI back→back.length=i→c≤1 →
    rvi back+nvl b%10 ^ i=nvl a%10 ^ i+10 ^ i*c→Ev (fun k=>num_Sub.l0 k (S a) (S b) back (c:Int) (a.length:Int) (i:Int)) (S (mkl (nvl a-nvl b)),true):=by
  induction d with
  | zero =>
    intro i back c hi hD hl hc hv
    obtain rfl:i=a.length:=by clear hv;omega
    have hA:=nvl_lt da
    have hR:=rvi_lt hD
    rw[hl] at hR
    have hv':=sub_end_math hR hA (Nat.lt_of_le_of_lt hle hA) hle hc hv
    clear hv
    refine Ev.step (f:=fun k=>(num_text.f k back).bind fun t=>some (t,true)) (fun k=>?_) ?_
    · rw[num_Sub.l0,_root_.if_neg (by clear hv' hA hR;omega)]
    · have:=text_ev back (by clear hv' hA hR;omega) hD
      rw[hv'] at this
      exact Ev.bind this (Ev.now _)
  | succ d ih =>
    intro i back c hi hD hl hc hv
    obtain⟨x,hx⟩:∃x,nvl a/10 ^ i%10=x:=⟨_,rfl⟩
    obtain⟨y,hy⟩:∃y,nvl b/10 ^ i%10=y:=⟨_,rfl⟩
    have hx9:x≤9:=by clear hv hy;omega
    have hy9:y≤9:=by clear hv hx;omega
    have hgo:=Sub_go a b la lb da db i back c x y (by clear hv hx hy;omega) (by clear hv hx hy;omega) hc hx hy hx9 hy9
    by_cases h:x<y+c
    · have e3:=sub_step_math hx hy hv 1 (q:=x+10-y-c) (by clear hv hx hy hgo;omega)
      refine Ev.step (fun k=>(hgo k).trans (_root_.if_pos h)) ?_
      clear hv hx hy hgo
      refine ih (i+1) _ 1 (by clear e3;omega) (hD.snoc (by clear e3;omega) (by clear e3;omega)) (by simp[hl]) (by omega) ?_
      rw[rvi_snoc,hl,show(((48+(x+10-y-c):Nat):Int)-48).toNat=x+10-y-c by clear e3;omega]
      exact e3
    · have e3:=sub_step_math hx hy hv 0 (q:=x-y-c) (by clear hv hx hy hgo;omega)
      refine Ev.step (fun k=>(hgo k).trans (_root_.if_neg h)) ?_
      clear hv hx hy hgo
      refine ih (i+1) _ 0 (by clear e3;omega) (hD.snoc (by clear e3;omega) (by clear e3;omega)) (by simp[hl]) (by omega) ?_
      rw[rvi_snoc,hl,show(((48+(x-y-c):Nat):Int)-48).toNat=x-y-c by clear e3;omega]
      exact e3
theorem Sub_none (a b:ByteArray):Ev (fun k=>num_Sub.j0 k a b true) (S [],false):=by
  refine Ev.step (f:=fun k=>some (S [],false)) (fun k=>?_) (Ev.now _)
  rw[num_Sub.j0,_root_.if_pos rfl];rfl
theorem Sub_ev (a b:List UInt8) (la:Sm a) (lb:Sm b) (da:Dig a) (db:Dig b) (h:nvl b≤nvl a):Ev (fun k=>num_Sub.f k (S a) (S b)) (S (mkl (nvl a-nvl b)),true):=by
  unfold num_Sub.f
  refine Ev.bind (all_ev a b la lb) ?_
  rw[decide_eq_true (⟨da,db⟩:Dig a∧Dig b)]
  refine Ev.if_pos rfl (Ev.bind (Cmp_ev a b la lb da db) ?_)
  rw[decide_eq_false (by rw[cmpN_neg];omega:¬cmpN (nvl a) (nvl b)<0)]
  refine Ev.step (f:=fun k=>num_Sub.l0 k (S a) (S b) [] 0 (a.length:Int) 0) (fun k=>?_) ?_
  · rw[num_Sub.j0,_root_.if_neg (by decide)];rfl
  · exact Sub_loop a b la lb da db h a.length 0 [] 0 (by omega) DI.nil rfl (by omega) (by simp[rvi,Nat.mod_one])
theorem Sub_less (a b:List UInt8) (la:Sm a) (lb:Sm b) (da:Dig a) (db:Dig b) (h:nvl a<nvl b):Ev (fun k=>num_Sub.f k (S a) (S b)) (S [],false):=by
  unfold num_Sub.f
  refine Ev.bind (all_ev a b la lb) ?_
  rw[decide_eq_true (⟨da,db⟩:Dig a∧Dig b)]
  refine Ev.if_pos rfl (Ev.bind (Cmp_ev a b la lb da db) ?_)
  rw[decide_eq_true (by rw[cmpN_neg];omega:cmpN (nvl a) (nvl b)<0)]
  exact Sub_none _ _
/-! how often -/
theorem div_byte {q:Nat} (h:q≤9):((48+(q:Int))%256).toNat=48+q:=by omega
theorem Div_go (m:Nat) (hm:0<m) (l:List UInt8) (hd:Dig l):Dig (num_Div.go (m:Int) l).1∧∃r:Nat,(num_Div.go (m:Int) l).2=r∧r<m∧nvl (num_Div.go (m:Int) l).1*m+r=nvl l:=by
  unfold num_Div.go
  induction l using snoc_induction with
  | h0=>exact⟨Dig.nil,0,rfl,hm,by simp⟩
  | h1 l c ih =>
    rw[dig_append,dig_cons] at hd
    obtain⟨ih1,r,ih2,ih3,ih4⟩:=ih hd.1
    rw[List.foldl_append,List.foldl_cons,List.foldl_nil]
    obtain⟨p,hp⟩:∃p,l.foldl (num_Div.step (m:Int)) ([],0)=p:=⟨_,rfl⟩
    rw[hp] at ih1 ih2 ih4 ⊢
    have hc:=hd.2.1
    have hmath:=div_step_math hm ih3 (show c.toNat-48≤9 by omega) ih4
    have hrest:num_Div.rest (m:Int) p.2 c=((10*r+(c.toNat-48):Nat):Int):=by
      unfold num_Div.rest;rw[ih2];clear hmath ih4;omega
    have hq:num_Div.rest (m:Int) p.2 c/(m:Int)=(((10*r+(c.toNat-48))/m:Nat):Int):=by rw[hrest];rfl
    have hr:num_Div.rest (m:Int) p.2 c%(m:Int)=(((10*r+(c.toNat-48))%m:Nat):Int):=by rw[hrest];rfl
    unfold num_Div.step
    simp only[hq,hr]
    rw[div_byte hmath.1]
    have hb:(UInt8.ofNat (48+(10*r+(c.toNat-48))/m)).toNat=48+(10*r+(c.toNat-48))/m:=ofNat_toNat (by have:=hmath.1;clear hmath ih4 hq hr;omega)
    refine⟨?_,_,rfl,Nat.mod_lt _ hm,?_⟩
    · rw[dig_append,dig_cons]
      exact⟨ih1,⟨by rw[hb];exact Nat.le_add_right 48 _,by rw[hb];exact Nat.add_le_add_left hmath.1 48⟩,Dig.nil⟩
    · rw[nvl_snoc,nvl_snoc,hb,Nat.add_sub_cancel_left]
      exact hmath.2
theorem Div_ev (a:List UInt8) (la:Sm a) (da:Dig a) (m:Nat) (h1:1≤m) (h2:m≤1000000000):Ev (fun k=>num_Div.f k (S a) (m:Int)) (S (mkl (nvl a/m)),((nvl a%m:Nat):Int)):=by
  obtain⟨hg,r,hr,hlt,hv⟩:=Div_go m h1 a da
  have hq:nvl (num_Div.go (m:Int) a).1=nvl a/m:=by
    rw[← hv,Nat.mul_comm,Nat.mul_add_div h1,Nat.div_eq_of_lt hlt];rfl
  have hr2:r=nvl a%m:=by rw[← hv,Nat.mul_comm,Nat.mul_add_mod,Nat.mod_eq_of_lt hlt]
  have hlen:(num_Div.go (m:Int) a).1.length=a.length:=(num_Div.go_inv (m:Int) (by omega) a).1
  unfold num_Div.f
  refine Ev.bind (Is_ev a (by unfold Sm at la;omega)) ?_
  rw[decide_eq_true da]
  refine Ev.if_pos rfl (Ev.if_neg (by omega) (Ev.if_neg (by omega) (Ev.if_pos (by rw[S_size];unfold Sm at la;omega) ?_)))
  rw[S_data]
  refine Ev.bind (Trim_dig _ (by rw[hlen];unfold Sm at la;omega) hg) ?_
  rw[hq,hr,hr2]
  exact Ev.now _
/-! a number as an int -/
theorem Int_go (l:List UInt8) (hd:Dig l) (hl:l.length≤18):num_Int.go l=(nvl l:Int):=by
  unfold num_Int.go
  induction l using snoc_induction with
  | h0=>rfl
  | h1 l c ih =>
    rw[dig_append,dig_cons] at hd
    have hl':l.length≤18:=by simp at hl;omega
    rw[List.foldl_append,List.foldl_cons,List.foldl_nil,ih hd.1 hl',nvl_snoc]
    have hlt:nvl l<10 ^ 18:=Nat.lt_of_lt_of_le (nvl_lt hd.1) (Nat.pow_le_pow_right (by omega) hl')
    have hlt':nvl l<10 ^ 17:=Nat.lt_of_lt_of_le (nvl_lt hd.1) (Nat.pow_le_pow_right (by omega) (by simp at hl;omega))
    unfold num_Int.step
    have hc:=hd.2.1
    rw[w64 (x:=10*(nvl l:Int)) (by omega) (by omega),w64 (by omega) (by omega)]
    omega
theorem Int_ev (a:List UInt8) (la:Sm a) (da:Dig a) (h:nvl a<10 ^ 18):Ev (fun k=>num_Int.f k (S a)) ((nvl a:Int),true):=by
  unfold num_Int.f
  refine Ev.bind (Is_ev a (by unfold Sm at la;omega)) ?_
  rw[decide_eq_true da]
  refine Ev.if_pos rfl (Ev.bind (Trim_dig a (by unfold Sm at la;omega) da) ?_)
  have hl:(mkl (nvl a)).length≤18:=mkl_length_le.2 h
  refine Ev.if_neg (by rw[S_size];omega) ?_
  rw[S_data,Int_go _ (dig_mkl _) hl,nvl_mkl]
  exact Ev.now _
theorem Int_long (a:List UInt8) (la:Sm a) (da:Dig a) (h:10 ^ 18≤nvl a):Ev (fun k=>num_Int.f k (S a)) (0,false):=by
  unfold num_Int.f
  refine Ev.bind (Is_ev a (by unfold Sm at la;omega)) ?_
  rw[decide_eq_true da]
  refine Ev.if_pos rfl (Ev.bind (Trim_dig a (by unfold Sm at la;omega) da) ?_)
  have hl:¬(mkl (nvl a)).length≤18:=by rw[mkl_length_le];omega
  exact Ev.if_pos (by rw[S_size];omega) (Ev.now _)
/-! noughts -/
theorem repeat_zs (n:Nat):Lib.repeatL [48] n=zs n:=by
  induction n with
  | zero=>rfl
  | succ n ih=>rw[Lib.repeatL,ih];rfl
theorem Zeros_ev (n:Int):num_Zeros.f n=some (S (zs (min n.toNat 60000))):=by
  unfold num_Zeros.f
  have e:mn (mx n 0) 60000=((min n.toNat 60000:Nat):Int):=by
    unfold mn mx
    repeat' split
    all_goals omega
  rw[e]
  unfold strings_Repeat.f
  rw[_root_.if_pos ⟨by omega,by omega,by show 1*_≤_;omega⟩,Int.toNat_natCast]
  show some (S (Lib.repeatL [48] _))=_
  rw[repeat_zs]
end Go.Proofs.YtadagjgkanlmdaaGreatDoor.P
namespace Go.Proofs.YtadagjgkanlmdaaGreatDoor.P
open Go.RowKit Go.Proofs.YtadagjgkanlmdaaGreatDoorW.PrintWords Go.Proofs.YtadagjgkanlmdaaGreatDoorW.PrintLast Go.Proofs.YtadagjgkanlmdaaGreatDoorW.PrintMore Go.Proofs.YtadagjgkanlmdaaGreatDoor.FM
set_option linter.unusedVariables false
set_option linter.unusedSimpArgs false

theorem wf_u8 {x:Int} (h:(Lit.int .u8 x).wf=true):0≤x∧x≤255:=by
  simpa [Lit.wf,IntKind.min,IntKind.max,IntKind.signed,IntKind.bits] using h
/-- digits of any bytes -/
def digs (l:List Int):List UInt8:=l.map fun x=>UInt8.ofNat (48+x.toNat%10)
theorem digs_length (l:List Int):(digs l).length=l.length:=by simp[digs]
theorem digs_dig (l:List Int):Dig (digs l):=by
  intro c hc
  obtain⟨x,_,rfl⟩:=List.mem_map.1 hc
  rw[ofNat_toNat (by omega)];omega
theorem Digits_loop (l:List Int) (hl:l.length≤100000000000) (hw:∀x∈l,0≤x∧x≤255) (d:Nat):∀i:Nat,i+d=l.length→Ev (fun k=>florinlaw01_Digits.l0 k (S (digs (l.take i))) l (l.length:Int) (i:Int)) (S (digs l)):=by
  induction d with
  | zero =>
    intro i hi
    refine Ev.step (f:=fun k=>some (S (digs l))) (fun k=>?_) (Ev.now _)
    rw[florinlaw01_Digits.l0,_root_.if_neg (by omega),List.take_of_length_le (by omega)]
  | succ d ih =>
    intro i hi
    have hlt:i<l.length:=by omega
    have hx:=hw l[i] (List.getElem_mem hlt)
    have hrd:rd l (i:Int)=l[i]:=by
      unfold rd;rw[Int.toNat_natCast,List.getD_eq_getElem?_getD,List.getElem?_eq_getElem hlt];rfl
    refine Ev.step (f:=fun k=>florinlaw01_Digits.l0 k (S (digs (l.take (i+1)))) l (l.length:Int) ((i+1:Nat):Int)) (fun k=>?_) (ih (i+1) (by omega))
    obtain⟨x,hxx⟩:∃x:Nat,l[i]=x:=⟨l[i].toNat,by omega⟩
    have e1:strOfNums [(48+Int.tmod (l[i]) 10)%256]=S [UInt8.ofNat (48+(l[i]).toNat%10)]:=by
      rw[hxx,m10,byte10,Int.toNat_natCast,strOfNums_S];rfl
    have e2:S (digs (l.take i))++S [UInt8.ofNat (48+(l[i]).toNat%10)]=S (digs (l.take (i+1))):=by
      rw[S_append,List.take_succ_eq_append_getElem hlt];simp only[digs,List.map_append,List.map_cons,List.map_nil]
    rw[florinlaw01_Digits.l0,_root_.if_pos (by omega),_root_.if_pos (by omega),_root_.if_pos (by omega),hrd]
    simp only[Option.bind_some]
    rw[e1,_root_.if_pos (by rw[S_size,S_size,digs_length,List.length_take];simp;omega),e2,inc64 (by omega)]
theorem Digits_ev (l:List Int) (hl:l.length≤100000000000) (hw:∀x∈l,(Lit.int .u8 x).wf=true):Ev (fun k=>florinlaw01_Digits.f k l) (S (digs l)):=by
  unfold florinlaw01_Digits.f
  exact Digits_loop l hl (fun x hx=>wf_u8 (hw x hx)) l.length 0 (by omega)
end Go.Proofs.YtadagjgkanlmdaaGreatDoor.P
namespace Go.Proofs.YtadagjgkanlmdaaGreatDoor.P
open Go.RowKit Go.Proofs.YtadagjgkanlmdaaGreatDoorW.PrintWords Go.Proofs.YtadagjgkanlmdaaGreatDoorW.PrintLast Go.Proofs.YtadagjgkanlmdaaGreatDoorW.PrintMore Go.Proofs.YtadagjgkanlmdaaGreatDoor.FM
set_option linter.unusedVariables false
set_option linter.unusedSimpArgs false

/-- the last bits of an int -/
theorem and64 (j:Nat) (hj:j≤63) (n m:Int) (hm:(BitVec.ofInt 64 m).toNat=2 ^ j-1):Go.bits .and .i64 n m=n%((2 ^ j:Nat):Int):=by
  have key:(BitVec.ofInt 64 n &&& BitVec.ofInt 64 m).toNat=(n%((2 ^ 64:Nat):Int)).toNat%2 ^ j:=by
    rw[BitVec.toNat_and,BitVec.toNat_ofInt,hm,Nat.and_two_pow_sub_one_eq_mod]
  show IntKind.i64.wrap ((BitVec.ofInt 64 n &&& BitVec.ofInt 64 m).toNat:Nat)=_
  rw[key,IntKind.wrap_i64]
  have h1:(n%((2 ^ 64:Nat):Int)).toNat%2 ^ j<2 ^ 63:=Nat.lt_of_lt_of_le (Nat.mod_lt _ (Nat.pow_pos (by omega))) (Nat.pow_le_pow_right (by omega) hj)
  have h2:(((n%((2 ^ 64:Nat):Int)).toNat%2 ^ j:Nat):Int)=n%((2 ^ j:Nat):Int):=by
    rw[Int.natCast_emod,Int.toNat_of_nonneg (Int.emod_nonneg _ (by decide))]
    exact Int.emod_emod_of_dvd n (Int.natCast_dvd_natCast.2 (Nat.pow_dvd_pow 2 (by omega)))
  rw[← h2]
  have h3:(2:Nat) ^ 63=9223372036854775808:=by decide
  rw[h3] at h1
  clear h2 key hm
  omega
theorem Ev.yes {b:Bool} (h:b=true):Ev (fun _=>some b) true:=by rw[h];exact Ev.now true
/-- the last bits, as a number -/
theorem low64 (j:Nat) (hj:j≤63) (n m:Int) (hm:(BitVec.ofInt 64 m).toNat=2 ^ j-1):∃x:Nat,Go.bits .and .i64 n m=x∧x<2 ^ j:=by
  rw[and64 j hj n m hm]
  have h1:=Int.emod_nonneg n (b:=((2 ^ j:Nat):Int)) (by have:=Nat.pow_pos (a:=2) (n:=j) (by omega);omega)
  have h2:=Int.emod_lt_of_pos n (b:=((2 ^ j:Nat):Int)) (by have:=Nat.pow_pos (a:=2) (n:=j) (by omega);omega)
  exact⟨(n%((2 ^ j:Nat):Int)).toNat,by omega,by omega⟩
end Go.Proofs.YtadagjgkanlmdaaGreatDoor.P
namespace Go.Proofs.YtadagjgkanlmdaaGreatDoor.P
open Go.RowKit Go.Proofs.YtadagjgkanlmdaaGreatDoorW.PrintWords Go.Proofs.YtadagjgkanlmdaaGreatDoorW.PrintLast Go.Proofs.YtadagjgkanlmdaaGreatDoorW.PrintMore Go.Proofs.YtadagjgkanlmdaaGreatDoor.FM
set_option linter.unusedVariables false
set_option linter.unusedSimpArgs false
/-! rules' texts that are read: what is left of the text -/
namespace RR
section
variable {l:List UInt8} {n:Int} {b0 b1 b2 b3 b4 b5:Bool}
end
end RR
end Go.Proofs.YtadagjgkanlmdaaGreatDoor.P
namespace Go.Proofs.YtadagjgkanlmdaaGreatDoor.P
open Go.RowKit Go.Proofs.YtadagjgkanlmdaaGreatDoorW.PrintWords Go.Proofs.YtadagjgkanlmdaaGreatDoorW.PrintLast Go.Proofs.YtadagjgkanlmdaaGreatDoorW.PrintMore Go.Proofs.YtadagjgkanlmdaaGreatDoor.FM
set_option linter.unusedVariables false
set_option linter.unusedSimpArgs false
namespace RR
abbrev Rng:=S57
abbrev RelT:=S53
abbrev RuleT:=S41
def toG (x:Nat × Nat):Rng:=⟨(x.1:Int),(x.2:Int)⟩
def toL (x:RG.Rl):RelT:=⟨(x.op.toNat:Int),(x.md:Int),x.nt,x.rs.map toG⟩
def toU (x:RG.Ru):RuleT:=⟨(x.cat:Int),x.any.map (fun a=>a.map toL),S x.smp⟩
section
variable {l:List UInt8} {n:Int} {b0 b1 b2 b3 b4 b5:Bool}
theorem cat_str {i:Nat} (h:i<6):rule_Cat_String.f (i:Int)=some (S (RG.cats.getD i [])):=by
  have:i=0∨i=1∨i=2∨i=3∨i=4∨i=5:=by omega
  rcases this with rfl|rfl|rfl|rfl|rfl|rfl <;> rfl
theorem rd6 (x0 x1 x2 x3 x4 x5:Bool) (f:Nat→Bool) (h0:x0=f 0) (h1:x1=f 1) (h2:x2=f 2) (h3:x3=f 3) (h4:x4=f 4) (h5:x5=f 5) {c:Nat} (hc:c<6):rdOf false [x0,x1,x2,x3,x4,x5] (c:Int)=f c:=by
  have:c=0∨c=1∨c=2∨c=3∨c=4∨c=5:=by omega
  subst h0 h1 h2 h3 h4 h5
  rcases this with rfl|rfl|rfl|rfl|rfl|rfl <;> rfl
theorem seen_put (seen:List Nat) (c i:Nat):(if (c:Int)=(i:Int) then true else decide (i∈seen))=decide (i∈seen++[c]):=by
  by_cases h:c=i
  · subst h;rw[_root_.if_pos rfl];simp
  · rw[_root_.if_neg (by omega)]
    simp only[List.mem_append,List.mem_singleton]
    congr 1
    apply propext
    constructor
    · exact .inl
    · rintro(h1|h1)
      · exact h1
      · exact absurd h1.symm h
end
section
variable {l:List UInt8}
/-- which categories there were -/
abbrev sn (seen:List Nat) (i:Nat):Bool:=decide (i∈seen)
end
end RR
end Go.Proofs.YtadagjgkanlmdaaGreatDoor.P
namespace Go.Proofs.YtadagjgkanlmdaaGreatDoor.P
open Go.RowKit Go.Proofs.YtadagjgkanlmdaaGreatDoorW.PrintWords Go.Proofs.YtadagjgkanlmdaaGreatDoorW.PrintLast Go.Proofs.YtadagjgkanlmdaaGreatDoorW.PrintMore Go.Proofs.YtadagjgkanlmdaaGreatDoor.FM
set_option linter.unusedVariables false
set_option linter.unusedSimpArgs false
namespace RR
section
variable {l:List UInt8}
end
end RR
end Go.Proofs.YtadagjgkanlmdaaGreatDoor.P
namespace Go.Proofs.YtadagjgkanlmdaaGreatDoor.P
open Go.RowKit Go.Proofs.YtadagjgkanlmdaaGreatDoorW.PrintWords Go.Proofs.YtadagjgkanlmdaaGreatDoorW.PrintLast Go.Proofs.YtadagjgkanlmdaaGreatDoorW.PrintMore Go.Proofs.YtadagjgkanlmdaaGreatDoor.FM
set_option linter.unusedVariables false
set_option linter.unusedSimpArgs false
namespace RR
theorem getD_drop {α:Type} {L:List α} {i:Nat} {z:α} {zs:List α} (d:α) (h:L.drop i=z::zs):L.getD i d=z∧i<L.length∧L.drop (i+1)=zs:=by
  have hl:i<L.length:=by
    apply Classical.byContradiction
    intro hn
    rw[List.drop_eq_nil_of_le (by omega)] at h
    cases h
  rw[List.drop_eq_getElem_cons hl] at h
  injection h with h1 h2
  refine⟨?_,hl,h2⟩
  rw[List.getD_eq_getElem?_getD,List.getElem?_eq_getElem hl]
  exact h1
theorem drop_nil_le {α:Type} {L:List α} {i:Nat} (h:L.drop i=[]):L.length≤i:=by
  have:=congrArg List.length h
  rw[List.length_drop,List.length_nil] at this
  omega
theorem w_succ {i:Nat} (h:i≤1000000000000):wrap64 ((i:Int)+1)=((i+1:Nat):Int):=by rw[w64 (by omega) (by omega)];omega
theorem dgs_len {n:Nat} (h:n<10 ^ 9):(RG.dgs n).length≤9:=(RG.Dg_dgs h).2.2.2.1
end RR
/-! rules as the law makes them -/
namespace RR
abbrev Num:=S139
abbrev RlM:=S46
def gapT (n:Int):List UInt8:=if Go.bits .and .i64 n 3=1 then [32] else if Go.bits .and .i64 n 3=2 then [32,32] else []
theorem gap_ev (n:Int):florinlaw06_gap.f n=some (S (gapT n)):=by
  obtain⟨x,h1,h2⟩:=low64 2 (by omega) n 3 (by decide)
  have h4:x<4:=h2
  unfold florinlaw06_gap.f gapT
  rw[h1]
  match x,h4 with
  | 0,_=>rfl
  | 1,_=>rfl
  | 2,_=>rfl
  | 3,_=>rfl
theorem gap_bl (n:Int):RG.Bl (gapT n)∧(gapT n).length≤2:=by
  unfold gapT RG.Bl
  split
  · exact⟨by simp,by simp⟩
  · split <;> exact⟨by simp,by simp⟩
theorem digits_ev {n:Nat} (hn:n≤9223372036854775807):Ev (fun k=>florinlaw06_digits.f k (n:Int)) (S (RG.dgs n)):=by
  unfold florinlaw06_digits.f RG.dgs
  by_cases h:n=0
  · rw[_root_.if_pos h]
    exact Ev.if_pos (by omega) (Ev.now _)
  · rw[_root_.if_neg h]
    exact Ev.if_neg (by omega) (Ev.bind (Of_ev n hn) (Ev.now _))
/-- a range as it is meant -/
def spN (z:Num):Nat × Nat:=((Go.bits .and .i64 z.f0 1048575).toNat,(Go.bits .and .i64 z.f0 1048575).toNat+(Go.bits .and .i64 z.f1 3).toNat)
def two (z:Num):Bool:=decide ((spN z).1≠(spN z).2∨Go.bits .and .i64 z.f1 4=4)
def spT (g:List UInt8) (z:Num):List UInt8:=if two z=true then RG.dgs (spN z).1++(g++(46::46::(g++RG.dgs (spN z).2))) else RG.dgs (spN z).1
theorem spN_spec (z:Num):∃lo d:Nat,Go.bits .and .i64 z.f0 1048575=lo∧Go.bits .and .i64 z.f1 3=d∧lo<1048576∧d<4∧spN z=(lo,lo+d):=by
  obtain⟨x,h1,h2⟩:=low64 20 (by omega) z.f0 1048575 (by decide)
  obtain⟨y,h3,h4⟩:=low64 2 (by omega) z.f1 3 (by decide)
  refine⟨x,y,h1,h3,h2,h4,?_⟩
  unfold spN
  rw[h1,h3,Int.toNat_natCast,Int.toNat_natCast]
theorem spN_lt (z:Num):(spN z).1≤(spN z).2∧(spN z).2<10 ^ 9:=by
  obtain⟨lo,d,_,_,h1,h2,h3⟩:=spN_spec z
  rw[h3]
  exact⟨by dsimp only;omega,by dsimp only;omega⟩
theorem spT_len {g:List UInt8} (hg:g.length≤2) (z:Num):(spT g z).length≤24:=by
  obtain⟨h1,h2⟩:=spN_lt z
  have a:=dgs_len (n:=(spN z).1) (by omega)
  have b:=dgs_len h2
  unfold spT
  split
  · simp only[List.length_append,List.length_cons];omega
  · omega
def spsT (g:List UInt8):Nat→List Num→List UInt8
  | _,[]=>[]
  | i,z::zs=>(if i=0 then [] else g++(44::g))++(spT g z++spsT g (i+1) zs)
theorem spsT_len {g:List UInt8} (hg:g.length≤2):∀(i:Nat) (l:List Num),(spsT g i l).length≤29*l.length
  | _,[]=>by simp[spsT]
  | i,z::zs=>by
    have h1:=spsT_len hg (i+1) zs
    have h2:=spT_len hg z
    rw[spsT]
    simp only[List.length_append,List.length_cons]
    split
    · simp only[List.length_nil];omega
    · simp only[List.length_append,List.length_cons];omega
theorem rdN {L:List Num} {i:Nat} {z:Num} {zs:List Num} (h:L.drop i=z::zs):rd_T139 L (i:Int)=z:=by
  unfold rd_T139
  rw[Int.toNat_natCast]
  exact(getD_drop _ h).1
theorem range_j4 {g q t:List UInt8} (hg:g.length≤2) (hq:q.length≤100010) (lo hi:Nat) (b:Int) (hlo:(RG.dgs lo).length≤9) (hhi:(RG.dgs hi).length≤9) (h9:lo≤9223372036854775807) (h9':hi≤9223372036854775807)
    (ht:t=if lo≠hi∨b=4 then RG.dgs lo++(g++(46::46::(g++RG.dgs hi))) else RG.dgs lo)
    (L:List Num) (i i':Int) (o md:Int) (nt:Bool) (acc:List Rng) (z0 z1:Int) (hb:Go.bits .and .i64 z1 4=b) (hi':wrap64 (i+1)=i') (r:Int × Int × Bool × List Rng × ByteArray)
    (h:Ev (fun k=>florinlaw06_Relation_relation.l0 k (S g) (S (q++t)) L (L.length:Int) i' o md nt acc) r) :
    Ev (fun k=>florinlaw06_Relation_relation.j4 k (S g) (S q) L (L.length:Int) i o md nt acc z0 z1 (lo:Int) (hi:Int)) r:=by
  have hdl:=digits_ev (n:=lo) h9
  have hdh:=digits_ev (n:=hi) h9'
  clear h9 h9'
  refine Ev.step (fun k=>florinlaw06_Relation_relation.j4.eq_2 ..) (Ev.bind hdl ?_)
  rw[show(⟨#[46,46]⟩:ByteArray)=S [46,46] from rfl,hi',hb]
  clear hi' hb
  simp only[S_append,S_size]
  have b1:q.length+(RG.dgs lo).length≤9223372036854775807:=by omega
  have b2:(q++RG.dgs lo).length+g.length≤9223372036854775807:=by simp only[List.length_append];omega
  have b3:((q++RG.dgs lo)++g).length+2≤9223372036854775807:=by simp only[List.length_append];omega
  have b4:(((q++RG.dgs lo)++g)++[46,46]).length+g.length≤9223372036854775807:=by simp only[List.length_append,List.length_cons,List.length_nil];omega
  have b5:((((q++RG.dgs lo)++g)++[46,46])++g).length+(RG.dgs hi).length≤9223372036854775807:=by simp only[List.length_append,List.length_cons,List.length_nil];omega
  have hlong:(lo≠hi∨b=4)→Ev (fun k=>florinlaw06_Relation_relation.l0 k (S g) (S (((((q++RG.dgs lo)++g)++[46,46])++g)++RG.dgs hi)) L (L.length:Int) i' o md nt acc) r:=by
    intro e
    rw[ht,_root_.if_pos e] at h
    have e2:q++(RG.dgs lo++(g++(46::46::(g++RG.dgs hi))))=((((q++RG.dgs lo)++g)++[46,46])++g)++RG.dgs hi:=by simp
    rw[e2] at h
    exact h
  refine Ev.if_pos b1 ?_
  by_cases hz:lo=hi
  · refine Ev.if_pos (by rw[hz]) ?_
    by_cases h44:b=4
    · refine Ev.if_pos h44 (Ev.if_pos b2 (Ev.if_pos b3 (Ev.if_pos b4 (Ev.bind hdh ?_))))
      simp only[S_append,S_size]
      exact Ev.if_pos b5 (hlong (.inr h44))
    · rw[ht,_root_.if_neg (fun e=>e.elim (fun e=>e hz) h44)] at h
      exact Ev.if_neg h44 h
  · refine Ev.if_neg (fun e=>hz (Int.ofNat_inj.1 e)) (Ev.if_pos b2 (Ev.if_pos b3 (Ev.if_pos b4 (Ev.bind hdh ?_))))
    simp only[S_append,S_size]
    exact Ev.if_pos b5 (hlong (.inl hz))
theorem spT_eq (g:List UInt8) (z:Num) (lo d:Nat) (h5:spN z=(lo,lo+d)):spT g z=if lo≠lo+d∨Go.bits .and .i64 z.f1 4=4 then RG.dgs lo++(g++(46::46::(g++RG.dgs (lo+d)))) else RG.dgs lo:=by
  unfold spT two
  rw[h5]
  dsimp only
  by_cases h:lo≠lo+d∨Go.bits .and .i64 z.f1 4=4
  · rw[_root_.if_pos h,_root_.if_pos (decide_eq_true h)]
  · rw[_root_.if_neg h,_root_.if_neg (by rw[decide_eq_false h];decide)]
theorem lo_hi {lo d:Nat} (h3:lo<1048576) (h4:d<4):lo<10 ^ 9∧lo+d<10 ^ 9∧lo≤9223372036854775807∧lo+d≤9223372036854775807∧wrap64 ((lo:Int)+(d:Int))=((lo+d:Nat):Int):=by
  refine⟨by omega,by omega,by omega,by omega,?_⟩
  rw[w64 (by omega) (by omega)];omega
theorem range_round {L:List Num} {i:Nat} {z:Num} {zs:List Num} (hd:L.drop i=z::zs) {g s:List UInt8} (hg:g.length≤2) (hL:L.length≤100) (hs:s.length≤100000) (o md:Int) (nt:Bool) (acc:List Rng) (r:Int × Int × Bool × List Rng × ByteArray) (hac:acc.length≤1000)
    (ih:Ev (fun k=>florinlaw06_Relation_relation.l0 k (S g) (S (s++((if i=0 then [] else g++(44::g))++spT g z))) L (L.length:Int) ((i+1:Nat):Int) o md nt (acc++[toG (spN z)])) r) :
    Ev (fun k=>florinlaw06_Relation_relation.l0 k (S g) (S s) L (L.length:Int) (i:Int) o md nt acc) r:=by
  obtain⟨_,hi,_⟩:=getD_drop z hd
  have c1:(i:Int)<(L.length:Int):=by omega
  have c2:(0:Int)≤(i:Int):=by omega
  have c3:acc.length<8796093022208:=by omega
  have hwi:=w_succ (i:=i) (by omega)
  obtain⟨lo,d,h1,h2,h3,h4,h5⟩:=spN_spec z
  obtain⟨k1,k2,k3,k4,hw⟩:=lo_hi h3 h4
  have hG:(⟨(lo:Int),((lo+d:Nat):Int)⟩:Rng)=toG (spN z):=by rw[h5];rfl
  have d1:=dgs_len k1
  have d2:=dgs_len k2
  have j4:=fun (q:List UInt8) (hq:q.length≤100010)=>range_j4 (t:=spT g z) hg hq lo (lo+d) _ d1 d2 k3 k4 (spT_eq g z lo d h5) L (i:Int) ((i+1:Nat):Int) o md nt (acc++[toG (spN z)]) z.f0 z.f1 rfl hwi r
  refine Ev.step (fun k=>florinlaw06_Relation_relation.l0.eq_2 ..) (Ev.if_pos c1 (Ev.if_pos c2 (Ev.if_pos c1 (Ev.if_pos c3 ?_))))
  rw[rdN hd,h1,h2,hw,hG]
  clear h1 h2 hw hwi hG h3 h4 h5 d1 d2 c3 k1 k2 k3 k4
  refine Ev.const rfl ?_
  by_cases h0:i=0
  · rw[_root_.if_pos h0] at ih
    exact Ev.if_neg (by omega) (j4 s (by omega) ih)
  · rw[_root_.if_neg h0] at ih
    rw[show(⟨#[44]⟩:ByteArray)=S [44] from rfl]
    have b1:s.length+g.length≤9223372036854775807:=by omega
    have b2:(s++g).length+1≤9223372036854775807:=by simp only[List.length_append];omega
    have b3:((s++g)++[44]).length+g.length≤9223372036854775807:=by simp only[List.length_append,List.length_cons,List.length_nil];omega
    have b4:(((s++g)++[44])++g).length≤100010:=by simp only[List.length_append,List.length_cons,List.length_nil];omega
    simp only[S_append,S_size]
    have e:s++((g++44::g)++spT g z)=(((s++g)++[44])++g)++spT g z:=by simp
    rw[e] at ih
    exact Ev.if_pos (by omega) (Ev.if_pos b1 (Ev.if_pos b2 (Ev.if_pos b3 (j4 _ b4 ih))))
theorem range_loop {L:List Num} {g:List UInt8} (hg:g.length≤2) (hL:L.length≤100) (o md:Int) (nt:Bool):∀(zs:List Num) (i:Nat) (s:List UInt8) (acc:List Rng),L.drop i=zs→s.length+29*zs.length≤100000→acc.length+zs.length≤1000 →
    Ev (fun k=>florinlaw06_Relation_relation.l0 k (S g) (S s) L (L.length:Int) (i:Int) o md nt acc) (o,md,nt,acc++(zs.map spN).map toG,S (s++spsT g i zs))
  | [],i,s,acc,hd,hs,ha=>by
    have:=drop_nil_le hd
    have e:s++spsT g i []=s:=by simp[spsT]
    rw[e,List.map_nil,List.map_nil,List.append_nil]
    exact Ev.step (fun k=>florinlaw06_Relation_relation.l0.eq_2 ..) (Ev.if_neg (by omega) (Ev.now _))
  | z::zs,i,s,acc,hd,hs,ha=>by
    obtain⟨_,_,hd2⟩:=getD_drop z hd
    rw[List.length_cons] at hs ha
    have h2:=spT_len hg z
    have hl:((if i=0 then [] else g++(44::g))++spT g z).length≤29:=by
      rw[List.length_append]
      split
      · simp only[List.length_nil];omega
      · simp only[List.length_append,List.length_cons];omega
    have ih:=range_loop hg hL o md nt zs (i+1) (s++((if i=0 then [] else g++(44::g))++spT g z)) (acc++[toG (spN z)]) hd2 (by rw[List.length_append];omega) (by rw[List.length_append,List.length_singleton];omega)
    refine range_round hd hg hL (by omega) o md nt acc _ (by omega) ?_
    have e:s++spsT g i (z::zs)=(s++((if i=0 then [] else g++(44::g))++spT g z))++spsT g (i+1) zs:=by rw[spsT];simp
    rw[e]
    simpa using ih
/-- the ranges that a relation is made with -/
def numsOf (l:List Num):List Num:=if l=[] then [⟨0,0⟩] else l
theorem numsOf_ne (l:List Num):∃z zs,numsOf l=z::zs∧zs.length+1≤l.length+1:=by
  unfold numsOf
  cases l with
  | nil=>exact⟨_,[],rfl,by simp⟩
  | cons z zs=>exact⟨z,zs,rfl,by simp⟩
theorem j1_made {g s:List UInt8} (hg:g.length≤2) (hs:s.length≤1000) (z0 z1 z2:Int) (z3:Bool) (L:List Num) (hL:L.length≤50) (o md:Int) (nt:Bool) :
    Ev (fun k=>florinlaw06_Relation_relation.j1 k (S g) (S s) z0 z1 z2 z3 L o md nt) (o,md,nt,((numsOf L).map spN).map toG,S (s++(61::(g++spsT g 0 (numsOf L))))):=by
  have key:∀M:List Num,M.length≤60→Ev (fun k=>florinlaw06_Relation_relation.j2 k (S g) (S ((s++[61])++g)) M o md nt) (o,md,nt,(M.map spN).map toG,S (s++(61::(g++spsT g 0 M)))):=by
    intro M hM
    have:=range_loop hg (by omega) o md nt M 0 ((s++[61])++g) [] rfl (by simp only[List.length_append,List.length_cons,List.length_nil];omega) (by simp;omega)
    refine Ev.step (fun k=>florinlaw06_Relation_relation.j2.eq_2 ..) ?_
    have e:s++(61::(g++spsT g 0 M))=((s++[61])++g)++spsT g 0 M:=by simp
    rw[e]
    simpa using this
  refine Ev.step (fun k=>florinlaw06_Relation_relation.j1.eq_2 ..) ?_
  rw[show(⟨#[61]⟩:ByteArray)=S [61] from rfl]
  simp only[S_append,S_size]
  refine Ev.if_pos (by omega) (Ev.if_pos (by simp only[List.length_append,List.length_cons,List.length_nil];omega) (Ev.const rfl (Ev.if_pos (by simp;omega) (Ev.const rfl ?_))))
  rw[List.nil_append]
  unfold numsOf
  by_cases h:L=[]
  · subst h
    rw[_root_.if_pos rfl]
    exact Ev.if_pos (by simp) (Ev.if_pos (by simp) (key [⟨0,0⟩] (by simp)))
  · rw[_root_.if_neg h]
    have:0<L.length:=List.length_pos_iff.2 h
    exact Ev.if_neg (by omega) (key L (by omega))
theorem j0_made {g s:List UInt8} (hg:g.length≤2) (hs:s.length≤900) (z0 z1 z2:Int) (z3:Bool) (L:List Num) (hL:L.length≤50) (o md:Int) (nt:Bool) :
    Ev (fun k=>florinlaw06_Relation_relation.j0 k (S g) (S s) z0 z1 z2 z3 L o md nt) (o,md,nt,((numsOf L).map spN).map toG,S (s++((if nt then [33] else [])++(61::(g++spsT g 0 (numsOf L)))))):=by
  refine Ev.step (fun k=>florinlaw06_Relation_relation.j0.eq_2 ..) ?_
  cases nt with
  | true =>
    rw[show(⟨#[33]⟩:ByteArray)=S [33] from rfl]
    simp only[S_append,S_size]
    have:=j1_made hg (s:=s++[33]) (by simp only[List.length_append,List.length_cons,List.length_nil];omega) z0 z1 z2 z3 L hL o md true
    refine Ev.if_pos (by simp) (Ev.if_pos (by omega) ?_)
    simpa using this
  | false =>
    have:=j1_made hg (s:=s) (by omega) z0 z1 z2 z3 L hL o md false
    refine Ev.if_neg (by simp) ?_
    simpa using this
/-- a relation as it is meant -/
def rlN (r:RlM):RG.Rl:=⟨RG.ops.getD (Go.bits .and .i64 r.f0 7).toNat 0,(Go.bits .and .i64 r.f1 65535).toNat,r.f3,(numsOf r.f4).map spN⟩
def rlT (r:RlM):List UInt8:=(rlN r).op::(gapT r.f2++((if (rlN r).md=0 then [] else 37::(gapT r.f2++(RG.dgs (rlN r).md++gapT r.f2)))++((if r.f3 then [33] else [])++(61::(gapT r.f2++spsT (gapT r.f2) 0 (numsOf r.f4))))))
theorem rlN_md (r:RlM):(rlN r).md<65536∧Go.bits .and .i64 r.f1 65535=((rlN r).md:Int):=by
  obtain⟨x,h1,h2⟩:=low64 16 (by omega) r.f1 65535 (by decide)
  unfold rlN
  dsimp only
  rw[h1,Int.toNat_natCast]
  exact⟨h2,rfl⟩
theorem rlN_op (r:RlM):∃x:Nat,Go.bits .and .i64 r.f0 7=(x:Int)∧x<8∧(rlN r).op=RG.ops.getD x 0∧(rlN r).op∈RG.ops∧bt (⟨#[110,105,118,119,102,116,99,101]⟩:ByteArray) (x:Int)=((rlN r).op.toNat:Int):=by
  obtain⟨x,h1,h2⟩:=low64 3 (by omega) r.f0 7 (by decide)
  have h8:x<8:=h2
  have e:(rlN r).op=RG.ops.getD x 0:=by unfold rlN;dsimp only;rw[h1,Int.toNat_natCast]
  refine⟨x,h1,h8,e,?_,?_⟩
  · rw[e]
    have:x=0∨x=1∨x=2∨x=3∨x=4∨x=5∨x=6∨x=7:=by omega
    rcases this with rfl|rfl|rfl|rfl|rfl|rfl|rfl|rfl <;> decide
  · rw[e]
    have:x=0∨x=1∨x=2∨x=3∨x=4∨x=5∨x=6∨x=7:=by omega
    rcases this with rfl|rfl|rfl|rfl|rfl|rfl|rfl|rfl <;> rfl
theorem rlT_len (r:RlM) (hL:r.f4.length≤50):(rlT r).length≤60+29*r.f4.length:=by
  obtain⟨g1,g2⟩:=gap_bl r.f2
  obtain⟨hm,_⟩:=rlN_md r
  obtain⟨z,zs,hz,hzl⟩:=numsOf_ne r.f4
  have h1:=spsT_len g2 0 (numsOf r.f4)
  have h2:=dgs_len (n:=(rlN r).md) (by omega)
  rw[hz,List.length_cons] at h1
  unfold rlT
  have h3:(if (rlN r).md=0 then [] else 37::(gapT r.f2++(RG.dgs (rlN r).md++gapT r.f2))).length≤14:=by
    split
    · simp
    · simp only[List.length_append,List.length_cons];omega
  have h4:(if r.f3=true then [33] else ([]:List UInt8)).length≤1:=by split <;> simp
  simp only[List.length_append,List.length_cons]
  rw[hz]
  omega
theorem strOf1 (c:UInt8):strOfNums [(c.toNat:Int)]=S [c]:=by
  rw[strOfNums_S,List.map_cons,List.map_nil,Int.toNat_natCast,UInt8.ofNat_toNat]
theorem relation_ev (r:RlM) (hL:r.f4.length≤50):Ev (fun k=>florinlaw06_Relation_relation.f k r.f0 r.f1 r.f2 r.f3 r.f4) ((toL (rlN r)).f0,(toL (rlN r)).f1,(toL (rlN r)).f2,(toL (rlN r)).f3,S (rlT r)):=by
  obtain⟨g1,g2⟩:=gap_bl r.f2
  obtain⟨x,h1,h8,_,_,hb⟩:=rlN_op r
  obtain⟨hm,h2⟩:=rlN_md r
  have d1:=dgs_len (n:=(rlN r).md) (by omega)
  have hdm:=digits_ev (n:=(rlN r).md) (by omega)
  unfold florinlaw06_Relation_relation.f
  rw[h1,h2,hb,show(⟨#[37]⟩:ByteArray)=S [37] from rfl]
  refine Ev.if_pos (by omega) (Ev.if_pos (by omega) (Ev.const (gap_ev r.f2) (Ev.const rfl ?_)))
  rw[strOf1]
  simp only[S_append,S_size]
  refine Ev.if_pos (by simp only[List.length_cons,List.length_nil];omega) ?_
  have fin:∀ {s:List UInt8},s.length≤900→rlT r=s++((if r.f3 then [33] else [])++(61::(gapT r.f2++spsT (gapT r.f2) 0 (numsOf r.f4)))) →
      Ev (fun k=>florinlaw06_Relation_relation.j0 k (S (gapT r.f2)) (S s) r.f0 r.f1 r.f2 r.f3 r.f4 ((rlN r).op.toNat:Int) ((rlN r).md:Int) r.f3) ((toL (rlN r)).f0,(toL (rlN r)).f1,(toL (rlN r)).f2,(toL (rlN r)).f3,S (rlT r)):=by
    intro s hs e
    have:=j0_made g2 hs r.f0 r.f1 r.f2 r.f3 r.f4 hL ((rlN r).op.toNat:Int) ((rlN r).md:Int) r.f3
    rw[e]
    exact this
  by_cases h0:(rlN r).md=0
  · refine Ev.if_pos (by omega) (fin (by simp only[List.length_append,List.length_cons,List.length_nil];omega) ?_)
    unfold rlT
    rw[_root_.if_pos h0];simp
  · refine Ev.if_neg (by omega) (Ev.if_pos (by simp only[List.length_append,List.length_cons,List.length_nil];omega) (Ev.if_pos (by simp only[List.length_append,List.length_cons,List.length_nil];omega) (Ev.bind hdm ?_)))
    simp only[S_append,S_size]
    refine Ev.if_pos (by simp only[List.length_append,List.length_cons,List.length_nil];omega) (Ev.if_pos (by simp only[List.length_append,List.length_cons,List.length_nil];omega) (fin (by simp only[List.length_append,List.length_cons,List.length_nil];omega) ?_))
    unfold rlT
    rw[_root_.if_neg h0];simp
end RR
end Go.Proofs.YtadagjgkanlmdaaGreatDoor.P
namespace Go.Proofs.YtadagjgkanlmdaaGreatDoor.P
open Go.RowKit Go.Proofs.YtadagjgkanlmdaaGreatDoorW.PrintWords Go.Proofs.YtadagjgkanlmdaaGreatDoorW.PrintLast Go.Proofs.YtadagjgkanlmdaaGreatDoorW.PrintMore Go.Proofs.YtadagjgkanlmdaaGreatDoor.FM
set_option linter.unusedVariables false
set_option linter.unusedSimpArgs false
namespace RR
abbrev Mad:=S50
/-- what is left of a number without a sign by a small one -/
theorem umod (a:Int) (n:Int) (h0:0<n) (h1:n≤1000):∃x:Nat,wrap64 (Int.tmod (IntKind.u64.wrap a) n)=(x:Int)∧(x:Int)<n:=by
  have g0:0≤IntKind.u64.wrap a:=by rw[IntKind.wrap_u64];omega
  have g1:=Int.tmod_lt_of_pos (IntKind.u64.wrap a) h0
  have g2:=Int.tmod_nonneg n g0
  generalize Int.tmod (IntKind.u64.wrap a) n=t at g1 g2 ⊢
  clear g0
  exact⟨t.toNat,by rw[w64 (by omega) (by omega)];omega,by omega⟩
def catN (m:Mad):Nat:=(wrap64 (Int.tmod (IntKind.u64.wrap m.f0) 6)).toNat
theorem cat_ev (m:Mad):florinlaw06_Made_cat.f m.f0 m.f1 m.f2 m.f3=some (catN m:Int)∧catN m<6:=by
  obtain⟨x,h1,h2⟩:=umod m.f0 6 (by decide) (by decide)
  unfold florinlaw06_Made_cat.f catN
  rw[h1,Int.toNat_natCast]
  exact⟨rfl,by omega⟩
def smps:List (List UInt8):=[[],[64,105,110,116,101,103,101,114,32,49,44,32,50,49,126,50,52,44,32,226,128,166],[64,100,101,99,105,109,97,108,32,48,46,48],[64,32,119,104,97,116,32,101,118,101,114,32,64],[]]
def smpT (n:Int):List UInt8:=smps.getD (wrap64 (Int.tmod (IntKind.u64.wrap n) 5)).toNat []
def smpL:List ByteArray:=[(⟨#[]⟩:ByteArray),(⟨#[64,105,110,116,101,103,101,114,32,49,44,32,50,49,126,50,52,44,32,226,128,166]⟩:ByteArray),(⟨#[64,100,101,99,105,109,97,108,32,48,46,48]⟩:ByteArray),(⟨#[64,32,119,104,97,116,32,101,118,101,114,32,64]⟩:ByteArray),(⟨#[]⟩:ByteArray)]
theorem smp_spec (n:Int):RG.WSmp (smpT n)∧(smpT n).length≤25∧∃x:Nat,wrap64 (Int.tmod (IntKind.u64.wrap n) 5)=(x:Int)∧x<5∧rdOf ByteArray.empty smpL (x:Int)=S (smpT n):=by
  obtain⟨x,h1,h2⟩:=umod n 5 (by decide) (by decide)
  have h5:x<5:=by omega
  have e:smpT n=smps.getD x []:=by unfold smpT;rw[h1,Int.toNat_natCast]
  rw[e]
  have:x=0∨x=1∨x=2∨x=3∨x=4:=by omega
  clear h2 e
  rcases this with rfl|rfl|rfl|rfl|rfl
  · exact⟨.inl rfl,by decide,0,h1,h5,rfl⟩
  · exact⟨.inr ⟨_,rfl,by decide,by decide⟩,by decide,1,h1,h5,rfl⟩
  · exact⟨.inr ⟨_,rfl,by decide,by decide⟩,by decide,2,h1,h5,rfl⟩
  · exact⟨.inr ⟨_,rfl,by decide,by decide⟩,by decide,3,h1,h5,rfl⟩
  · exact⟨.inl rfl,by decide,4,h1,h5,rfl⟩
def relsN (a:List RlM):List RlM:=if a=[] then [⟨0,0,0,false,[]⟩] else a
def anyN (m:Mad):List (List RlM):=if m.f3=[] then [[]] else m.f3
def alN (a:List RlM):List RG.Rl:=(relsN a).map rlN
def ruN (m:Mad):RG.Ru:=⟨catN m,if catN m=5 then [] else (anyN m).map alN,smpT m.f2⟩
def allT:Nat→List RlM→List UInt8
  | _,[]=>[]
  | i,z::zs=>(if i=0 then [] else [32,97,110,100,32])++(rlT z++allT (i+1) zs)
def orT (g:List UInt8):Nat→List (List RlM)→List UInt8
  | _,[]=>[]
  | i,z::zs=>(if i=0 then [] else 32::111::114::(g++[32]))++(allT 0 (relsN z)++orT g (i+1) zs)
def ruT (m:Mad):List UInt8:=RG.cats.getD (catN m) []++(gapT m.f1++(58::(gapT m.f1++((if catN m=5 then [] else orT (gapT m.f1) 0 (anyN m))++(32::(smpT m.f2++gapT m.f1))))))
/-- few relations and ranges -/
def FewR (r:RlM):Prop:=r.f4.length≤5
def FewA (a:List RlM):Prop:=a.length≤4∧∀r∈a,FewR r
def FewM (m:Mad):Prop:=m.f3.length≤4∧∀a∈m.f3,FewA a
theorem FewA.rels {a:List RlM} (h:FewA a):FewA (relsN a):=by
  unfold relsN
  split
  · exact⟨by simp,fun r hr=>by rw[List.mem_singleton.1 hr];exact Nat.zero_le _⟩
  · exact h
theorem FewM.any {m:Mad} (h:FewM m):(anyN m).length≤4∧∀a∈anyN m,FewA a:=by
  unfold anyN
  split
  · exact⟨by simp,fun a ha=>by rw[List.mem_singleton.1 ha];exact⟨by simp,by simp⟩⟩
  · exact h
theorem allT_len:∀(i:Nat) (l:List RlM),(∀r∈l,FewR r)→(allT i l).length≤210*l.length
  | _,[],_=>by simp[allT]
  | i,z::zs,h=>by
    have h1:=allT_len (i+1) zs (fun r hr=>h r (by simp[hr]))
    have hz:z.f4.length≤5:=h z (by simp)
    have h2:=rlT_len z (by omega)
    rw[allT]
    simp only[List.length_append,List.length_cons]
    have h3:(if i=0 then [] else [32,97,110,100,32]:List UInt8).length≤5:=by split <;> simp
    omega
theorem orT_len {g:List UInt8} (hg:g.length≤2):∀(i:Nat) (l:List (List RlM)),(∀a∈l,FewA a)→(orT g i l).length≤846*l.length
  | _,[],_=>by simp[orT]
  | i,z::zs,h=>by
    have h1:=orT_len hg (i+1) zs (fun r hr=>h r (by simp[hr]))
    have hz:=(h z (by simp)).rels
    have h2:=allT_len 0 (relsN z) hz.2
    have hz1:=hz.1
    rw[orT]
    have h3:(if i=0 then [] else 32::111::114::(g++[32]):List UInt8).length≤6:=by
      split
      · simp
      · simp only[List.length_append,List.length_cons,List.length_nil];omega
    simp only[List.length_append,List.length_cons]
    omega
theorem ruT_len {m:Mad} (h:FewM m):(ruT m).length≤3500:=by
  obtain⟨g1,g2⟩:=gap_bl m.f1
  obtain⟨p1,p2,_⟩:=smp_spec m.f2
  obtain⟨a1,a2⟩:=h.any
  have h1:=orT_len g2 0 (anyN m) a2
  have h2:(if catN m=5 then [] else orT (gapT m.f1) 0 (anyN m)).length≤3384:=by
    split
    · simp
    · omega
  have h3:(RG.cats.getD (catN m) []).length≤5:=by
    obtain⟨_,hc⟩:=cat_ev m
    generalize catN m=c at hc
    have:c=0∨c=1∨c=2∨c=3∨c=4∨c=5:=by omega
    rcases this with rfl|rfl|rfl|rfl|rfl|rfl <;> decide
  unfold ruT
  simp only[List.length_append,List.length_cons]
  omega
theorem rdR {L:List RlM} {i:Nat} {z:RlM} {zs:List RlM} (h:L.drop i=z::zs):rd_T46 L (i:Int)=z:=by
  unfold rd_T46
  rw[Int.toNat_natCast]
  exact(getD_drop _ h).1
theorem rdA {L:List (List RlM)} {i:Nat} {z:List RlM} {zs:List (List RlM)} (h:L.drop i=z::zs):rd_L14 L (i:Int)=z:=by
  unfold rd_L14
  rw[Int.toNat_natCast]
  exact(getD_drop _ h).1
section
variable {g:List UInt8} {B:List (List RlM)} {x46 x47 z0 z1 z2 c:Int} {z3:List (List RlM)} {X:List (List RelT)} {w:ByteArray} {res:Int × List (List RelT) × ByteArray × ByteArray}
theorem and_round {A:List RlM} {i:Nat} {z:RlM} {zs:List RlM} (hd:A.drop i=z::zs) (hA:A.length≤100) (hz:z.f4.length≤50) {s:List UInt8} (hs:s.length≤1000000) (acc:List RelT) (hac:acc.length≤1000)
    (ih:Ev (fun k=>florinlaw06_Made_Write.l1 k (S g) (S (s++((if i=0 then [] else [32,97,110,100,32])++rlT z))) (acc++[toL (rlN z)]) B x46 x47 A (A.length:Int) ((i+1:Nat):Int) z0 z1 z2 z3 c X w) res) :
    Ev (fun k=>florinlaw06_Made_Write.l1 k (S g) (S s) acc B x46 x47 A (A.length:Int) (i:Int) z0 z1 z2 z3 c X w) res:=by
  obtain⟨_,hi,_⟩:=getD_drop z hd
  have c1:(i:Int)<(A.length:Int):=by omega
  have c2:(0:Int)≤(i:Int):=by omega
  have c3:acc.length<2932031007402:=by omega
  have hwi:=w_succ (i:=i) (by omega)
  have hl:=rlT_len z hz
  have hr:=relation_ev z hz
  have b0:s.length+(rlT z).length≤9223372036854775807:=by omega
  have b1:s.length+4≤9223372036854775807:=by omega
  have b2:(s++[32,97,110,100]).length+1≤9223372036854775807:=by simp only[List.length_append,List.length_cons,List.length_nil];omega
  have b3:((s++[32,97,110,100])++[32]).length+(rlT z).length≤9223372036854775807:=by simp only[List.length_append,List.length_cons,List.length_nil];omega
  refine Ev.step (fun k=>florinlaw06_Made_Write.l1.eq_2 ..) (Ev.if_pos c1 (Ev.if_pos c2 (Ev.if_pos c1 ?_)))
  rw[rdR hd,hwi]
  clear hwi
  refine Ev.bind hr (Ev.if_pos c3 (Ev.const rfl ?_))
  rw[show(⟨#[32,97,110,100]⟩:ByteArray)=S [32,97,110,100] from rfl,show(⟨#[32]⟩:ByteArray)=S [32] from rfl]
  dsimp only
  simp only[S_append,S_size]
  by_cases h0:i=0
  · rw[_root_.if_pos h0,List.nil_append] at ih
    exact Ev.if_neg (by omega) (Ev.if_pos b0 ih)
  · rw[_root_.if_neg h0] at ih
    have e:s++([32,97,110,100,32]++rlT z)=((s++[32,97,110,100])++[32])++rlT z:=by simp
    rw[e] at ih
    exact Ev.if_pos (by omega) (Ev.if_pos b1 (Ev.if_pos b2 (Ev.if_pos b3 ih)))
theorem and_loop {A:List RlM} (hA:A.length≤100) (hr:∀r∈A,r.f4.length≤50) (hX:X.length≤1000):∀(zs:List RlM) (i:Nat) (s:List UInt8) (acc:List RelT),A.drop i=zs→s.length+1600*zs.length≤1000000→acc.length+zs.length≤1000 →
    Ev (fun k=>florinlaw06_Made_Write.l0 k (S g) (S (s++allT i zs)) B x46 (wrap64 (x47+1)) z0 z1 z2 z3 c (X++[acc++(zs.map rlN).map toL]) w) res →
    Ev (fun k=>florinlaw06_Made_Write.l1 k (S g) (S s) acc B x46 x47 A (A.length:Int) (i:Int) z0 z1 z2 z3 c X w) res
  | [],i,s,acc,hd,hs,ha,hk=>by
    have:=drop_nil_le hd
    have e:s++allT i []=s:=by simp[allT]
    rw[e,List.map_nil,List.map_nil,List.append_nil] at hk
    exact Ev.step (fun k=>florinlaw06_Made_Write.l1.eq_2 ..) (Ev.if_neg (by omega) (Ev.if_pos (by omega) hk))
  | z::zs,i,s,acc,hd,hs,ha,hk=>by
    obtain⟨_,hi,hd2⟩:=getD_drop z hd
    rw[List.length_cons] at hs ha
    have hz:z.f4.length≤50:=hr z (by
      have:z∈A.drop i:=by rw[hd];simp
      exact List.mem_of_mem_drop this)
    have h2:=rlT_len z hz
    have hl:((if i=0 then [] else [32,97,110,100,32])++rlT z).length≤1600:=by
      rw[List.length_append]
      split
      · simp only[List.length_nil];omega
      · simp only[List.length_append,List.length_cons,List.length_nil];omega
    refine and_round hd hA hz (by omega) acc (by omega) (and_loop hA hr hX zs (i+1) _ _ hd2 (by rw[List.length_append];omega) (by rw[List.length_append,List.length_singleton];omega) ?_)
    have e:s++allT i (z::zs)=(s++((if i=0 then [] else [32,97,110,100,32])++rlT z))++allT (i+1) zs:=by rw[allT];simp
    rw[e] at hk
    simpa using hk
theorem or_round {i:Nat} {z:List RlM} {zs:List (List RlM)} (hd:B.drop i=z::zs) (hB:B.length≤100) (hz:FewA z) (hg:g.length≤2) {s:List UInt8} (hs:s.length≤100000) (hX:X.length≤1000)
    (ih:Ev (fun k=>florinlaw06_Made_Write.l0 k (S g) (S (s++((if i=0 then [] else 32::111::114::(g++[32]))++allT 0 (relsN z)))) B (B.length:Int) ((i+1:Nat):Int) z0 z1 z2 z3 c (X++[(alN z).map toL]) w) res) :
    Ev (fun k=>florinlaw06_Made_Write.l0 k (S g) (S s) B (B.length:Int) (i:Int) z0 z1 z2 z3 c X w) res:=by
  obtain⟨_,hi,_⟩:=getD_drop z hd
  have c1:(i:Int)<(B.length:Int):=by omega
  have c2:(0:Int)≤(i:Int):=by omega
  have hzl:z.length≤4:=hz.1
  have hwi:=w_succ (i:=i) (by omega)
  have hzr:=hz.rels
  have key:∀A:List RlM,A=relsN z→Ev (fun k=>florinlaw06_Made_Write.j2 k (S g) (S s) (i:Int) A B (B.length:Int) (i:Int) z0 z1 z2 z3 c X w) res:=by
    intro A hAz
    subst hAz
    have k3:∀q:List UInt8,q.length≤100100→Ev (fun k=>florinlaw06_Made_Write.l0 k (S g) (S (q++allT 0 (relsN z))) B (B.length:Int) ((i+1:Nat):Int) z0 z1 z2 z3 c (X++[(alN z).map toL]) w) res→Ev (fun k=>florinlaw06_Made_Write.j3 k (S g) (S q) (relsN z) B (B.length:Int) (i:Int) z0 z1 z2 z3 c X w) res:=by
      intro q hq h
      rw[← hwi] at h
      have hzr1:=hzr.1
      exact Ev.step (fun k=>florinlaw06_Made_Write.j3.eq_2 ..) (and_loop (by omega) (fun r hr=>Nat.le_trans (hzr.2 r hr) (by decide)) hX (relsN z) 0 q [] rfl (by omega) (by simp;omega) (by simpa [alN] using h))
    refine Ev.step (fun k=>florinlaw06_Made_Write.j2.eq_2 ..) ?_
    rw[show(⟨#[32,111,114]⟩:ByteArray)=S [32,111,114] from rfl,show(⟨#[32]⟩:ByteArray)=S [32] from rfl]
    have b1:s.length+3≤9223372036854775807:=by omega
    have b2:(s++[32,111,114]).length+g.length≤9223372036854775807:=by simp only[List.length_append,List.length_cons,List.length_nil];omega
    have b3:((s++[32,111,114])++g).length+1≤9223372036854775807:=by simp only[List.length_append,List.length_cons,List.length_nil];omega
    have b4:(((s++[32,111,114])++g)++[32]).length≤100100:=by simp only[List.length_append,List.length_cons,List.length_nil];omega
    simp only[S_append,S_size]
    by_cases h0:i=0
    · rw[_root_.if_pos h0,List.nil_append] at ih
      exact Ev.if_neg (by omega) (k3 s (by omega) ih)
    · rw[_root_.if_neg h0] at ih
      have e:s++((32::111::114::(g++[32]))++allT 0 (relsN z))=(((s++[32,111,114])++g)++[32])++allT 0 (relsN z):=by simp
      rw[e] at ih
      exact Ev.if_pos (by omega) (Ev.if_pos b1 (Ev.if_pos b2 (Ev.if_pos b3 (k3 _ b4 ih))))
  refine Ev.step (fun k=>florinlaw06_Made_Write.l0.eq_2 ..) (Ev.if_pos c1 (Ev.if_pos c2 (Ev.if_pos c1 ?_)))
  rw[rdA hd]
  refine Ev.const rfl (Ev.if_pos (by rw[List.length_nil];omega) (Ev.const rfl ?_))
  rw[List.nil_append]
  by_cases h:z=[]
  · exact Ev.if_pos (by rw[h];rfl) (Ev.if_pos (by omega) (key _ (by unfold relsN;rw[_root_.if_pos h,h];rfl)))
  · have:0<z.length:=List.length_pos_iff.2 h
    exact Ev.if_neg (by omega) (key _ (by unfold relsN;rw[_root_.if_neg h]))
end
section
variable {g:List UInt8} {B:List (List RlM)} {z0 z1 z2 c:Int} {z3:List (List RlM)} {w:ByteArray}
theorem or_loop (hB:B.length≤100) (hF:∀a∈B,FewA a) (hg:g.length≤2):∀(zs:List (List RlM)) (i:Nat) (s:List UInt8) (X:List (List RelT)),B.drop i=zs→s.length+1000*zs.length≤100000→X.length+zs.length≤1000 →
    Ev (fun k=>florinlaw06_Made_Write.l0 k (S g) (S s) B (B.length:Int) (i:Int) z0 z1 z2 z3 c X w) (c,X++zs.map (fun a=>(alN a).map toL),S (smpT z2),S (s++(orT g i zs++(32::(smpT z2++g)))))
  | [],i,s,X,hd,hs,hx=>by
    have hle:=drop_nil_le hd
    obtain⟨p1,p2,x,p3,p4,p5⟩:=smp_spec z2
    rw[show smpL=[(⟨#[]⟩:ByteArray),(⟨#[64,105,110,116,101,103,101,114,32,49,44,32,50,49,126,50,52,44,32,226,128,166]⟩:ByteArray),(⟨#[64,100,101,99,105,109,97,108,32,48,46,48]⟩:ByteArray),(⟨#[64,32,119,104,97,116,32,101,118,101,114,32,64]⟩:ByteArray),(⟨#[]⟩:ByteArray)] from rfl] at p5
    have c0:¬((i:Int)<(B.length:Int)):=by clear p3;omega
    have c1:(0:Int)≤(x:Int):=by clear p3;omega
    have c2:(x:Int)<5:=by clear p3;omega
    have b1:s.length+1≤9223372036854775807:=by clear p3;omega
    have b2:(s++[32]).length+(smpT z2).length≤9223372036854775807:=by clear p3;simp only[List.length_append,List.length_cons,List.length_nil];omega
    have b3:((s++[32])++smpT z2).length+g.length≤9223372036854775807:=by clear p3;simp only[List.length_append,List.length_cons,List.length_nil];omega
    refine Ev.step (fun k=>florinlaw06_Made_Write.l0.eq_2 ..) (Ev.if_neg c0 (Ev.const rfl ?_))
    rw[p3,p5,show(⟨#[32]⟩:ByteArray)=S [32] from rfl]
    simp only[S_append,S_size]
    have e:s++(orT g i []++(32::(smpT z2++g)))=((s++[32])++smpT z2)++g:=by simp[orT]
    rw[e,List.map_nil,List.append_nil]
    exact Ev.if_pos c1 (Ev.if_pos c2 (Ev.if_pos b1 (Ev.if_pos b2 (Ev.if_pos b3 (Ev.now _)))))
  | z::zs,i,s,X,hd,hs,hx=>by
    obtain⟨_,hi,hd2⟩:=getD_drop z hd
    rw[List.length_cons] at hs hx
    have hz:FewA z:=hF z (by
      have:z∈B.drop i:=by rw[hd];simp
      exact List.mem_of_mem_drop this)
    have hzr:=hz.rels
    have h2:=allT_len 0 (relsN z) hzr.2
    have hz1:=hzr.1
    have hl:((if i=0 then [] else 32::111::114::(g++[32]))++allT 0 (relsN z)).length≤1000:=by
      rw[List.length_append]
      split
      · simp only[List.length_nil];omega
      · simp only[List.length_append,List.length_cons,List.length_nil];omega
    have ih:=or_loop hB hF hg zs (i+1) (s++((if i=0 then [] else 32::111::114::(g++[32]))++allT 0 (relsN z))) (X++[(alN z).map toL]) hd2 (by rw[List.length_append];omega) (by rw[List.length_append,List.length_singleton];omega)
    refine or_round hd hB hz hg (by omega) (by omega) ?_
    have e:s++(orT g i (z::zs)++(32::(smpT z2++g)))=(s++((if i=0 then [] else 32::111::114::(g++[32]))++allT 0 (relsN z)))++(orT g (i+1) zs++(32::(smpT z2++g))):=by rw[orT];simp
    rw[e]
    simpa using ih
end
theorem write_ev {m:Mad} (h:FewM m):Ev (fun k=>florinlaw06_Made_Write.f k m.f0 m.f1 m.f2 m.f3) ((toU (ruN m)).f0,(toU (ruN m)).f1,(toU (ruN m)).f2,S (gapT m.f1++ruT m)):=by
  obtain⟨g1,g2⟩:=gap_bl m.f1
  obtain⟨hcat,hc⟩:=cat_ev m
  obtain⟨a1,a2⟩:=h.any
  have hf3:m.f3.length≤4:=h.1
  have hw5:(RG.cats.getD (catN m) []).length≤5:=by
    clear hcat
    generalize catN m=c at hc
    have:c=0∨c=1∨c=2∨c=3∨c=4∨c=5:=by omega
    rcases this with rfl|rfl|rfl|rfl|rfl|rfl <;> decide
  have b1:(gapT m.f1).length+(RG.cats.getD (catN m) []).length≤9223372036854775807:=by omega
  have b2:(gapT m.f1++RG.cats.getD (catN m) []).length+(gapT m.f1).length≤9223372036854775807:=by simp only[List.length_append];omega
  have b3:((gapT m.f1++RG.cats.getD (catN m) [])++gapT m.f1).length+1≤9223372036854775807:=by simp only[List.length_append];omega
  have b4:(((gapT m.f1++RG.cats.getD (catN m) [])++gapT m.f1)++[58]).length+(gapT m.f1).length≤9223372036854775807:=by simp only[List.length_append,List.length_cons,List.length_nil];omega
  generalize hq:((((gapT m.f1++RG.cats.getD (catN m) [])++gapT m.f1)++[58])++gapT m.f1)=q
  have hql:q.length≤20:=by rw[← hq];simp only[List.length_append,List.length_cons,List.length_nil];omega
  have key:Ev (fun k=>florinlaw06_Made_Write.j0 k (S (gapT m.f1)) (S q) (anyN m) m.f0 m.f1 m.f2 m.f3 (catN m:Int) (⟨#[]⟩:ByteArray)) ((toU (ruN m)).f0,(toU (ruN m)).f1,(toU (ruN m)).f2,S (gapT m.f1++ruT m)):=by
    refine Ev.step (fun k=>florinlaw06_Made_Write.j0.eq_2 ..) ?_
    by_cases h5:catN m=5
    · have e1:gapT m.f1++ruT m=((q++[32])++smpT m.f2)++gapT m.f1:=by
        unfold ruT;rw[_root_.if_pos h5, ← hq];simp
      have e2:(toU (ruN m)).f1=[]:=by unfold toU ruN;dsimp only;rw[_root_.if_pos h5];rfl
      obtain⟨p1,p2,x,p3,p4,p5⟩:=smp_spec m.f2
      rw[show smpL=[(⟨#[]⟩:ByteArray),(⟨#[64,105,110,116,101,103,101,114,32,49,44,32,50,49,126,50,52,44,32,226,128,166]⟩:ByteArray),(⟨#[64,100,101,99,105,109,97,108,32,48,46,48]⟩:ByteArray),(⟨#[64,32,119,104,97,116,32,101,118,101,114,32,64]⟩:ByteArray),(⟨#[]⟩:ByteArray)] from rfl] at p5
      have c1:(0:Int)≤(x:Int):=by clear p3;omega
      have c2:(x:Int)<5:=by clear p3;omega
      have d1:q.length+1≤9223372036854775807:=by clear p3;omega
      have d2:(q++[32]).length+(smpT m.f2).length≤9223372036854775807:=by clear p3;simp only[List.length_append,List.length_cons,List.length_nil];omega
      have d3:((q++[32])++smpT m.f2).length+(gapT m.f1).length≤9223372036854775807:=by clear p3;simp only[List.length_append,List.length_cons,List.length_nil];omega
      refine Ev.if_pos (by rw[h5];rfl) (Ev.const rfl ?_)
      rw[p3,p5,show(⟨#[32]⟩:ByteArray)=S [32] from rfl,e1,e2]
      simp only[S_append,S_size]
      exact Ev.if_pos c1 (Ev.if_pos c2 (Ev.if_pos d1 (Ev.if_pos d2 (Ev.if_pos d3 (Ev.now _)))))
    · have hl:=or_loop (z0:=m.f0) (z1:=m.f1) (z2:=m.f2) (c:=(catN m:Int)) (z3:=m.f3) (w:=(⟨#[]⟩:ByteArray)) (by omega) a2 g2 (anyN m) 0 q [] rfl (by omega) (by simp;omega)
      have e1:gapT m.f1++ruT m=q++(orT (gapT m.f1) 0 (anyN m)++(32::(smpT m.f2++gapT m.f1))):=by
        unfold ruT;rw[_root_.if_neg h5, ← hq];simp
      have e2:(toU (ruN m)).f1=[]++(anyN m).map (fun a=>(alN a).map toL):=by unfold toU ruN;dsimp only;rw[_root_.if_neg h5,List.map_map];rfl
      rw[e1,e2]
      exact Ev.if_neg (by omega) hl
  unfold florinlaw06_Made_Write.f
  refine Ev.const hcat (Ev.const (gap_ev m.f1) (Ev.const (cat_str hc) ?_))
  rw[show(⟨#[58]⟩:ByteArray)=S [58] from rfl]
  simp only[S_append,S_size]
  rw[hq]
  refine Ev.if_pos b1 (Ev.if_pos b2 (Ev.if_pos b3 (Ev.if_pos b4 (Ev.const rfl (Ev.if_pos (by rw[List.length_nil];omega) (Ev.const rfl ?_))))))
  rw[List.nil_append]
  by_cases h0:m.f3=[]
  · have e:anyN m=m.f3++[[]]:=by unfold anyN;rw[_root_.if_pos h0,h0];rfl
    rw[e] at key
    exact Ev.if_pos (by rw[h0];rfl) (Ev.if_pos (by omega) key)
  · have e:anyN m=m.f3:=by unfold anyN;rw[_root_.if_neg h0]
    rw[e] at key
    have:0<m.f3.length:=List.length_pos_iff.2 h0
    exact Ev.if_neg (by omega) key
end RR
end Go.Proofs.YtadagjgkanlmdaaGreatDoor.P
namespace Go.Proofs.YtadagjgkanlmdaaGreatDoor.P
open Go.RowKit Go.Proofs.YtadagjgkanlmdaaGreatDoorW.PrintWords Go.Proofs.YtadagjgkanlmdaaGreatDoorW.PrintLast Go.Proofs.YtadagjgkanlmdaaGreatDoorW.PrintMore Go.Proofs.YtadagjgkanlmdaaGreatDoor.FM
set_option linter.unusedVariables false
set_option linter.unusedSimpArgs false
namespace RR
/-- of each category the first -/
def selM:List Nat→List Mad→List Mad
  | _,[]=>[]
  | seen,m::ms=>if catN m∈seen then selM seen ms else m::selM (seen++[catN m]) ms
def allX:Nat→List Mad→List UInt8
  | _,[]=>[]
  | i,m::ms=>(if i=0 then [] else [59])++((gapT m.f1++ruT m)++allX (i+1) ms)
def endT (e:Int) (n:Nat):List UInt8:=if 0<n∧Go.bits .and .i64 e 1=1 then 59::gapT (e/2) else []
theorem selM_sub:∀(ms:List Mad) (seen:List Nat),(selM seen ms).length≤ms.length∧(∀m∈selM seen ms,m∈ms∧catN m∉seen)∧((selM seen ms).map catN).Nodup
  | [],_=>⟨by simp[selM],by simp[selM],by simp[selM]⟩
  | m::ms,seen=>by
    rw[selM]
    by_cases h:catN m∈seen
    · rw[_root_.if_pos h]
      obtain⟨h1,h2,h3⟩:=selM_sub ms seen
      exact⟨by rw[List.length_cons];omega,fun x hx=>⟨List.mem_cons_of_mem _ (h2 x hx).1,(h2 x hx).2⟩,h3⟩
    · rw[_root_.if_neg h]
      obtain⟨h1,h2,h3⟩:=selM_sub ms (seen++[catN m])
      refine⟨by simp only[List.length_cons];omega,fun x hx=>?_,?_⟩
      · rcases List.mem_cons.1 hx with rfl|hx
        · exact⟨by simp,h⟩
        · exact⟨List.mem_cons_of_mem _ (h2 x hx).1,fun hs=>(h2 x hx).2 (List.mem_append.2 (.inl hs))⟩
      · rw[List.map_cons,List.nodup_cons]
        refine⟨fun hm=>?_,h3⟩
        obtain⟨y,hy,e⟩:=List.mem_map.1 hm
        exact(h2 y hy).2 (List.mem_append.2 (.inr (by rw[e];simp)))
def FewL (ms:List Mad):Prop:=ms.length≤8∧∀m∈ms,FewM m
def allOut (ms:List Mad):List RG.Ru:=(selM [] ms).map ruN
def allTxt (ms:List Mad) (e:Int):List UInt8:=allX 0 (selM [] ms)++endT e (selM [] ms).length
theorem rdM {L:List Mad} {i:Nat} {z:Mad} {zs:List Mad} (h:L.drop i=z::zs):rd_T50 L (i:Int)=z:=by
  unfold rd_T50
  rw[Int.toNat_natCast]
  exact(getD_drop _ h).1
theorem all_end {L:List Mad} {e:Int} {i:Nat} (hi:L.length≤i) {s:List UInt8} (hs:s.length≤1000000) (acc:List RG.Ru) (b0 b1 b2 b3 b4 b5:Bool) :
    Ev (fun k=>florinlaw06_All.l0 k e (acc.map toU) (S s) L (L.length:Int) (i:Int) b0 b1 b2 b3 b4 b5) (acc.map toU,S (s++endT e acc.length)):=by
  have c0:¬((i:Int)<(L.length:Int)):=by omega
  have hg:=(gap_bl (e/2)).2
  have b1':s.length+1≤9223372036854775807:=by omega
  have b2':(s++[59]).length+(gapT (e/2)).length≤9223372036854775807:=by simp only[List.length_append,List.length_cons,List.length_nil];omega
  refine Ev.step (fun k=>florinlaw06_All.l0.eq_2 ..) (Ev.if_neg c0 ?_)
  rw[show(⟨#[59]⟩:ByteArray)=S [59] from rfl,List.length_map]
  simp only[S_append,S_size]
  by_cases h0:0<acc.length
  · refine Ev.if_pos (by omega) ?_
    by_cases h1:Go.bits .and .i64 e 1=1
    · have eE:endT e acc.length=59::gapT (e/2):=_root_.if_pos ⟨h0,h1⟩
      rw[eE]
      refine Ev.if_pos h1 (Ev.if_pos b1' (Ev.const (gap_ev _) ?_))
      simp only[S_append,S_size]
      have e1:s++(59::gapT (e/2))=(s++[59])++gapT (e/2):=by simp
      rw[e1]
      exact Ev.if_pos b2' (Ev.now _)
    · have eE:endT e acc.length=[]:=_root_.if_neg (fun hh=>h1 hh.2)
      rw[eE,List.append_nil]
      exact Ev.if_neg h1 (Ev.now _)
  · have eE:endT e acc.length=[]:=_root_.if_neg (fun hh=>h0 hh.1)
    rw[eE,List.append_nil]
    exact Ev.if_neg (by omega) (Ev.now _)
theorem all_loop {L:List Mad} {e:Int} (hL:L.length≤100):∀(zs:List Mad) (i:Nat) (s:List UInt8) (seen:List Nat) (acc:List RG.Ru),L.drop i=zs→(∀m∈zs,FewM m)→s.length+3600*zs.length≤500000→acc.length+zs.length≤1000 →
    Ev (fun k=>florinlaw06_All.l0 k e (acc.map toU) (S s) L (L.length:Int) (i:Int) (sn seen 0) (sn seen 1) (sn seen 2) (sn seen 3) (sn seen 4) (sn seen 5)) ((acc++(selM seen zs).map ruN).map toU,S (s++(allX acc.length (selM seen zs)++endT e (acc.length+(selM seen zs).length))))
  | [],i,s,seen,acc,hd,hF,hs,ha=>by
    have hle:=drop_nil_le hd
    have:=all_end (e:=e) hle (s:=s) (by omega) acc (sn seen 0) (sn seen 1) (sn seen 2) (sn seen 3) (sn seen 4) (sn seen 5)
    simpa [selM,allX] using this
  | z::zs,i,s,seen,acc,hd,hF,hs,ha=>by
    obtain⟨_,hi,hd2⟩:=getD_drop z hd
    rw[List.length_cons] at hs ha
    have hz:=hF z (by simp)
    have hzs:∀m∈zs,FewM m:=fun m hm=>hF m (by simp[hm])
    have c1:(i:Int)<(L.length:Int):=by omega
    have c2:(0:Int)≤(i:Int):=by omega
    have hwi:=w_succ (i:=i) (by omega)
    obtain⟨hcat,hc6⟩:=cat_ev z
    have c3:(0:Int)≤(catN z:Int):=by clear hwi hcat;omega
    have c4:(catN z:Int)<6:=by clear hwi hcat;omega
    have hread:=rd6 _ _ _ _ _ _ (fun j=>sn seen j) rfl rfl rfl rfl rfl rfl hc6
    refine Ev.step (fun k=>florinlaw06_All.l0.eq_2 ..) (Ev.if_pos c1 (Ev.if_pos c2 (Ev.if_pos c1 ?_)))
    rw[rdM hd,hwi]
    refine Ev.const hcat (Ev.if_pos c3 (Ev.if_pos c4 ?_))
    rw[hread]
    rw[selM]
    by_cases hm:catN z∈seen
    · rw[_root_.if_pos hm]
      have ih:=all_loop (e:=e) hL zs (i+1) s seen acc hd2 hzs (by clear hwi hcat hread;omega) (by clear hwi hcat hread;omega)
      exact Ev.if_pos (decide_eq_true hm) ih
    · rw[_root_.if_neg hm]
      refine Ev.if_neg (by simpa using hm) (Ev.const hcat (Ev.if_pos c3 (Ev.if_pos c4 (Ev.bind (write_ev hz) ?_))))
      have hT:=ruT_len hz
      have hG:=(gap_bl z.f1).2
      have hT2:(gapT z.f1++ruT z).length≤3502:=by clear hwi hcat hread;rw[List.length_append];omega
      have g0:=seen_put seen (catN z) 0
      have g1:=seen_put seen (catN z) 1
      have g2:=seen_put seen (catN z) 2
      have g3:=seen_put seen (catN z) 3
      have g4:=seen_put seen (catN z) 4
      have g5:=seen_put seen (catN z) 5
      generalize ht:gapT z.f1++ruT z=t at hT2
      have ih:=all_loop (e:=e) hL zs (i+1) (s++((if acc.length=0 then [] else [59])++t)) (seen++[catN z]) (acc++[ruN z]) hd2 hzs (by
        clear hwi hcat hread g0 g1 g2 g3 g4 g5
        simp only[List.length_append]
        split
        · simp only[List.length_nil];omega
        · simp only[List.length_cons,List.length_nil];omega) (by clear hwi hcat hread g0 g1 g2 g3 g4 g5;rw[List.length_append,List.length_singleton];omega)
      have e1:s++(allX acc.length (z::selM (seen++[catN z]) zs)++endT e (acc.length+(z::selM (seen++[catN z]) zs).length))=(s++((if acc.length=0 then [] else [59])++t))++(allX (acc++[ruN z]).length (selM (seen++[catN z]) zs)++endT e ((acc++[ruN z]).length+(selM (seen++[catN z]) zs).length)):=by
        rw[allX,ht]
        simp only[List.length_append,List.length_cons,List.length_nil,List.append_assoc]
        have:acc.length+((selM (seen++[catN z]) zs).length+1)=acc.length+(0+1)+(selM (seen++[catN z]) zs).length:=by omega
        rw[this]
      have e2:(acc++(z::selM (seen++[catN z]) zs).map ruN).map toU=((acc++[ruN z])++(selM (seen++[catN z]) zs).map ruN).map toU:=by simp
      rw[e1,e2]
      rw[List.map_append,List.map_cons,List.map_nil] at ih
      have b1:s.length+1≤9223372036854775807:=by clear hwi hcat hread g0 g1 g2 g3 g4 g5;omega
      have b2:(s++[59]).length+t.length≤9223372036854775807:=by clear hwi hcat hread g0 g1 g2 g3 g4 g5;simp only[List.length_append,List.length_cons,List.length_nil];omega
      have b3:s.length+t.length≤9223372036854775807:=by clear hwi hcat hread g0 g1 g2 g3 g4 g5;omega
      have b4:(acc.map toU).length<2932031007402:=by clear hwi hcat hread g0 g1 g2 g3 g4 g5;rw[List.length_map];omega
      rw[show(⟨#[59]⟩:ByteArray)=S [59] from rfl]
      dsimp only
      simp only[S_append,S_size]
      rw[show(0:Int)=((0:Nat):Int) from rfl,show(1:Int)=((1:Nat):Int) from rfl,show(2:Int)=((2:Nat):Int) from rfl,show(3:Int)=((3:Nat):Int) from rfl,show(4:Int)=((4:Nat):Int) from rfl,show(5:Int)=((5:Nat):Int) from rfl,g0,g1,g2,g3,g4,g5]
      clear g0 g1 g2 g3 g4 g5 hwi hcat hread
      by_cases h0:acc.length=0
      · rw[_root_.if_pos h0,List.nil_append] at ih ⊢
        first
          | exact Ev.if_neg (by rw[List.length_map];omega) (Ev.if_pos b4 (Ev.if_pos b3 ih))
          | (refine Ev.if_neg (by rw[List.length_map];omega) (Ev.step (fun k=>florinlaw06_All.j1.eq_2 ..) (Ev.if_pos b4 (Ev.if_pos (by rw[S_size,S_size];exact b3) ?_)));rw[S_append,w_succ (i:=i) (by omega)];exact ih)
      · rw[_root_.if_neg h0] at ih ⊢
        have e3:s++([59]++t)=(s++[59])++t:=by simp
        rw[e3] at ih ⊢
        first
          | exact Ev.if_pos (by rw[List.length_map];omega) (Ev.if_pos b1 (Ev.if_pos b4 (Ev.if_pos b2 ih)))
          | (refine Ev.if_pos (by rw[List.length_map];omega) (Ev.if_pos b1 (Ev.step (fun k=>florinlaw06_All.j1.eq_2 ..) (Ev.if_pos b4 (Ev.if_pos (by rw[S_size,S_size];exact b2) ?_))));rw[S_append,w_succ (i:=i) (by omega)];exact ih)
theorem all_ev {ms:List Mad} (h:FewL ms) (e:Int):Ev (fun k=>florinlaw06_All.f k ms e) ((allOut ms).map toU,S (allTxt ms e)):=by
  have h8:=h.1
  have:=all_loop (e:=e) (L:=ms) (by omega) ms 0 [] [] [] rfl h.2 (by simp;omega) (by simp;omega)
  unfold florinlaw06_All.f
  unfold allOut allTxt
  have hs:∀i,sn [] i=false:=fun i=>by simp[sn]
  rw[hs,hs,hs,hs,hs,hs] at this
  simp only[List.nil_append,List.length_nil,Nat.zero_add,List.map_nil] at this
  exact this
/-! few? -/
theorem few_l2 {L:List Mad} {x13:Int} {x14:Int} {B:List (List RlM)} {x24 x25:Int} {A:List RlM} {P:Prop} (hA:A.length≤1000) (hk:∃b,Ev (fun k=>florinlaw06_Few.l1 k L x13 x14 B x24 (wrap64 (x25+1))) b∧(b=true→P)):∀(zs:List RlM) (i:Nat),A.drop i=zs →
    ∃b,Ev (fun k=>florinlaw06_Few.l2 k L x13 x14 B x24 x25 A (A.length:Int) (i:Int)) b∧(b=true→(∀r∈zs,FewR r)∧P)
  | [],i,hd=>by
    have hle:=drop_nil_le hd
    obtain⟨b,h1,h2⟩:=hk
    exact⟨b,Ev.step (fun k=>florinlaw06_Few.l2.eq_2 ..) (Ev.if_neg (by omega) h1),fun e=>⟨by simp,h2 e⟩⟩
  | z::zs,i,hd=>by
    obtain⟨_,hi,hd2⟩:=getD_drop z hd
    have c1:(i:Int)<(A.length:Int):=by omega
    have c2:(0:Int)≤(i:Int):=by omega
    have hwi:=w_succ (i:=i) (by omega)
    by_cases h5:z.f4.length≤5
    · obtain⟨b,h1,h2⟩:=few_l2 hA hk zs (i+1) hd2
      refine⟨b,Ev.step (fun k=>florinlaw06_Few.l2.eq_2 ..) (Ev.if_pos c1 (Ev.if_pos c2 (Ev.if_pos c1 ?_))),fun e=>⟨fun r hr=>?_,(h2 e).2⟩⟩
      · rw[rdR hd,hwi]
        clear hwi
        exact Ev.if_neg (by omega) h1
      · rcases List.mem_cons.1 hr with rfl|hr
        · exact h5
        · exact(h2 e).1 r hr
    · refine⟨false,Ev.step (fun k=>florinlaw06_Few.l2.eq_2 ..) (Ev.if_pos c1 (Ev.if_pos c2 (Ev.if_pos c1 ?_))),fun e=>by cases e⟩
      rw[rdR hd]
      clear hwi
      exact Ev.if_pos (by omega) (Ev.now _)
theorem few_l1 {L:List Mad} {x13:Int} {x14:Int} {B:List (List RlM)} {P:Prop} (hB:B.length≤1000) (hk:∃b,Ev (fun k=>florinlaw06_Few.l0 k L x13 (wrap64 (x14+1))) b∧(b=true→P)):∀(zs:List (List RlM)) (i:Nat),B.drop i=zs →
    ∃b,Ev (fun k=>florinlaw06_Few.l1 k L x13 x14 B (B.length:Int) (i:Int)) b∧(b=true→(∀a∈zs,FewA a)∧P)
  | [],i,hd=>by
    have hle:=drop_nil_le hd
    obtain⟨b,h1,h2⟩:=hk
    exact⟨b,Ev.step (fun k=>florinlaw06_Few.l1.eq_2 ..) (Ev.if_neg (by omega) h1),fun e=>⟨by simp,h2 e⟩⟩
  | z::zs,i,hd=>by
    obtain⟨_,hi,hd2⟩:=getD_drop z hd
    have c1:(i:Int)<(B.length:Int):=by omega
    have c2:(0:Int)≤(i:Int):=by omega
    have hwi:=w_succ (i:=i) (by omega)
    by_cases h5:z.length≤4
    · have ih:=few_l1 hB hk zs (i+1) hd2
      rw[← hwi] at ih
      clear hwi
      obtain⟨b,h1,h2⟩:=few_l2 (L:=L) (x13:=x13) (x14:=x14) (B:=B) (x24:=(B.length:Int)) (x25:=(i:Int)) (A:=z) (by omega) ih z 0 rfl
      refine⟨b,Ev.step (fun k=>florinlaw06_Few.l1.eq_2 ..) (Ev.if_pos c1 (Ev.if_pos c2 (Ev.if_pos c1 ?_))),fun e=>⟨fun r hr=>?_,(h2 e).2.2⟩⟩
      · rw[rdA hd]
        exact Ev.if_neg (by omega) h1
      · rcases List.mem_cons.1 hr with rfl|hr
        · exact⟨h5,(h2 e).1⟩
        · exact(h2 e).2.1 r hr
    · refine⟨false,Ev.step (fun k=>florinlaw06_Few.l1.eq_2 ..) (Ev.if_pos c1 (Ev.if_pos c2 (Ev.if_pos c1 ?_))),fun e=>by cases e⟩
      rw[rdA hd]
      clear hwi
      exact Ev.if_pos (by omega) (Ev.now _)
theorem few_l0 {L:List Mad} (hL:L.length≤1000):∀(zs:List Mad) (i:Nat),L.drop i=zs →
    ∃b,Ev (fun k=>florinlaw06_Few.l0 k L (L.length:Int) (i:Int)) b∧(b=true→∀m∈zs,FewM m)
  | [],i,hd=>by
    have hle:=drop_nil_le hd
    exact⟨true,Ev.step (fun k=>florinlaw06_Few.l0.eq_2 ..) (Ev.if_neg (by omega) (Ev.now _)),fun e=>by simp⟩
  | z::zs,i,hd=>by
    obtain⟨_,hi,hd2⟩:=getD_drop z hd
    have c1:(i:Int)<(L.length:Int):=by omega
    have c2:(0:Int)≤(i:Int):=by omega
    have hwi:=w_succ (i:=i) (by omega)
    by_cases h5:z.f3.length≤4
    · have ih:=few_l0 hL zs (i+1) hd2
      rw[← hwi] at ih
      clear hwi
      obtain⟨b,h1,h2⟩:=few_l1 (L:=L) (x13:=(L.length:Int)) (x14:=(i:Int)) (B:=z.f3) (by omega) ih z.f3 0 rfl
      refine⟨b,Ev.step (fun k=>florinlaw06_Few.l0.eq_2 ..) (Ev.if_pos c1 (Ev.if_pos c2 (Ev.if_pos c1 ?_))),fun e r hr=>?_⟩
      · rw[rdM hd]
        exact Ev.if_neg (by omega) h1
      · rcases List.mem_cons.1 hr with rfl|hr
        · exact⟨h5,(h2 e).1⟩
        · exact(h2 e).2 r hr
    · refine⟨false,Ev.step (fun k=>florinlaw06_Few.l0.eq_2 ..) (Ev.if_pos c1 (Ev.if_pos c2 (Ev.if_pos c1 ?_))),fun e=>by cases e⟩
      rw[rdM hd]
      clear hwi
      exact Ev.if_pos (by omega) (Ev.now _)
theorem few_ev (ms:List Mad):∃b,Ev (fun k=>florinlaw06_Few.f k ms) b∧(b=true→FewL ms):=by
  unfold florinlaw06_Few.f
  by_cases h8:ms.length≤8
  · obtain⟨b,h1,h2⟩:=few_l0 (L:=ms) (by omega) ms 0 rfl
    exact⟨b,Ev.if_neg (by omega) h1,fun e=>⟨h8,h2 e⟩⟩
  · exact⟨false,Ev.if_pos (by omega) (Ev.now _),fun e=>by cases e⟩
end RR
end Go.Proofs.YtadagjgkanlmdaaGreatDoor.P
namespace Go.Proofs.YtadagjgkanlmdaaGreatDoor.P
open Go.RowKit Go.Proofs.YtadagjgkanlmdaaGreatDoorW.PrintWords Go.Proofs.YtadagjgkanlmdaaGreatDoorW.PrintLast Go.Proofs.YtadagjgkanlmdaaGreatDoorW.PrintMore Go.Proofs.YtadagjgkanlmdaaGreatDoor.FM
set_option linter.unusedVariables false

theorem TrimRight_zero (l:List UInt8) (hl:l.length≤9223372036854775807):strings_TrimRight.f (S l) (⟨#[48]⟩:ByteArray)=some (S (tr l)):=by
  unfold strings_TrimRight.f
  rw[dif_pos (by rfl),_root_.if_pos ⟨by decide,by rw[S_size];exact hl⟩]
  rfl
end Go.Proofs.YtadagjgkanlmdaaGreatDoor.P
