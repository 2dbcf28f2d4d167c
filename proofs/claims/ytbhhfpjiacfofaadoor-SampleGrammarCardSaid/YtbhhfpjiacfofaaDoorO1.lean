import Derived.Test.YtbhhfpjiacfofaaDoorSA
import Derived.Test.YtbhhfpjiacfofaaDoorPx2
import Derived.Test.YtbhhfpjiacfofaaDoorPx3
import Derived.Test.YtbhhfpjiacfofaaDoorPx4
namespace Go.Proofs.YtbhhfpjiacfofaaDoor.P
open Go.RowKit Go.Proofs.YtbhhfpjiacfofaaDoorW.PrintWords Go.Proofs.YtbhhfpjiacfofaaDoorW.PrintLast Go.Proofs.YtbhhfpjiacfofaaDoorW.PrintMore Go.Proofs.YtbhhfpjiacfofaaDoor.FM
set_option linter.unusedVariables false
set_option linter.unusedSimpArgs false

theorem indexByte_mem (l:List UInt8) (c:UInt8):(Lib.indexByte l c≥0)↔c∈l:=by
  induction l with
  | nil=>simp[Lib.indexByte]
  | cons b l ih =>
    unfold Lib.indexByte
    have h:=Lib.indexByte_ge l c
    by_cases h1:b=c
    · subst h1;simp
    · rw[_root_.if_neg (by simpa using h1)]
      by_cases h2:Lib.indexByte l c= -1
      · rw[_root_.if_pos (by simpa using h2)]
        have h3:¬c∈l:=fun hc=>by have:=ih.2 hc;omega
        simp[h3,Ne.symm h1]
      · rw[_root_.if_neg (by simpa using h2)]
        have h3:c∈l:=ih.1 (by omega)
        simp[h3];omega
theorem toUInt8_toNat (c:UInt8):((c.toNat:Int)).toNat.toUInt8=c:=by
  rw[Int.toNat_natCast];simp

theorem S_drop (l:List UInt8) (n:Nat):(S l).extract n (S l).size=S (l.drop n):=by rw[S_extract,S_size,List.take_length]
theorem dropWhile_none {p:UInt8→Bool}:∀l:List UInt8,(∀c∈l,p c=true)→l.dropWhile p=[]
  | [],_=>rfl
  | c::l,h=>by
    rw[List.dropWhile_cons_of_pos (h c List.mem_cons_self)]
    exact dropWhile_none l (fun d hd=>h d (List.mem_cons_of_mem _ hd))
/-- a text parted at the first one of some bytes -/
def cutL (l some':List UInt8):List UInt8 × List UInt8 × Bool :=
  match l.dropWhile (fun c=>¬c∈some') with
  | []=>(l,[],false)
  | _::t=>(l.takeWhile (fun c=>¬c∈some'),t,true)
theorem cutL_nil (s:List UInt8):cutL [] s=([],[],false):=rfl
theorem cutL_cons (c:UInt8) (l s:List UInt8):cutL (c::l) s=if c∈s then ([],l,true) else if (cutL l s).2.2=true then (c::(cutL l s).1,(cutL l s).2.1,true) else (c::l,[],false):=by
  unfold cutL
  by_cases h:c∈s
  · rw[List.dropWhile_cons_of_neg (by simpa using h),List.takeWhile_cons_of_neg (by simpa using h),_root_.if_pos h]
  · rw[List.dropWhile_cons_of_pos (by simpa using h),List.takeWhile_cons_of_pos (by simpa using h),_root_.if_neg h]
    cases l.dropWhile (fun c=>¬c∈s) with
    | nil=>simp
    | cons d t=>simp
theorem cut_loop (l s:List UInt8) (hl:l.length≤1000000000000) (d:Nat):∀i:Nat,i+d=l.length→(∀c∈l.take i,¬c∈s) →
    Ev (fun k=>operand_cut.l0 k (S l) (S s) (l.length:Int) (i:Int)) (S (cutL l s).1,S (cutL l s).2.1,(cutL l s).2.2):=by
  induction d with
  | zero =>
    intro i hi hno
    obtain rfl:i=l.length:=by omega
    rw[List.take_length] at hno
    have e:l.dropWhile (fun c=>¬c∈s)=[]:=dropWhile_none l (fun c hc=>by simpa using hno c hc)
    refine Ev.step (f:=fun k=>some (S l,S [],false)) (fun k=>?_) ?_
    · rw[operand_cut.l0,_root_.if_neg (by omega)];rfl
    · unfold cutL;rw[e];exact Ev.now _
  | succ d ih =>
    intro i hi hno
    have hlt:i<l.length:=by omega
    have hbt:bt (S l) (i:Int)=(l[i].toNat:Int):=by
      rw[bt_S,Int.toNat_natCast,List.getD_eq_getElem?_getD,List.getElem?_eq_getElem hlt];rfl
    have hix:strings_IndexByte.f (S s) (bt (S l) (i:Int))=some (Lib.indexByte s l[i]):=by
      unfold strings_IndexByte.f;rw[S_data,hbt,toUInt8_toNat]
    by_cases hc:l[i]∈s
    · have e:l=l.take i++l[i]::l.drop (i+1):=by rw[List.getElem_cons_drop,List.take_append_drop]
      have e1:l.dropWhile (fun c=>¬c∈s)=l[i]::l.drop (i+1):=by
        conv=>lhs;rw[e]
        rw[List.dropWhile_append_of_pos (by intro c hc';simpa using hno c hc'),List.dropWhile_cons_of_neg (by simpa using hc)]
      have e2:l.takeWhile (fun c=>¬c∈s)=l.take i:=by
        conv=>lhs;rw[e]
        rw[List.takeWhile_append_of_pos (by intro c hc';simpa using hno c hc'),List.takeWhile_cons_of_neg (by simpa using hc),List.append_nil]
      refine Ev.step (f:=fun k=>some (S (l.take i),S (l.drop (i+1)),true)) (fun k=>?_) ?_
      · rw[operand_cut.l0,_root_.if_pos (by omega),_root_.if_pos (by omega),_root_.if_pos (by rw[S_size];omega),hix,Option.bind_some,_root_.if_pos ((indexByte_mem s l[i]).2 hc),inc64 (by omega),S_size,_root_.if_pos (by omega),_root_.if_pos (by omega),_root_.if_pos (by omega),S_extract,S_extract,Int.toNat_natCast,Int.toNat_natCast,List.drop_zero,List.take_length]
      · unfold cutL;rw[e1,e2];exact Ev.now _
    · refine Ev.step (f:=fun k=>operand_cut.l0 k (S l) (S s) (l.length:Int) ((i+1:Nat):Int)) (fun k=>?_) (ih (i+1) (by omega) ?_)
      · rw[operand_cut.l0,_root_.if_pos (by omega),_root_.if_pos (by omega),_root_.if_pos (by rw[S_size];omega),hix,Option.bind_some,_root_.if_neg (fun h=>hc ((indexByte_mem s l[i]).1 h)),inc64 (by omega)]
      · intro c h
        rw[List.take_succ_eq_append_getElem hlt,List.mem_append,List.mem_singleton] at h
        rcases h with h|rfl
        · exact hno c h
        · exact hc
theorem cut_ev (l s:List UInt8) (hl:l.length≤1000000000000):Ev (fun k=>operand_cut.f k (S l) (S s)) (S (cutL l s).1,S (cutL l s).2.1,(cutL l s).2.2):=by
  unfold operand_cut.f
  exact cut_loop l s hl l.length 0 (by omega) (by simp)
/-- the point moved: how many places, of how many digits behind it -/
def ofE (e:Int):Nat:=min e.toNat 10000
def ofN (b:List UInt8) (e:Int):Nat:=min (ofE e) b.length
def ofInt (a b:List UInt8) (e:Int):Nat:=nvl (a++b.take (ofN b e))*10 ^ (ofE e-ofN b e)
theorem OpOf_ev (neg:Bool) (a b:List UInt8) (la:a.length≤10000000000) (lb:b.length≤10000000000) (da:Dig a) (db:Dig b) (e:Int) :
    Ev (fun k=>operand_Of.f k neg (S a) (S b) e) (S (mkl (ofInt a b e)),S (b.drop (ofN b e)),(ofE e:Int)):=by
  have hE:mn (mx e 0) 10000=(ofE e:Int):=by
    unfold mn mx ofE
    repeat' split
    all_goals omega
  have hN:mn (mn (mx e 0) 10000) ((S b).size:Int)=(ofN b e:Int):=by
    rw[hE,S_size];unfold mn ofN;split <;> omega
  have hle:ofN b e≤ofE e:=by unfold ofN;omega
  have hle2:ofN b e≤b.length:=by unfold ofN;omega
  have hE2:ofE e≤10000:=by unfold ofE;omega
  unfold operand_Of.f
  rw[hN,hE]
  obtain⟨E,hEE⟩:∃E,ofE e=E:=⟨_,rfl⟩
  obtain⟨n,hnn⟩:∃n,ofN b e=n:=⟨_,rfl⟩
  have hI:ofInt a b e=nvl (a++b.take n)*10 ^ (E-n):=by unfold ofInt;rw[hEE,hnn]
  rw[hI]
  rw[hEE] at hle hE2 ⊢
  rw[hnn] at hle hle2 ⊢
  have hz:num_Zeros.f ((E:Int)-(n:Int))=some (S (zs (E-n))):=by
    rw[Zeros_ev,show min ((E:Int)-(n:Int)).toNat 60000=E-n by omega]
  by_cases h:(n:Int)>0
  · refine Ev.if_pos h (Ev.if_pos (by omega) (Ev.if_pos (by rw[S_size];omega) ?_))
    rw[Int.toNat_natCast,S_drop,S_extract,List.drop_zero]
    refine Ev.if_pos (by rw[S_size,S_size,List.length_take];omega) ?_
    refine Ev.const hz ?_
    rw[S_append]
    refine Ev.if_pos (by rw[S_size,S_size,zs_length,List.length_append,List.length_take];omega) ?_
    rw[S_append]
    have ht:=Trim_dig (a++b.take n++zs (E-n)) (by rw[List.length_append,List.length_append,zs_length,List.length_take];omega) ((da.append (db.take n)).append (dig_zs _))
    rw[nvl_append_zs] at ht
    exact Ev.bind ht (Ev.now _)
  · obtain rfl:n=0:=by omega
    refine Ev.if_neg h ?_
    have hz0:num_Zeros.f (E:Int)=some (S (zs E)):=by
      rw[Zeros_ev,show min (E:Int).toNat 60000=E by omega]
    refine Ev.const hz0 (Ev.if_pos (by rw[S_size,S_size,zs_length];omega) ?_)
    rw[S_append]
    have ht:=Trim_dig (a++zs E) (by rw[List.length_append,zs_length];omega) (da.append (dig_zs _))
    rw[nvl_append_zs] at ht
    refine Ev.bind ht ?_
    rw[List.take_zero,List.append_nil,List.drop_zero,Nat.sub_zero]
    exact Ev.now _
/-- is a text a sample's number? -/
def readOk (l:List UInt8):Prop :=
  (cutL (cutL l [99,101]).1 [46]).1≠[]∧((cutL (cutL l [99,101]).1 [46]).2.2=true→(cutL (cutL l [99,101]).1 [46]).2.1≠[])∧((cutL l [99,101]).2.2=true→(cutL l [99,101]).2.1≠[]) ∧
  Dig (cutL (cutL l [99,101]).1 [46]).1∧Dig (cutL (cutL l [99,101]).1 [46]).2.1∧Dig (cutL l [99,101]).2.1
def rdW (l:List UInt8):List UInt8:=(cutL (cutL l [99,101]).1 [46]).1
def rdP (l:List UInt8):List UInt8:=(cutL (cutL l [99,101]).1 [46]).2.1
def rdE (l:List UInt8):List UInt8:=(cutL l [99,101]).2.1
theorem cutL_len (l s:List UInt8):(cutL l s).1.length≤l.length∧(cutL l s).2.1.length≤l.length:=by
  induction l with
  | nil=>simp[cutL_nil]
  | cons c l ih =>
    rw[cutL_cons]
    by_cases h:c∈s
    · rw[_root_.if_pos h];simp
    · rw[_root_.if_neg h]
      split
      · simp;omega
      · simp
theorem Read_gen (l:List UInt8) (hl:l.length≤100000) (r:ByteArray × ByteArray × Int × Int)
    (hbad:¬readOk l→Ev (fun k=>operand_Read.j0 k (S (rdE l)) (S (rdW l)) (S (rdP l)) true) r)
    (hgood:readOk l→Ev (fun k=>operand_Read.j0 k (S (rdE l)) (S (rdW l)) (S (rdP l)) false) r):Ev (fun k=>operand_Read.f k (S l)) r:=by
  have h1:=cutL_len l [99,101]
  have h2:=cutL_len (cutL l [99,101]).1 [46]
  unfold operand_Read.f
  refine Ev.bind (cut_ev l [99,101] (by omega)) (Ev.bind (cut_ev (cutL l [99,101]).1 [46] (by omega)) ?_)
  unfold readOk at hbad hgood
  unfold rdE rdW rdP at hbad hgood
  obtain⟨w,hw⟩:∃w,(cutL (cutL l [99,101]).1 [46]).1=w:=⟨_,rfl⟩
  obtain⟨p,hp⟩:∃p,(cutL (cutL l [99,101]).1 [46]).2.1=p:=⟨_,rfl⟩
  obtain⟨pt,hpt⟩:∃b,(cutL (cutL l [99,101]).1 [46]).2.2=b:=⟨_,rfl⟩
  obtain⟨e,he⟩:∃e,(cutL l [99,101]).2.1=e:=⟨_,rfl⟩
  obtain⟨sh,hsh⟩:∃b,(cutL l [99,101]).2.2=b:=⟨_,rfl⟩
  have lw:w.length≤1000000000000:=by rw[← hw];omega
  have lp:p.length≤1000000000000:=by rw[← hp];omega
  have le:e.length≤1000000000000:=by rw[← he];omega
  rw[hw,hp,hpt,he,hsh] at hbad hgood ⊢
  clear h1 h2
  simp only[S_toList]
  have isx:∀x:List UInt8,x.length≤1000000000000→Ev (fun k=>num_Is.f k (S x)) (decide (Dig x)):=fun x hx=>Is_ev x hx
  have chain:(w≠[]∧(pt=true→p≠[])∧(sh=true→e≠[]))→Ev (fun k=>(num_Is.f k (S w)).bind fun t=>if t=true then (num_Is.f k (S p)).bind fun t=>if t=true then (num_Is.f k (S e)).bind fun t=>operand_Read.j0 k (S e) (S w) (S p) (!t) else operand_Read.j0 k (S e) (S w) (S p) true else operand_Read.j0 k (S e) (S w) (S p) true) r:=by
    intro hh
    refine Ev.bind (isx w lw) ?_
    by_cases dw:Dig w
    · rw[decide_eq_true dw]
      refine Ev.if_pos rfl (Ev.bind (isx p lp) ?_)
      by_cases dp:Dig p
      · rw[decide_eq_true dp]
        refine Ev.if_pos rfl (Ev.bind (isx e le) ?_)
        by_cases de:Dig e
        · rw[decide_eq_true de]
          exact hgood ⟨hh.1,hh.2.1,hh.2.2,dw,dp,de⟩
        · rw[decide_eq_false de]
          exact hbad (fun h=>de h.2.2.2.2.2)
      · rw[decide_eq_false dp]
        exact Ev.if_neg (by decide) (hbad (fun h=>dp h.2.2.2.2.1))
    · rw[decide_eq_false dw]
      exact Ev.if_neg (by decide) (hbad (fun h=>dw h.2.2.2.1))
  by_cases w0:w=[]
  · exact Ev.if_pos w0 (hbad (fun h=>h.1 w0))
  refine Ev.if_neg w0 ?_
  cases pt with
  | true =>
    refine Ev.if_pos rfl ?_
    by_cases p0:p=[]
    · exact Ev.if_pos p0 (hbad (fun h=>h.2.1 rfl p0))
    refine Ev.if_neg p0 ?_
    cases sh with
    | true =>
      refine Ev.if_pos rfl ?_
      by_cases e0:e=[]
      · exact Ev.if_pos e0 (hbad (fun h=>h.2.2.1 rfl e0))
      exact Ev.if_neg e0 (chain ⟨w0,fun _=>p0,fun _=>e0⟩)
    | false=>exact Ev.if_neg (by decide) (chain ⟨w0,fun _=>p0,fun h=>by cases h⟩)
  | false =>
    refine Ev.if_neg (by decide) ?_
    cases sh with
    | true =>
      refine Ev.if_pos rfl ?_
      by_cases e0:e=[]
      · exact Ev.if_pos e0 (hbad (fun h=>h.2.2.1 rfl e0))
      exact Ev.if_neg e0 (chain ⟨w0,fun h=>by (cases h),fun _=>e0⟩)
    | false=>exact Ev.if_neg (by decide) (chain ⟨w0,fun h=>by (cases h),fun h=>by cases h⟩)
theorem Read_bad (l:List UInt8) (hl:l.length≤100000) (h:¬readOk l):Ev (fun k=>operand_Read.f k (S l)) (S [],S [],0,1):=by
  refine Read_gen l hl _ (fun _=>?_) (fun h'=>absurd h' h)
  refine Ev.step (f:=fun k=>some (S [],S [],0,1)) (fun k=>?_) (Ev.now _)
  rw[operand_Read.j0,_root_.if_pos rfl];rfl
theorem Read_long (l:List UInt8) (hl:l.length≤100000) (h:readOk l) (hlong:10000<nvl (rdE l)∨1000<(rdW l).length+(rdP l).length):Ev (fun k=>operand_Read.f k (S l)) (S [],S [],0,2):=by
  have h1:=cutL_len l [99,101]
  have h2:=cutL_len (cutL l [99,101]).1 [46]
  refine Read_gen l hl _ (fun h'=>absurd h h') (fun _=>?_)
  refine Ev.step (fun k=>(by rw[operand_Read.j0,_root_.if_neg (by decide)])) ?_
  have le:Sm (rdE l):=sm_le (n:=100000) (by unfold rdE;omega) (by omega)
  rcases Nat.lt_or_ge (nvl (rdE l)) (10 ^ 18) with h18|h18
  · refine Ev.bind (Int_ev (rdE l) le h.2.2.2.2.2 h18) (Ev.if_pos rfl ?_)
    by_cases h3:(nvl (rdE l):Int)>10000
    · exact Ev.if_pos h3 (Ev.now _)
    · refine Ev.if_neg h3 (Ev.if_pos ?_ (Ev.now _))
      rw[S_size,S_size,w64 (by omega) (by unfold rdW rdP;omega)]
      omega
  · exact Ev.bind (Int_long (rdE l) le h.2.2.2.2.2 h18) (Ev.if_neg (by decide) (Ev.now _))
theorem Read_ok (l:List UInt8) (hl:l.length≤100000) (h:readOk l) (h1:nvl (rdE l)≤10000) (h2:(rdW l).length+(rdP l).length≤1000) :
    Ev (fun k=>operand_Read.f k (S l)) (S (mkl (ofInt (rdW l) (rdP l) (nvl (rdE l):Int))),S ((rdP l).drop (ofN (rdP l) (nvl (rdE l):Int))),(ofE (nvl (rdE l):Int):Int),0):=by
  have h3:=cutL_len l [99,101]
  refine Read_gen l hl _ (fun h'=>absurd h h') (fun _=>?_)
  refine Ev.step (fun k=>(by rw[operand_Read.j0,_root_.if_neg (by decide)])) ?_
  have le:Sm (rdE l):=sm_le (n:=100000) (by unfold rdE;omega) (by omega)
  refine Ev.bind (Int_ev (rdE l) le h.2.2.2.2.2 (Nat.lt_of_le_of_lt h1 (by decide))) (Ev.if_pos rfl (Ev.if_neg (by omega) (Ev.if_neg ?_ ?_)))
  · rw[S_size,S_size,w64 (by omega) (by omega)];omega
  · exact Ev.bind (OpOf_ev false (rdW l) (rdP l) (by omega) (by omega) h.2.2.2.1 h.2.2.2.2.1 _) (Ev.now _)
end Go.Proofs.YtbhhfpjiacfofaaDoor.P
