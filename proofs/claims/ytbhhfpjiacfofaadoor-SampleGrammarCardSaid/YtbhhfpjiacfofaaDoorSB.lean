import Derived.Test.YtbhhfpjiacfofaaDoorO1
import Derived.Test.YtbhhfpjiacfofaaDoorMA
import Derived.Test.YtbhhfpjiacfofaaDoorPx10
import Derived.Test.YtbhhfpjiacfofaaDoorPx11
import Derived.Test.YtbhhfpjiacfofaaDoorPx2
import Derived.Test.YtbhhfpjiacfofaaDoorPx3
import Derived.Test.YtbhhfpjiacfofaaDoorPx4
import Derived.Test.YtbhhfpjiacfofaaDoorPx5
import Derived.Test.YtbhhfpjiacfofaaDoorPx6
import Derived.Test.YtbhhfpjiacfofaaDoorPx7
import Derived.Test.YtbhhfpjiacfofaaDoorPx9
import Derived.Test.YtbhhfpjiacfofaaDoorSA
namespace Go.Proofs.YtbhhfpjiacfofaaDoor.P
open Go.RowKit Go.Proofs.YtbhhfpjiacfofaaDoorW.PrintWords Go.Proofs.YtbhhfpjiacfofaaDoorW.PrintLast Go.Proofs.YtbhhfpjiacfofaaDoorW.PrintMore Go.Proofs.YtbhhfpjiacfofaaDoor.FM
set_option linter.unusedVariables false
set_option linter.unusedSimpArgs false
/-! samples' texts: what is left of the text; numbers, and the steps from one to another -/
namespace SR
open RG (sk tk)
def ps (l t:List UInt8):Int:=(l.length:Int)-(t.length:Int)
theorem ps_len (l:List UInt8):ps l l=0:=by unfold ps;omega
theorem bt_suf {l u:List UInt8} {c:UInt8} (h:(c::u) <:+ l):bt (S l) (ps l (c::u))=(c.toNat:Int):=by
  obtain⟨p,rfl⟩:=h
  have:(ps (p++c::u) (c::u)).toNat=p.length:=by unfold ps;rw[List.length_append];omega
  rw[bt_S,this,List.getD_eq_getElem?_getD,List.getElem?_append_right (Nat.le_refl _),Nat.sub_self];rfl
theorem ext_suf {l t:List UInt8} (h:t <:+ l):(S l).extract (ps l t).toNat (S l).size=S t:=by
  obtain⟨p,rfl⟩:=h
  have:(ps (p++t) t).toNat=p.length:=by unfold ps;rw[List.length_append];omega
  rw[this,S_size,S_extract,List.take_length,List.drop_left]
theorem ext_pre {l t w u:List UInt8} (h:t <:+ l) (e:t=w++u):(S l).extract (ps l t).toNat (ps l u).toNat=S w:=by
  obtain⟨p,rfl⟩:=h
  subst e
  have h1:(ps (p++(w++u)) (w++u)).toNat=p.length:=by unfold ps;rw[List.length_append];omega
  have h2:(ps (p++(w++u)) u).toNat=(p++w).length:=by unfold ps;simp only[List.length_append];omega
  rw[h1,h2,S_extract, ← List.append_assoc,List.take_left,List.drop_left]
theorem suf_tail {l u:List UInt8} {c:UInt8} (h:(c::u) <:+ l):u <:+ l:=(List.suffix_cons c u).trans h
theorem ps_tail (l u:List UInt8) (c:UInt8):ps l (c::u)+1=ps l u:=by unfold ps;rw[List.length_cons];omega
theorem ps_app {l t w u:List UInt8} (e:t=w++u):ps l t+(w.length:Int)=ps l u:=by subst e;unfold ps;rw[List.length_append];omega
theorem ps_nn {l t:List UInt8} (h:t <:+ l):0≤ps l t:=by have:=h.length_le;unfold ps;omega
theorem ps_le (l t:List UInt8):ps l t≤l.length:=by unfold ps;omega
theorem sk_suf (t:List UInt8):sk t <:+ t:=List.dropWhile_suffix _
theorem tw_split (p:UInt8→Bool) (t:List UInt8):t=t.takeWhile p++t.drop (t.takeWhile p).length:=by
  have:=List.takeWhile_append_dropWhile (p:=p) (l:=t)
  have h2:t.drop (t.takeWhile p).length=t.dropWhile p:=by
    conv=>lhs;arg 2;rw[← this]
    exact List.drop_left
  rw[h2,this]
theorem tk_split {w t u:List UInt8} (h:tk w t=some u):sk t=w++u:=by
  unfold RG.tk at h
  split at h
  · rename_i hp
    obtain⟨v,hv⟩:=hp
    rw[← hv,List.drop_left] at h
    rw[← hv,Option.some.inj h]
  · cases h
theorem tk_suf {w t u:List UInt8} (h:tk w t=some u):u <:+ t:=by
  have:=tk_split h
  exact(List.suffix_append w u).trans (this▸sk_suf t)
abbrev Le (l:List UInt8):Prop:=l.length≤20000
section
variable {l:List UInt8}
theorem blanks_ev (hl:Le l):∀t:List UInt8,t <:+ l→Ev (fun k=>sample_reader_blanks.f k (S l) (ps l t)) (S l,ps l (sk t))
  | [],h=>by
    unfold sample_reader_blanks.f
    refine Ev.step (f:=fun _=>some (S l,ps l [])) (fun k=>?_) (Ev.now _)
    have:ps l []=l.length:=by unfold ps;simp
    rw[sample_reader_blanks.l0,this,S_size,_root_.if_neg (by omega)]
  | c::u,h=>by
    have hlen:=h.length_le
    rw[List.length_cons] at hlen
    have hp:ps l (c::u)=(l.length:Int)-(u.length+1:Nat):=by unfold ps;rw[List.length_cons]
    have hb:=bt_suf h
    by_cases hc:c=32
    · subst hc
      have ih:=blanks_ev hl u (suf_tail h)
      have e:sk (32::u)=sk u:=rfl
      rw[e]
      unfold sample_reader_blanks.f at ih ⊢
      refine Ev.step (fun k=>?_) ih
      rw[sample_reader_blanks.l0,S_size,_root_.if_pos (by omega),_root_.if_pos (by omega),hb,_root_.if_pos (show(((32:UInt8).toNat:Nat):Int)=32 from rfl),w64 (by omega) (by omega),ps_tail]
    · rw[RG.sk_cons_ne hc]
      unfold sample_reader_blanks.f
      refine Ev.step (f:=fun _=>some (S l,ps l (c::u))) (fun k=>?_) (Ev.now _)
      have h32:¬(c.toNat:Int)=32:=by
        intro e
        apply hc
        apply UInt8.toNat_inj.1
        show c.toNat=32
        omega
      rw[sample_reader_blanks.l0,S_size,_root_.if_pos (by omega),_root_.if_pos (by omega),hb,_root_.if_neg h32]
theorem pre_ev (a w:List UInt8):strings_HasPrefix.f (S a) (S w)=some (decide (w <+:a)):=by
  unfold strings_HasPrefix.f stringslite_HasPrefix.f
  rw[S_size,S_size]
  by_cases h:(a.length:Int)≥(w.length:Int)
  · rw[_root_.if_pos h,_root_.if_pos (by omega),_root_.if_pos (by omega),Option.bind_some]
    congr 1
    rw[Int.toNat_natCast,S_extract,List.drop_zero,S_toList,S_toList]
    by_cases hw:w <+:a
    · rw[decide_eq_true hw];rw[beq_iff_eq];exact(List.prefix_iff_eq_take.1 hw).symm
    · rw[decide_eq_false hw];rw[beq_eq_false_iff_ne];intro e;exact hw (List.prefix_iff_eq_take.2 e.symm)
  · rw[_root_.if_neg h,Option.bind_some]
    congr 1
    symm
    exact decide_eq_false (fun hw=>by have:=hw.length_le;omega)
theorem take_yes (hl:Le l) {t u w:List UInt8} (ht:t <:+ l) (h:tk w t=some u):Ev (fun k=>sample_reader_take.f k (S l) (ps l t) (S w)) (true,S l,ps l u):=by
  have h2:=(sk_suf t).trans ht
  have hs:=tk_split h
  have h3:u <:+ l:=by rw[hs] at h2;exact(List.suffix_append w u).trans h2
  unfold sample_reader_take.f
  refine Ev.bind (blanks_ev hl t ht) ?_
  dsimp only
  rw[ext_suf h2,S_size]
  refine Ev.if_pos (ps_nn h2) (Ev.if_pos (ps_le _ _) (Ev.const (pre_ev _ _) ?_))
  have hw:wrap64 (ps l (sk t)+((S w).size:Int))=ps l u:=by
    rw[S_size,ps_app hs];exact w64 (by have:=ps_nn h3;omega) (by have:=ps_le l u;omega)
  rw[hw]
  exact Ev.if_pos (decide_eq_true (by rw[hs];exact List.prefix_append _ _)) (Ev.now _)
theorem take_no (hl:Le l) {t w:List UInt8} (ht:t <:+ l) (h:tk w t=none):Ev (fun k=>sample_reader_take.f k (S l) (ps l t) (S w)) (false,S l,ps l (sk t)):=by
  have h2:=(sk_suf t).trans ht
  have hn:¬w <+:sk t:=by
    intro hp
    unfold RG.tk at h
    rw[_root_.if_pos hp] at h
    cases h
  unfold sample_reader_take.f
  refine Ev.bind (blanks_ev hl t ht) ?_
  dsimp only
  rw[ext_suf h2,S_size]
  refine Ev.if_pos (ps_nn h2) (Ev.if_pos (ps_le _ _) (Ev.const (pre_ev _ _) ?_))
  exact Ev.if_neg (by simpa using hn) (Ev.now _)
end
/-! a number's text -/
def numC:List UInt8:=[48,49,50,51,52,53,54,55,56,57,46,99,101]
def nc (c:UInt8):Bool:=decide (c∈numC)
def good (d:List UInt8):Prop:=readOk d∧nvl (rdE d)≤10000∧(rdW d).length+(rdP d).length≤1000
/-- what stands behind the point -/
def frac (d:List UInt8):List UInt8:=(rdP d).drop (ofN (rdP d) (nvl (rdE d):Int))
open Classical in
noncomputable def value (dec:Bool) (t:List UInt8):Except (RG.Er × List UInt8) (List UInt8 × List UInt8) :=
  if ¬readOk ((sk t).takeWhile nc) then .error (.form,sk t)
  else if ¬(nvl (rdE ((sk t).takeWhile nc))≤10000∧(rdW ((sk t).takeWhile nc)).length+(rdP ((sk t).takeWhile nc)).length≤1000) then .error (.long,sk t)
  else if dec=false∧frac ((sk t).takeWhile nc)≠[] then .error (.form,sk t)
  else .ok ((sk t).takeWhile nc,(sk t).drop ((sk t).takeWhile nc).length)
theorem value_is {dec:Bool} {t d u:List UInt8} (h:value dec t= .ok (d,u)):d=(sk t).takeWhile nc∧u=(sk t).drop d.length∧good d∧(dec=false→frac d=[]):=by
  unfold value at h
  split at h
  · cases h
  rename_i h1
  split at h
  · cases h
  rename_i h2
  split at h
  · cases h
  rename_i h3
  injection h with h
  injection h with e1 e2
  have h1':=Classical.not_not.1 h1
  have h2':=Classical.not_not.1 h2
  rw[e1] at h1' h2' h3 e2
  exact⟨e1.symm,e2.symm,⟨h1',h2'⟩,fun hd=>Classical.not_not.1 (fun hf=>h3 ⟨hd,hf⟩)⟩
section
variable {l:List UInt8}
theorem idx_nc {c:UInt8} {t:List UInt8} {u:List UInt8} (ht:t <:+ l) {w:List UInt8} (e:t=w++c::u) (hl:Le l) :
    wrap64 (ps l t+(w.length:Int))=ps l (c::u)∧0≤ps l (c::u)∧ps l (c::u)<(l.length:Int)∧strings_IndexByte.f (⟨#[48,49,50,51,52,53,54,55,56,57,46,99,101]⟩:ByteArray) (bt (S l) (ps l (c::u)))=some (Lib.indexByte numC c):=by
  have hsu:(c::u) <:+ l:=(by rw[e] at ht;exact(List.suffix_append w (c::u)).trans ht)
  have h0:=ps_nn hsu
  have h1:ps l (c::u)<(l.length:Int):=by unfold ps;rw[List.length_cons];omega
  refine⟨by rw[ps_app e];exact w64 (by omega) (by omega),h0,h1,?_⟩
  rw[bt_suf hsu]
  unfold strings_IndexByte.f
  rw[toUInt8_toNat]
  rfl
/-- the loop goes on to the number's end -/
theorem value_run (hl:Le l) (dec:Bool) {r:ByteArray × ByteArray × Int} {t:List UInt8} (ht:t <:+ l) (hj:Ev (fun k=>sample_reader_value.j1 k dec ((t.takeWhile nc).length:Int) (S l) (ps l t)) r):∀(w u:List UInt8),t=w++u→t.takeWhile nc=w++u.takeWhile nc→Ev (fun k=>sample_reader_value.l0 k dec (w.length:Int) (S l) (ps l t)) r
  | w,[],e,e2=>by
    have hw:wrap64 (ps l t+(w.length:Int))=l.length:=by
      have:=ht.length_le
      rw[e,List.append_nil] at this ⊢
      unfold ps;rw[w64 (by omega) (by omega)];omega
    refine Ev.step (fun k=>sample_reader_value.l0.eq_2 ..) (Ev.if_neg (by rw[hw,S_size];omega) ?_)
    rw[e2,List.takeWhile_nil,List.append_nil] at hj
    exact hj
  | w,c::u,e,e2=>by
    obtain⟨h1,h2,h3,h4⟩:=idx_nc ht e hl
    refine Ev.step (fun k=>sample_reader_value.l0.eq_2 ..) (Ev.if_pos (by rw[h1,S_size];exact h3) (Ev.if_pos (by rw[h1];exact h2) ?_))
    rw[h1]
    refine Ev.const h4 ?_
    by_cases hc:nc c=true
    · refine Ev.if_pos ((indexByte_mem numC c).2 (of_decide_eq_true hc)) ?_
      have ih:=value_run hl dec ht hj (w++[c]) u (by rw[e];simp) (by rw[e2,List.takeWhile_cons_of_pos hc];simp)
      rw[List.length_append,List.length_singleton] at ih
      have hwl:w.length≤l.length:=by have:=ht.length_le;rw[e,List.length_append] at this;omega
      have e3:wrap64 ((w.length:Int)+1)=((w.length+1:Nat):Int):=by rw[w64 (by omega) (by omega)];omega
      rw[e3]
      exact ih
    · refine Ev.if_neg (fun h=>hc (decide_eq_true ((indexByte_mem numC c).1 h))) ?_
      rw[e2,List.takeWhile_cons_of_neg hc,List.append_nil] at hj
      exact hj
theorem V_ev (o:ByteArray) (f:List UInt8) (e:Int):operand_Ops_V.f o (S f) e=some (f.length:Int):=by
  unfold operand_Ops_V.f
  rw[S_size]
theorem Read_good {d:List UInt8} (h:good d) (hl:d.length≤100000):Ev (fun k=>operand_Read.f k (S d)) (S (mkl (ofInt (rdW d) (rdP d) (nvl (rdE d):Int))),S (frac d),(ofE (nvl (rdE d):Int):Int),0):=Read_ok d hl h.1 h.2.1 h.2.2
theorem value_ok (hl:Le l) {dec:Bool} {t d u:List UInt8} (ht:t <:+ l) (h:value dec t= .ok (d,u)):u <:+ l∧Ev (fun k=>sample_reader_value.f k (S l) (ps l t) dec) (S d,S l,ps l u):=by
  have h2:=(sk_suf t).trans ht
  obtain⟨hd,hu,hg,hf⟩:=value_is h
  have hs:sk t=d++u:=by rw[hu,hd];exact tw_split nc (sk t)
  have h3:u <:+ l:=by rw[hs] at h2;exact(List.suffix_append d u).trans h2
  refine⟨h3,?_⟩
  have hw:wrap64 (ps l (sk t)+(d.length:Int))=ps l u:=by rw[ps_app hs];exact w64 (by have:=ps_nn h3;omega) (by have:=ps_le l u;omega)
  have hdl:d.length≤100000:=by have:=h2.length_le;rw[hs,List.length_append] at this;unfold Le at hl;omega
  unfold sample_reader_value.f
  refine Ev.bind (blanks_ev hl t ht) (value_run hl dec h2 ?_ [] (sk t) rfl rfl)
  rw[← hd]
  refine Ev.step (fun k=>sample_reader_value.j1.eq_2 ..) (Ev.if_pos (ps_nn h2) (Ev.if_pos (by rw[hw];have:=ps_app (l:=l) hs;omega) (Ev.if_pos (by rw[hw,S_size];exact ps_le _ _) ?_)))
  rw[hw,ext_pre h2 hs]
  refine Ev.bind (Read_good hg hdl) (Ev.if_pos rfl ?_)
  cases dec with
  | true=>exact Ev.if_pos rfl (Ev.now _)
  | false =>
    refine Ev.if_neg (by decide) (Ev.const (V_ev _ _ _) (Ev.if_neg ?_ (Ev.now _)))
    rw[hf rfl];decide
end
/-! steps -/
/-- a number's digits, and how many stand behind the point -/
def pl (s:List UInt8):List UInt8 × Nat:=((cutL s [46]).1++(cutL s [46]).2.1,(cutL s [46]).2.1.length)
open Classical in
noncomputable def steps (lo hi:List UInt8):Option Nat:=if Dig (pl lo).1∧Dig (pl hi).1∧(pl lo).2=(pl hi).2∧nvl (pl lo).1≤nvl (pl hi).1 then some (if nvl (pl hi).1-nvl (pl lo).1<10 ^ 18 then nvl (pl hi).1-nvl (pl lo).1 else 1000) else none
theorem pl_len (s:List UInt8):(pl s).1.length≤s.length∧(pl s).2≤(pl s).1.length:=by
  have:∀s:List UInt8,(cutL s [46]).1.length+(cutL s [46]).2.1.length≤s.length:=by
    intro s
    induction s with
    | nil=>simp[cutL_nil]
    | cons c s ih =>
      rw[cutL_cons]
      split
      · simp
      · split
        · simp only[List.length_cons];omega
        · simp
  unfold pl
  dsimp only
  rw[List.length_append]
  exact⟨this s,by omega⟩
theorem idx_cut:∀s:List UInt8,Lib.indexByte s 46=if (cutL s [46]).2.2=true then ((cutL s [46]).1.length:Int) else -1
  | []=>rfl
  | c::s=>by
    have ih:=idx_cut s
    by_cases hc:c=46
    · rw[cutL_cons,_root_.if_pos (show c∈([46]:List UInt8) by simpa using hc)]
      subst hc;rfl
    · have e1:Lib.indexByte (c::s) 46=if Lib.indexByte s 46= -1 then -1 else Lib.indexByte s 46+1:=by
        conv=>lhs;unfold Lib.indexByte
        rw[_root_.if_neg (by simpa using hc)]
        by_cases h:Lib.indexByte s 46= -1
        · rw[_root_.if_pos (by simpa using h),_root_.if_pos h]
        · rw[_root_.if_neg (by simpa using h),_root_.if_neg h]
      rw[e1,ih,cutL_cons,_root_.if_neg (show ¬c∈([46]:List UInt8) by simpa using hc)]
      by_cases h:(cutL s [46]).2.2=true
      · rw[_root_.if_pos h,_root_.if_pos h,_root_.if_pos rfl,_root_.if_neg (by omega)]
        dsimp only
        rw[List.length_cons];omega
      · rw[_root_.if_neg h,_root_.if_neg h]
        rfl
theorem cut_parts:∀s:List UInt8,((cutL s [46]).2.2=true→s=(cutL s [46]).1++46::(cutL s [46]).2.1)∧((cutL s [46]).2.2=false→(cutL s [46]).1=s∧(cutL s [46]).2.1=[])
  | []=>⟨fun h=>(by cases h),fun _=>⟨rfl,rfl⟩⟩
  | c::s=>by
    have ih:=cut_parts s
    rw[cutL_cons]
    by_cases hc:c∈([46]:List UInt8)
    · have hc':c=46:=by simpa using hc
      rw[_root_.if_pos hc]
      exact⟨fun _=>by rw[hc'];rfl,fun h=>by cases h⟩
    · rw[_root_.if_neg hc]
      by_cases h:(cutL s [46]).2.2=true
      · rw[_root_.if_pos h]
        refine⟨fun _=>?_,fun h=>by cases h⟩
        dsimp only
        rw[List.cons_append, ← ih.1 h]
      · rw[_root_.if_neg h]
        exact⟨fun h=>(by cases h),fun _=>⟨rfl,rfl⟩⟩
theorem strCut_ev {s:List UInt8} (hs:s.length≤100000):strings_Cut.f (S s) (⟨#[46]⟩:ByteArray)=some (S (cutL s [46]).1,S (cutL s [46]).2.1,(cutL s [46]).2.2):=by
  unfold strings_Cut.f stringslite_Cut.f
  have hi:stringslite_Index.f (S s) (⟨#[46]⟩:ByteArray)=some (Lib.indexByte s 46):=by
    unfold stringslite_Index.f
    rw[dif_pos (show(⟨#[46]⟩:ByteArray).size=1 from rfl)]
    rfl
  obtain⟨h1,h2⟩:=cut_parts s
  rw[hi,idx_cut,Option.bind_some,S_size]
  by_cases h:(cutL s [46]).2.2=true
  · have e:=h1 h
    have hlen:=congrArg List.length e
    rw[List.length_append,List.length_cons] at hlen
    rw[_root_.if_pos h,_root_.if_pos (by omega),_root_.if_pos (by omega),_root_.if_pos (by omega)]
    have e1:(((⟨#[46]⟩:ByteArray).size:Nat):Int)=1:=rfl
    rw[e1,w64 (by omega) (by omega),_root_.if_pos (by omega),_root_.if_pos (by omega),Option.bind_some]
    have t1:((cutL s [46]).1.length:Int).toNat=(cutL s [46]).1.length:=rfl
    have t2:(((cutL s [46]).1.length:Int)+1).toNat=(cutL s [46]).1.length+1:=by omega
    have x1:s.take (cutL s [46]).1.length=(cutL s [46]).1:=by
      conv=>lhs;arg 2;rw[e]
      rw[List.take_left]
    have x2:s.drop ((cutL s [46]).1.length+1)=(cutL s [46]).2.1:=by
      conv=>lhs;arg 2;rw[e]
      rw[show(cutL s [46]).1.length+1=((cutL s [46]).1++[46]).length by simp,show(cutL s [46]).1++46::(cutL s [46]).2.1=((cutL s [46]).1++[46])++(cutL s [46]).2.1 by simp,List.drop_left]
    rw[t1,t2,S_extract,S_extract,x1,List.drop_zero,show s.take s.length=s from List.take_length,x2,h]
  · have hf:(cutL s [46]).2.2=false:=by simpa using h
    obtain⟨e1,e2⟩:=h2 hf
    rw[_root_.if_neg h,_root_.if_neg (by omega),Option.bind_some,e1,e2,hf]
    rfl
end SR
end Go.Proofs.YtbhhfpjiacfofaaDoor.P
namespace Go.Proofs.YtbhhfpjiacfofaaDoor.P
open Go.RowKit Go.Proofs.YtbhhfpjiacfofaaDoorW.PrintWords Go.Proofs.YtbhhfpjiacfofaaDoorW.PrintLast Go.Proofs.YtbhhfpjiacfofaaDoorW.PrintMore Go.Proofs.YtbhhfpjiacfofaaDoor.FM
set_option linter.unusedVariables false
set_option linter.unusedSimpArgs false

namespace SR
def Ex {α β:Type} (a:Option α) (b:Option β):Prop:=a=none∨b=none
theorem Ex.l {α β:Type} (b:Option β):Ex (none:Option α) b:= .inl rfl
theorem Ex.r {α β:Type} (a:Option α):Ex a (none:Option β):= .inr rfl
theorem Ex.ite {α β:Type} {c:Prop} [Decidable c] {a b:Option α} {x y:Option β} (h1:Ex a x) (h2:Ex b y):Ex (if c then a else b) (if c then x else y):=by split;exact h1;exact h2
theorem Ex.bind {α β γ:Type} {X:Option γ} {f:γ→Option α} {g:γ→Option β} (h:∀t,Ex (f t) (g t)):Ex (X.bind f) (X.bind g):=by
  cases X with
  | none=>exact .inl rfl
  | some t=>exact h t
theorem Ex.orf {α β γ δ:Type} {X:Option γ} {Y:Option δ} {f:γ→Option α} {g:γ→Option β} {u:δ→Option β} (h0:Ex X Y) (h:∀t,Ex (f t) (g t)):Ex (X.bind f) (orf_ (Y.bind u) (X.bind g)):=by
  rcases h0 with h0|h0
  · subst h0;exact .inl rfl
  · subst h0
    exact Ex.bind h
theorem Ex.one {α β γ δ:Type} {X:Option γ} {Y:Option δ} {f:γ→Option α} {u:δ→Option β} (h0:Ex X Y):Ex (X.bind f) (Y.bind u):=by
  rcases h0 with h0|h0
  · subst h0;exact .inl rfl
  · subst h0;exact .inr rfl
theorem Ex.none {α β:Type} {a:Option α} {b:Option β} {r:α} (h:Ex a b) (ha:a=some r):b=Option.none:=by
  rcases h with h|h
  · rw[h] at ha;cases ha
  · exact h
theorem Ev.orfR {β γ δ:Type} {X:Nat→Option γ} {Y:Nat→Option δ} {v:γ} {r:β} {u:Nat→δ→Option β} {F:Nat→γ→Option β} (hx:Ev X v) (hex:∀k,Ex (X k) (Y k)) (h:Ev (fun k=>F k v) r):Ev (fun k=>orf_ ((Y k).bind (u k)) ((X k).bind (F k))) r:=by
  obtain⟨n1,h1⟩:=hx
  obtain⟨n2,h2⟩:=h
  refine⟨max n1 n2,fun k hk=>?_⟩
  have e1:=h1 k (by omega)
  have e2:=(hex k).none e1
  show orf_ ((Y k).bind (u k)) ((X k).bind (F k))=_
  rw[e2,e1]
  exact h2 k (by omega)
theorem value_exl:∀k,(∀a0 a1 a2 a3,Ex (sample_reader_value.j1 k a0 a1 a2 a3) (sample_reader_value_g.j1 k a0 a1 a2 a3))∧(∀a0 a1 a2 a3,Ex (sample_reader_value.l0 k a0 a1 a2 a3) (sample_reader_value_g.l0 k a0 a1 a2 a3)):=by
  intro k
  induction k with
  | zero=>exact⟨fun _ _ _ _=> .inl rfl,fun _ _ _ _=> .inl rfl⟩
  | succ k ih =>
    refine⟨?_,?_⟩
    · intro a0 a1 a2 a3
      rw[sample_reader_value.j1,sample_reader_value_g.j1]
      repeat' first|(with_reducible exact Ex.l _)|(with_reducible exact Ex.r _)|(with_reducible exact ih.1 _ _ _ _)|(with_reducible exact ih.2 _ _ _ _)|(with_reducible refine Ex.ite ?_ ?_)|(with_reducible refine Ex.bind (fun t=>?_))
    · intro a0 a1 a2 a3
      rw[sample_reader_value.l0,sample_reader_value_g.l0]
      repeat' first|(with_reducible exact Ex.l _)|(with_reducible exact Ex.r _)|(with_reducible exact ih.1 _ _ _ _)|(with_reducible exact ih.2 _ _ _ _)|(with_reducible refine Ex.ite ?_ ?_)|(with_reducible refine Ex.bind (fun t=>?_))
theorem value_ex:∀k a0 a1 a2,Ex (sample_reader_value.f k a0 a1 a2) (sample_reader_value_g.f k a0 a1 a2):=by
  intro k a0 a1 a2
  unfold sample_reader_value.f sample_reader_value_g.f
  repeat' first|(with_reducible exact Ex.l _)|(with_reducible exact Ex.r _)|(with_reducible exact(value_exl _).1 _ _ _ _)|(with_reducible exact(value_exl _).2 _ _ _ _)|(with_reducible refine Ex.ite ?_ ?_)|(with_reducible refine Ex.bind (fun t=>?_))
theorem item_ex:∀k a0 a1 a2,Ex (sample_reader_item.f k a0 a1 a2) (sample_reader_item_g.f k a0 a1 a2):=by
  intro k a0 a1 a2
  unfold sample_reader_item.f sample_reader_item_g.f
  repeat' first|(with_reducible exact Ex.l _)|(with_reducible exact Ex.r _)|(with_reducible refine Ex.orf (by first|exact value_ex _ _ _ _) (fun t=>?_))|(with_reducible refine Ex.one (by first|exact value_ex _ _ _ _))|(with_reducible refine Ex.ite ?_ ?_)|(with_reducible refine Ex.bind (fun t=>?_))
theorem set_exl:∀k,(∀a0 a1 a2 a3,Ex (sample_reader_set.j0 k a0 a1 a2 a3) (sample_reader_set_g.j0 k a0 a1 a2 a3))∧(∀a0 a1 a2 a3 a4,Ex (sample_reader_set.l0 k a0 a1 a2 a3 a4) (sample_reader_set_g.l0 k a0 a1 a2 a3 a4)):=by
  intro k
  induction k with
  | zero=>exact⟨fun _ _ _ _=> .inl rfl,fun _ _ _ _ _=> .inl rfl⟩
  | succ k ih =>
    refine⟨?_,?_⟩
    · intro a0 a1 a2 a3
      rw[sample_reader_set.j0,sample_reader_set_g.j0]
      repeat' first|(with_reducible exact Ex.l _)|(with_reducible exact Ex.r _)|(with_reducible exact ih.1 _ _ _ _)|(with_reducible exact ih.2 _ _ _ _ _)|(with_reducible refine Ex.orf (by first|exact value_ex _ _ _ _|exact item_ex _ _ _ _) (fun t=>?_))|(with_reducible refine Ex.one (by first|exact value_ex _ _ _ _|exact item_ex _ _ _ _))|(with_reducible refine Ex.ite ?_ ?_)|(with_reducible refine Ex.bind (fun t=>?_))
    · intro a0 a1 a2 a3 a4
      rw[sample_reader_set.l0,sample_reader_set_g.l0]
      repeat' first|(with_reducible exact Ex.l _)|(with_reducible exact Ex.r _)|(with_reducible exact ih.1 _ _ _ _)|(with_reducible exact ih.2 _ _ _ _ _)|(with_reducible refine Ex.orf (by first|exact value_ex _ _ _ _|exact item_ex _ _ _ _) (fun t=>?_))|(with_reducible refine Ex.one (by first|exact value_ex _ _ _ _|exact item_ex _ _ _ _))|(with_reducible refine Ex.ite ?_ ?_)|(with_reducible refine Ex.bind (fun t=>?_))
theorem set_ex:∀k a0 a1,Ex (sample_reader_set.f k a0 a1) (sample_reader_set_g.f k a0 a1):=by
  intro k a0 a1
  unfold sample_reader_set.f sample_reader_set_g.f
  repeat' first|(with_reducible exact Ex.l _)|(with_reducible exact Ex.r _)|(with_reducible exact(set_exl _).1 _ _ _ _)|(with_reducible exact(set_exl _).2 _ _ _ _ _)|(with_reducible refine Ex.orf (by first|exact value_ex _ _ _ _|exact item_ex _ _ _ _) (fun t=>?_))|(with_reducible refine Ex.one (by first|exact value_ex _ _ _ _|exact item_ex _ _ _ _))|(with_reducible refine Ex.ite ?_ ?_)|(with_reducible refine Ex.bind (fun t=>?_))
end SR
end Go.Proofs.YtbhhfpjiacfofaaDoor.P
namespace Go.Proofs.YtbhhfpjiacfofaaDoor.P
open Go.RowKit Go.Proofs.YtbhhfpjiacfofaaDoorW.PrintWords Go.Proofs.YtbhhfpjiacfofaaDoorW.PrintLast Go.Proofs.YtbhhfpjiacfofaaDoorW.PrintMore Go.Proofs.YtbhhfpjiacfofaaDoor.FM
set_option linter.unusedVariables false
set_option linter.unusedSimpArgs false
namespace SR
open RG (sk tk)
theorem plain_ev {s:List UInt8} (hs:Le s):Ev (fun k=>sample_plain.f k (S s)) (S (pl s).1,((pl s).2:Int),decide (Dig (pl s).1)):=by
  have hl:=(pl_len s).1
  unfold Le at hs
  unfold sample_plain.f
  refine Ev.const (strCut_ev (by omega)) ?_
  dsimp only
  rw[S_append]
  refine Ev.if_pos ?_ ?_
  · rw[S_size,S_size]
    unfold pl at hl
    dsimp only at hl
    rw[List.length_append] at hl
    omega
  refine Ev.bind (Is_ev _ (Nat.le_trans hl (by omega))) ?_
  exact Ev.now _
theorem steps_ev {lo hi:List UInt8} (h1:Le lo) (h2:Le hi):Ev (fun k=>sample_steps.f k (S lo) (S hi)) ((steps lo hi).elim (0,false) (fun n=>((n:Int),true))):=by
  have l1:=(pl_len lo).1
  have l2:=(pl_len hi).1
  have p1:=(pl_len lo).2
  have p2:=(pl_len hi).2
  unfold Le at *
  have bad:∀x,Ev (fun k=>sample_steps.j0 k x true) (0,false):=fun x=>by
    refine Ev.step (f:=fun _=>some (0,false)) (fun k=>?_) (Ev.now _)
    rw[sample_steps.j0,_root_.if_pos rfl]
  have sm1:Sm (pl lo).1:=by unfold Sm;omega
  have sm2:Sm (pl hi).1:=by unfold Sm;omega
  unfold sample_steps.f steps
  refine Ev.bind (plain_ev h1) (Ev.bind (plain_ev h2) ?_)
  dsimp only
  by_cases D1:Dig (pl lo).1
  · by_cases D2:Dig (pl hi).1
    · by_cases P:(pl lo).2=(pl hi).2
      · by_cases L:nvl (pl lo).1≤nvl (pl hi).1
        · rw[_root_.if_pos ⟨D1,D2,P,L⟩]
          refine Ev.bind (Sub_ev _ _ sm2 sm1 D2 D1 L) (Ev.if_pos (decide_eq_true D1) (Ev.if_pos (decide_eq_true D2) (Ev.if_pos (by rw[P]) ?_)))
          refine Ev.step (fun k=>sample_steps.j0.eq_2 ..) (Ev.if_neg Bool.false_ne_true ?_)
          have sm3:Sm (mkl (nvl (pl hi).1-nvl (pl lo).1)):=by
            have this:(mkl (nvl (pl hi).1-nvl (pl lo).1)).length≤(pl hi).1.length:=mkl_length_le.2 (Nat.lt_of_le_of_lt (Nat.sub_le _ _) (nvl_lt D2))
            unfold Sm;exact Nat.le_trans this (by omega)
          by_cases Q:nvl (pl hi).1-nvl (pl lo).1<10 ^ 18
          · rw[_root_.if_pos Q]
            refine Ev.bind (Int_ev _ sm3 (dig_mkl _) (by rw[nvl_mkl];exact Q)) (Ev.if_pos rfl ?_)
            rw[nvl_mkl]
            exact Ev.now _
          · rw[_root_.if_neg Q]
            refine Ev.bind (Int_long _ sm3 (dig_mkl _) (by rw[nvl_mkl];exact Nat.not_lt.1 Q)) (Ev.if_neg (by decide) ?_)
            exact Ev.now _
        · rw[_root_.if_neg (fun h=>L h.2.2.2)]
          exact Ev.bind (Sub_less _ _ sm2 sm1 D2 D1 (by omega)) (Ev.if_pos (decide_eq_true D1) (Ev.if_pos (decide_eq_true D2) (Ev.if_pos (by rw[P]) (bad _))))
      · rw[_root_.if_neg (fun h=>P h.2.2.1)]
        by_cases L:nvl (pl lo).1≤nvl (pl hi).1
        · exact Ev.bind (Sub_ev _ _ sm2 sm1 D2 D1 L) (Ev.if_pos (decide_eq_true D1) (Ev.if_pos (decide_eq_true D2) (Ev.if_neg (fun h=>P (by omega)) (bad _))))
        · exact Ev.bind (Sub_less _ _ sm2 sm1 D2 D1 (by omega)) (Ev.if_pos (decide_eq_true D1) (Ev.if_pos (decide_eq_true D2) (Ev.if_neg (fun h=>P (by omega)) (bad _))))
    · rw[_root_.if_neg (fun h=>D2 h.2.1)]
      exact Ev.bind (Sub_not _ _ sm2 sm1 (fun h=>D2 h.1)) (Ev.if_pos (decide_eq_true D1) (Ev.if_neg (by rw[decide_eq_false D2];decide) (bad _)))
  · rw[_root_.if_neg (fun h=>D1 h.1)]
    exact Ev.bind (Sub_not _ _ sm2 sm1 (fun h=>D1 h.2)) (Ev.if_neg (by rw[decide_eq_false D1];decide) (bad _))
/-! faults of a value -/
section
variable {l:List UInt8}
end
end SR
end Go.Proofs.YtbhhfpjiacfofaaDoor.P
namespace Go.Proofs.YtbhhfpjiacfofaaDoor.P
open Go.RowKit Go.Proofs.YtbhhfpjiacfofaaDoorW.PrintWords Go.Proofs.YtbhhfpjiacfofaaDoorW.PrintLast Go.Proofs.YtbhhfpjiacfofaaDoorW.PrintMore Go.Proofs.YtbhhfpjiacfofaaDoor.FM
set_option linter.unusedVariables false
set_option linter.unusedSimpArgs false
namespace SR
open RG (sk tk)
/-- what an item that was read is -/
def ItemOk (dec:Bool) (lo hi:List UInt8):Prop:=good lo∧(dec=false→frac lo=[])∧(hi=[]∨(good hi∧(dec=false→frac hi=[])∧∃n,steps lo hi=some n∧n<1000))
section
variable {l:List UInt8}
theorem val_len {dec:Bool} {t d u:List UInt8} (ht:t <:+ l) (h:value dec t= .ok (d,u)):d.length≤l.length∧u <:+ t:=by
  obtain⟨hd,hu,-,-⟩:=value_is h
  have h1:=((sk_suf t).trans ht).length_le
  have h2:d.length≤(sk t).length:=by rw[hd];exact(List.takeWhile_prefix _).length_le
  exact⟨by omega,hu▸(List.drop_suffix _ _).trans (sk_suf t)⟩
theorem item_one (hl:Le l) {dec:Bool} {t lo u:List UInt8} (ht:t <:+ l) (hv:value dec t= .ok (lo,u)) (hk:tk [126] u=none):Ev (fun k=>sample_reader_item.f k (S l) (ps l t) dec) (S lo,S [],S l,ps l (sk u)):=by
  obtain⟨h1,h2⟩:=value_ok hl ht hv
  unfold sample_reader_item.f
  exact Ev.bind h2 (Ev.bind (take_no (w:=[126]) hl h1 hk) (Ev.if_neg Bool.false_ne_true (Ev.now _)))
theorem item_two (hl:Le l) {dec:Bool} {t lo u v hi x:List UInt8} {n:Nat} (ht:t <:+ l) (hv:value dec t= .ok (lo,u)) (hk:tk [126] u=some v) (hw:value dec (sk v)= .ok (hi,x)) (hs:steps lo hi=some n) (hn:n<1000):Ev (fun k=>sample_reader_item.f k (S l) (ps l t) dec) (S lo,S hi,S l,ps l x):=by
  obtain⟨h1,h2⟩:=value_ok hl ht hv
  have h3:=(tk_suf hk).trans h1
  have h4:=(sk_suf v).trans h3
  obtain⟨h5,h6⟩:=value_ok hl h4 hw
  have h7:=steps_ev (Nat.le_trans (val_len ht hv).1 hl) (Nat.le_trans (val_len h4 hw).1 hl)
  rw[hs] at h7
  unfold sample_reader_item.f
  exact Ev.bind h2 (Ev.bind (take_yes (w:=[126]) hl h1 hk) (Ev.if_pos rfl (Ev.bind (blanks_ev hl v h3) (Ev.bind h6 (Ev.bind h7 (Ev.if_pos rfl (Ev.if_neg (by show ¬(n:Int)≥1000;omega) (Ev.now _))))))))
/-! the items of a set -/
abbrev It:=S37
theorem l0_end (hl:Le l) {dec m:Bool} {t:List UInt8} {acc:List It} (ht:t <:+ l) (h:tk [44] t=none):Ev (fun k=>sample_reader_set.l0 k (S l) (ps l t) dec acc m) (dec,acc,m,S l,ps l (sk t)) :=
  Ev.step (fun k=>sample_reader_set.l0.eq_2 ..) (Ev.bind (take_no (w:=[44]) hl ht h) (Ev.if_neg Bool.false_ne_true (Ev.now _)))
theorem l0_dots (hl:Le l) {dec m:Bool} {t u v:List UInt8} {acc:List It} (ht:t <:+ l) (h:tk [44] t=some u) (h2:tk [226,128,166] u=some v):Ev (fun k=>sample_reader_set.l0 k (S l) (ps l t) dec acc m) (dec,acc,true,S l,ps l v) :=
  Ev.step (fun k=>sample_reader_set.l0.eq_2 ..) (Ev.bind (take_yes (w:=[44]) hl ht h) (Ev.if_pos rfl (Ev.bind (take_yes (w:=[226,128,166]) hl ((tk_suf h).trans ht) h2) (Ev.if_pos rfl (Ev.now _)))))
theorem l0_dots3 (hl:Le l) {dec m:Bool} {t u v:List UInt8} {acc:List It} (ht:t <:+ l) (h:tk [44] t=some u) (h1:tk [226,128,166] u=none) (h2:tk [46,46,46] (sk u)=some v):Ev (fun k=>sample_reader_set.l0 k (S l) (ps l t) dec acc m) (dec,acc,true,S l,ps l v) :=
  Ev.step (fun k=>sample_reader_set.l0.eq_2 ..) (Ev.bind (take_yes (w:=[44]) hl ht h) (Ev.if_pos rfl (Ev.bind (take_no (w:=[226,128,166]) hl ((tk_suf h).trans ht) h1) (Ev.if_neg Bool.false_ne_true (Ev.bind (take_yes (w:=[46,46,46]) hl ((sk_suf u).trans ((tk_suf h).trans ht)) h2) (Ev.if_pos rfl (Ev.now _)))))))
theorem l0_item (hl:Le l) {dec m:Bool} {t u lo hi x:List UInt8} {acc:List It} {r:Bool × List It × Bool × ByteArray × Int} (ht:t <:+ l) (h:tk [44] t=some u) (h1:tk [226,128,166] u=none) (h2:tk [46,46,46] (sk u)=none) (hi_:Ev (fun k=>sample_reader_item.f k (S l) (ps l (sk (sk u))) dec) (S lo,S hi,S l,ps l x)) (ha:acc.length<100000) (hr:Ev (fun k=>sample_reader_set.l0 k (S l) (ps l x) dec (acc++[⟨S lo,S hi⟩]) false) r):Ev (fun k=>sample_reader_set.l0 k (S l) (ps l t) dec acc m) r :=
  Ev.step (fun k=>sample_reader_set.l0.eq_2 ..) (Ev.bind (take_yes (w:=[44]) hl ht h) (Ev.if_pos rfl (Ev.bind (take_no (w:=[226,128,166]) hl ((tk_suf h).trans ht) h1) (Ev.if_neg Bool.false_ne_true (Ev.bind (take_no (w:=[46,46,46]) hl ((sk_suf u).trans ((tk_suf h).trans ht)) h2) (Ev.if_neg Bool.false_ne_true (Ev.bind hi_ (Ev.if_pos (by omega) hr))))))))
/-- items that were read -/
def ItemsOk (dec:Bool) (xs:List It):Prop:=∀x∈xs,∃lo hi,x=⟨S lo,S hi⟩∧lo.length≤20000∧hi.length≤20000∧ItemOk dec lo hi
theorem ItemsOk.cons {dec:Bool} {lo hi:List UInt8} {xs:List It} (h:ItemOk dec lo hi) (h1:lo.length≤20000) (h2:hi.length≤20000) (hx:ItemsOk dec xs):ItemsOk dec (⟨S lo,S hi⟩::xs):=by
  intro x hm
  rcases List.mem_cons.1 hm with rfl|hm
  · exact⟨lo,hi,rfl,h1,h2,h⟩
  · exact hx x hm
/-! a set -/
def wInt:List UInt8:=[64,105,110,116,101,103,101,114]
def wDec:List UInt8:=[64,100,101,99,105,109,97,108]
theorem set_int (hl:Le l) {t u lo hi x:List UInt8} {r:Bool × List It × Bool × ByteArray × Int} (ht:t <:+ l) (h:tk wInt t=some u) (he:Ev (fun k=>sample_reader_item.f k (S l) (ps l u) false) (S lo,S hi,S l,ps l x)) (hr:Ev (fun k=>sample_reader_set.l0 k (S l) (ps l x) false [⟨S lo,S hi⟩] false) r):Ev (fun k=>sample_reader_set.f k (S l) (ps l t)) r:=by
  unfold sample_reader_set.f
  exact Ev.bind (take_yes (w:=wInt) hl ht h) (Ev.if_pos rfl (Ev.step (fun k=>sample_reader_set.j0.eq_2 ..) (Ev.bind he (Ev.if_pos (by decide) hr))))
theorem set_dec (hl:Le l) {t u lo hi x:List UInt8} {r:Bool × List It × Bool × ByteArray × Int} (ht:t <:+ l) (h0:tk wInt t=none) (h:tk wDec (sk t)=some u) (he:Ev (fun k=>sample_reader_item.f k (S l) (ps l u) true) (S lo,S hi,S l,ps l x)) (hr:Ev (fun k=>sample_reader_set.l0 k (S l) (ps l x) true [⟨S lo,S hi⟩] false) r):Ev (fun k=>sample_reader_set.f k (S l) (ps l t)) r:=by
  unfold sample_reader_set.f
  exact Ev.bind (take_no (w:=wInt) hl ht h0) (Ev.if_neg Bool.false_ne_true (Ev.bind (take_yes (w:=wDec) hl ((sk_suf t).trans ht) h) (Ev.if_pos rfl (Ev.step (fun k=>sample_reader_set.j0.eq_2 ..) (Ev.bind he (Ev.if_pos (by decide) hr))))))
/-! all sets -/
abbrev St:=S35
theorem parse_ex (a:ByteArray):∀(k:Nat) (out:List St) (s0:ByteArray) (p0:Int),Ex (sample_Parse.l0 a k out s0 p0) (sample_Parse.l0_g a k out s0 p0):=by
  intro k
  induction k with
  | zero=>exact fun _ _ _=> .inl rfl
  | succ k ih =>
    intro out s0 p0
    rw[sample_Parse.l0,sample_Parse.l0_g]
    refine Ex.ite (Ex.orf (set_ex _ _ _) fun t=>Ex.ite (Ex.bind fun u=>ih _ _ _) (Ex.l _)) (Ex.r _)
theorem pl0_end (hl:Le l) {out:List St}:Ev (fun k=>sample_Parse.l0 (S l) k out (S l) (ps l [])) out:=by
  have:ps l []=l.length:=by unfold ps;simp
  refine Ev.step (f:=fun _=>some out) (fun k=>?_) (Ev.now _)
  rw[sample_Parse.l0,this,S_size,_root_.if_neg (by omega)]
theorem pl0_step (hl:Le l) {t x:List UInt8} {out r:List St} {dec m:Bool} {xs:List It} (ht:t <:+ l) (hne:t≠[]) (hx:x <:+ l) (h:Ev (fun k=>sample_reader_set.f k (S l) (ps l t)) (dec,xs,m,S l,ps l x)) (ho:out.length<100000) (hr:Ev (fun k=>sample_Parse.l0 (S l) k (out++[⟨dec,xs,m⟩]) (S l) (ps l (sk x))) r):Ev (fun k=>sample_Parse.l0 (S l) k out (S l) (ps l t)) r:=by
  have hp:=List.length_pos_iff.2 hne
  refine Ev.step (fun k=>sample_Parse.l0.eq_2 ..) (Ev.if_pos (by rw[S_size];unfold ps;omega) (Ev.bind h (Ev.if_pos (by omega) (Ev.bind (blanks_ev hl x hx) hr))))
theorem parse_ok (hl:Le l) {r:List St} (h:Ev (fun k=>sample_Parse.l0 (S l) k [] (S l) (ps l (sk l))) r):Ev (fun k=>sample_Parse.f k (S l)) (r,0,0):=by
  unfold sample_Parse.f
  refine Ev.bind (by have:=blanks_ev hl l (List.suffix_refl l);rw[ps_len] at this;exact this) ?_
  exact Ev.orfR h (fun k=>parse_ex _ _ _ _ _) (Ev.now _)
end
end SR
end Go.Proofs.YtbhhfpjiacfofaaDoor.P
namespace Go.Proofs.YtbhhfpjiacfofaaDoor.P
open Go.RowKit Go.Proofs.YtbhhfpjiacfofaaDoorW.PrintWords Go.Proofs.YtbhhfpjiacfofaaDoorW.PrintLast Go.Proofs.YtbhhfpjiacfofaaDoorW.PrintMore Go.Proofs.YtbhhfpjiacfofaaDoor.FM
set_option linter.unusedVariables false
set_option linter.unusedSimpArgs false
namespace SR
/-! an item's numbers -/
def ptd (z:List UInt8) (p:Nat):List UInt8:=if p=0 then z else z.take (z.length-p)++46::z.drop (z.length-p)
def numAt (lo:List UInt8) (i:Nat):List UInt8:=ptd (padL (pl lo).1.length (nvl (pl lo).1+i)) (pl lo).2
theorem pointed_ev {u:List UInt8} (hu:u.length≤30000) {p w:Nat} (hw:w≤30000) (hp:p≤w):sample_pointed.f (S u) (p:Int) (w:Int)=some (S (ptd (zs (w-u.length)++u) p)):=by
  unfold sample_pointed.f
  have e1:wrap64 ((w:Int)-((S u).size:Int))=(w:Int)-u.length:=by rw[S_size];exact w64 (by omega) (by omega)
  rw[e1,Zeros_ev,show min ((w:Int)-(u.length:Int)).toNat 60000=w-u.length by omega,Option.bind_some,S_append]
  have hz:(zs (w-u.length)++u).length=(w-u.length)+u.length:=by rw[List.length_append,zs_length]
  generalize zs (w-u.length)++u=z at hz
  have hzp:p≤z.length:=by omega
  rw[_root_.if_pos (by rw[S_size,S_size,zs_length];omega)]
  unfold ptd
  by_cases h:p=0
  · rw[_root_.if_pos h,_root_.if_pos (by omega)]
  · have e2:wrap64 (((S z).size:Int)-(p:Int))=((z.length-p:Nat):Int):=by rw[S_size,w64 (by omega) (by omega)];omega
    rw[_root_.if_neg h,_root_.if_neg (by omega),e2,_root_.if_pos (by omega),_root_.if_pos (by rw[S_size];omega),Int.toNat_natCast,S_extract,S_extract,List.drop_zero,show z.take (S z).size=z from List.take_length,S_size]
    have e3:(⟨#[46]⟩:ByteArray)=S [46]:=rfl
    rw[e3,S_append,S_append,S_size,S_size]
    have l1:(z.take (z.length-p)).length≤z.length:=by rw[List.length_take];omega
    have l2:(z.drop (z.length-p)).length≤z.length:=by rw[List.length_drop];omega
    rw[_root_.if_pos (by omega),_root_.if_pos (by rw[List.length_append,List.length_singleton];omega)]
    rw[List.append_assoc,List.singleton_append]
theorem go_ev {A:List UInt8} {p:Nat} (dA:Dig A) (hA:A.length≤20000) (hp:p≤A.length) {m:Nat} (hm:m≤1000):∀(j i:Nat),i+j=m+1→∃K,∀k,K≤k→∀n,j<n→sample_Item_All.go k (S A) (p:Int) (A.length:Int) (m:Int) n (i:Int)=some ((List.range' i j).map fun i=>S (ptd (padL A.length (nvl A+i)) p))
  | 0,i,h=>by
    refine⟨0,fun k _ n hn=>?_⟩
    obtain⟨n,rfl⟩:∃n',n=n'+1:=⟨n-1,by omega⟩
    rw[sample_Item_All.go,_root_.if_neg (by omega)]
    rfl
  | j+1,i,h=>by
    obtain⟨K1,h1⟩:=go_ev dA hA hp hm j (i+1) (by omega)
    obtain⟨K2,h2⟩:=Of_ev i (by omega)
    have li:(mkl i).length≤4:=mkl_length_le.2 (by omega)
    have hs:nvl A+i<10 ^ (A.length+4):=by
      have a1:=nvl_lt dA
      have a2:10 ^ (A.length+4)=10 ^ A.length*10000:=by rw[Nat.pow_add]
      have a3:0<10 ^ A.length:=Nat.pow_pos (by decide)
      omega
    have hl:(mkl (nvl A+i)).length≤A.length+4:=mkl_length_le.2 hs
    have h3:=Add_ev A (mkl i) (by unfold Sm;omega) (by unfold Sm;omega) dA (dig_mkl i)
    rw[nvl_mkl] at h3
    obtain⟨K3,h3⟩:=h3
    refine⟨max K1 (max K2 K3),fun k hk n hn=>?_⟩
    obtain⟨n,rfl⟩:∃n',n=n'+1:=⟨n-1,by omega⟩
    have e2:=h2 k (by omega)
    have e3:=h3 k (by omega)
    dsimp only at e2 e3
    rw[sample_Item_All.go,_root_.if_pos (by omega),e2,Option.bind_some,e3,Option.bind_some,pointed_ev (by omega) (by omega) hp,Option.bind_some]
    have e4:wrap64 ((i:Int)+1)=((i+1:Nat):Int):=by rw[w64 (by omega) (by omega)];omega
    rw[e4,h1 k (by omega) n (by omega),Option.bind_some,List.range'_succ,List.map_cons]
    rfl
theorem steps_is {lo hi:List UInt8} {n:Nat} (h:steps lo hi=some n) (hn:n<1000):Dig (pl lo).1∧Dig (pl hi).1∧(pl lo).2=(pl hi).2∧nvl (pl lo).1+n=nvl (pl hi).1:=by
  unfold steps at h
  split at h
  · rename_i hc
    obtain⟨h1,h2,h3,h4⟩:=hc
    have h5:=Option.some.inj h
    split at h5
    · exact⟨h1,h2,h3,by omega⟩
    · omega
  · cases h
theorem all_ev {lo hi:List UInt8} {n:Nat} (h1:Le lo) (h2:Le hi) (hh:hi≠[]) (h:steps lo hi=some n) (hn:n<1000):Ev (fun k=>sample_Item_All.f k (S lo) (S hi)) ((List.range (n+1)).map fun i=>S (numAt lo i)):=by
  obtain⟨dA,-,-,-⟩:=steps_is h hn
  have h3:=steps_ev h1 h2
  rw[h] at h3
  have hl1:=(pl_len lo).1
  have hl2:=(pl_len lo).2
  have hl3:=h1
  unfold Le at hl3
  unfold sample_Item_All.f
  refine Ev.bind h3 (Ev.if_neg (fun e=>hh (S_inj.1 e)) (Ev.if_pos rfl (Ev.bind (plain_ev h1) ?_)))
  show Ev (fun k=>sample_Item_All.go k (S (pl lo).1) ((pl lo).2:Int) ((S (pl lo).1).size:Int) (if (n:Int)<1000 then (n:Int) else 1000) k 0) _
  rw[_root_.if_pos (by omega),S_size]
  obtain⟨K,hK⟩:=go_ev (p:=(pl lo).2) dA (by omega) hl2 (m:=n) (by omega) (n+1) 0 (by omega)
  refine⟨max K (n+2),fun k hk=>?_⟩
  have:=hK k (by omega) k (by omega)
  rw[List.range_eq_range']
  exact this
theorem all_one {lo:List UInt8} (h1:Le lo):Ev (fun k=>sample_Item_All.f k (S lo) (S [])) [S lo]:=by
  unfold sample_Item_All.f
  exact Ev.bind (steps_ev h1 (Nat.zero_le _)) (Ev.if_pos rfl (Ev.now _))
/-! what these numbers read as -/
theorem cutL_no {s:List UInt8}:∀l:List UInt8,(∀c∈l,c∉s)→cutL l s=(l,[],false)
  | [],_=>rfl
  | c::l,h=>by
    rw[cutL_cons,_root_.if_neg (h c (List.mem_cons_self ..)),cutL_no l (fun d hd=>h d (List.mem_cons_of_mem _ hd)),_root_.if_neg Bool.false_ne_true]
theorem cutL_at {s:List UInt8} {c:UInt8} (y:List UInt8) (hc:c∈s):∀x:List UInt8,(∀c∈x,c∉s)→cutL (x++c::y) s=(x,y,true)
  | [],_=>by rw[List.nil_append,cutL_cons,_root_.if_pos hc]
  | d::x,h=>by rw[List.cons_append,cutL_cons,_root_.if_neg (h d (List.mem_cons_self ..)),cutL_at y hc x (fun d hd=>h d (List.mem_cons_of_mem _ hd)),_root_.if_pos rfl]
theorem dig_no46 {z:List UInt8} (h:Dig z):∀c∈z,c∉([46]:List UInt8):=by
  intro c hc h2
  have:=(h c hc).1
  rw[List.mem_singleton] at h2
  subst h2
  exact absurd this (by decide)
theorem dig_noce {z:List UInt8} (h:Dig z):∀c∈z,c∉([99,101]:List UInt8):=by
  intro c hc h2
  have:=(h c hc).2
  rcases List.mem_cons.1 h2 with rfl|h2
  · exact absurd this (by decide)
  · rw[List.mem_singleton] at h2
    subst h2
    exact absurd this (by decide)
theorem ptd_noce {z:List UInt8} (h:Dig z) (p:Nat):∀c∈ptd z p,c∉([99,101]:List UInt8):=by
  intro c hc
  unfold ptd at hc
  split at hc
  · exact dig_noce h c hc
  · rcases List.mem_append.1 hc with hc|hc
    · exact dig_noce h c (List.mem_of_mem_take hc)
    · rcases List.mem_cons.1 hc with rfl|hc
      · decide
      · exact dig_noce h c (List.mem_of_mem_drop hc)
theorem ptd_cut {z:List UInt8} (h:Dig z) (p:Nat) (hp:p≤z.length):cutL (ptd z p) [46]=(z.take (z.length-p),z.drop (z.length-p),decide (p≠0)):=by
  unfold ptd
  by_cases hz:p=0
  · subst hz
    rw[_root_.if_pos rfl,cutL_no _ (dig_no46 h),Nat.sub_zero,List.take_length,List.drop_length]
    rfl
  · rw[_root_.if_neg hz,cutL_at _ (by simp) _ (fun c hc=>dig_no46 h c (List.mem_of_mem_take hc)),decide_eq_true hz]
theorem ptd_pl {z:List UInt8} (h:Dig z) {p:Nat} (hp:p≤z.length):pl (ptd z p)=(z,p):=by
  unfold pl
  rw[ptd_cut h p hp]
  dsimp only
  rw[List.take_append_drop,List.length_drop,show z.length-(z.length-p)=p by omega]
theorem ptd_read {z:List UInt8} (h:Dig z) {p:Nat} (hp:p<z.length):readOk (ptd z p)∧rdW (ptd z p)=z.take (z.length-p)∧rdP (ptd z p)=z.drop (z.length-p)∧rdE (ptd z p)=[]:=by
  have e1:cutL (ptd z p) [99,101]=(ptd z p,[],false):=cutL_no _ (ptd_noce h p)
  have e2:=ptd_cut h p (by omega)
  unfold readOk rdW rdP rdE
  rw[e1]
  show(((cutL (ptd z p) [46]).1≠[]∧((cutL (ptd z p) [46]).2.2=true→(cutL (ptd z p) [46]).2.1≠[])∧(false=true→([]:List UInt8)≠[])∧Dig (cutL (ptd z p) [46]).1∧Dig (cutL (ptd z p) [46]).2.1∧Dig [])∧(cutL (ptd z p) [46]).1=_∧(cutL (ptd z p) [46]).2.1=_∧_)
  rw[e2]
  refine⟨⟨?_,fun hp2=>?_,fun h=>(by cases h),h.take _,h.drop _,fun c hc=>(by cases hc)⟩,rfl,rfl,rfl⟩
  · intro he
    have:=congrArg List.length he
    rw[List.length_take,List.length_nil] at this
    omega
  · intro he
    have:=congrArg List.length he
    rw[List.length_drop,List.length_nil] at this
    have:=of_decide_eq_true hp2
    omega
end SR
end Go.Proofs.YtbhhfpjiacfofaaDoor.P
namespace Go.Proofs.YtbhhfpjiacfofaaDoor.P
open Go.RowKit Go.Proofs.YtbhhfpjiacfofaaDoorW.PrintWords Go.Proofs.YtbhhfpjiacfofaaDoorW.PrintLast Go.Proofs.YtbhhfpjiacfofaaDoorW.PrintMore Go.Proofs.YtbhhfpjiacfofaaDoor.FM
set_option linter.unusedVariables false
set_option linter.unusedSimpArgs false
namespace SR
open RG (sk tk)
/-! items as the law makes them -/
def nm (n p:Nat):List UInt8:=ptd (padL (p+1) n) p
theorem pad_ev:∀(d:Nat) (s:List UInt8) (w:Nat),s.length+d=max s.length w→s.length≤1000→w≤1000→Ev (fun k=>florinlaw08_pad.l0 k (S s) (w:Int)) (S (zs d++s)):=by
  intro d
  induction d with
  | zero =>
    intro s w h h1 h2
    refine Ev.step (f:=fun _=>some (S s)) (fun k=>?_) (Ev.now _)
    rw[florinlaw08_pad.l0,S_size,_root_.if_neg (by omega)]
  | succ d ih =>
    intro s w h h1 h2
    have hi:=ih (48::s) w (by rw[List.length_cons];omega) (by rw[List.length_cons];omega) h2
    refine Ev.step (f:=fun k=>florinlaw08_pad.l0 k (S (48::s)) (w:Int)) (fun k=>?_) ?_
    · rw[florinlaw08_pad.l0,S_size,_root_.if_pos (by omega),_root_.if_pos (by omega),show(⟨#[48]⟩:ByteArray)=S [48] from rfl,S_append];rfl
    · rw[zs_add d 1,List.append_assoc]
      exact hi
theorem number_ev {n p:Nat} (hn:n≤1000000) (hp:p≤3):Ev (fun k=>florinlaw08_number.f k (n:Int) (p:Int)) (S (nm n p)):=by
  have hl:(mkl n).length≤7:=mkl_length_le.2 (by omega)
  have e0:wrap64 ((p:Int)+1)=((p+1:Nat):Int):=by rw[w64 (by omega) (by omega)];omega
  unfold florinlaw08_number.f nm
  refine Ev.bind (Of_ev n (by omega)) ?_
  rw[e0]
  refine Ev.bind (pad_ev (p+1-(mkl n).length) (mkl n) (p+1) (by omega) (by omega) (by omega)) ?_
  have hz:(padL (p+1) n).length=max (p+1) (mkl n).length:=padL_length _ _
  rw[show zs (p+1-(mkl n).length)++mkl n=padL (p+1) n from rfl]
  generalize padL (p+1) n=z at hz
  unfold ptd
  by_cases h:p=0
  · rw[_root_.if_pos h]
    exact Ev.if_pos (by omega) (Ev.now _)
  · have e2:wrap64 (((S z).size:Int)-(p:Int))=((z.length-p:Nat):Int):=by rw[S_size,w64 (by omega) (by omega)];omega
    rw[_root_.if_neg h]
    refine Ev.if_neg (by omega) ?_
    rw[e2,Int.toNat_natCast,S_extract,S_extract,List.drop_zero,show z.take (S z).size=z from List.take_length]
    have e3:(⟨#[46]⟩:ByteArray)=S [46]:=rfl
    rw[e3,S_append,S_append]
    have l1:(z.take (z.length-p)).length≤z.length:=by rw[List.length_take];omega
    have l2:(z.drop (z.length-p)).length≤z.length:=by rw[List.length_drop];omega
    refine Ev.if_pos (by omega) (Ev.if_pos (by rw[S_size];omega) (Ev.if_pos (by rw[S_size];omega) (Ev.if_pos (by rw[S_size,S_size,List.length_append,List.length_singleton];omega) ?_)))
    rw[List.append_assoc,List.singleton_append]
    exact Ev.now _
theorem nm_pl (n p:Nat):pl (nm n p)=(padL (p+1) n,p):=ptd_pl (dig_padL _ _) (by rw[padL_length];omega)
theorem nm_len {n p:Nat} (hn:n≤1000000) (hp:p≤3):(nm n p).length≤8:=by
  have hl:(mkl n).length≤7:=mkl_length_le.2 (by omega)
  have hz:(padL (p+1) n).length=max (p+1) (mkl n).length:=padL_length _ _
  unfold nm ptd
  split
  · omega
  · rw[List.length_append,List.length_cons,List.length_take,List.length_drop];omega
theorem nm_steps {n p k:Nat} (hk:k<1000):steps (nm n p) (nm (n+k) p)=some k:=by
  unfold steps
  rw[nm_pl,nm_pl]
  dsimp only
  have h18:n+k-n<10 ^ 18:=by
    have:1000≤10 ^ 18:=by decide
    omega
  rw[nvl_padL,nvl_padL,_root_.if_pos ⟨dig_padL _ _,dig_padL _ _,rfl,by omega⟩,_root_.if_pos h18]
  congr 1
  omega
theorem nm_at (n p i:Nat):numAt (nm n p) i=nm (n+i) p:=by
  unfold numAt
  rw[nm_pl]
  dsimp only
  rw[nvl_padL,padL_length]
  unfold nm padL
  have:=mkl_length_mono (show n≤n+i by omega)
  rw[show max (p+1) (mkl n).length-(mkl (n+i)).length=p+1-(mkl (n+i)).length by omega]
theorem nm_good {n p:Nat} (hn:n≤1000000) (hp:p≤3):good (nm n p)∧(p=0→frac (nm n p)=[]):=by
  have hz:(padL (p+1) n).length=max (p+1) (mkl n).length:=padL_length _ _
  have hl:(mkl n).length≤7:=mkl_length_le.2 (by omega)
  obtain⟨h1,h2,h3,h4⟩:=ptd_read (dig_padL (p+1) n) (p:=p) (by omega)
  refine⟨⟨h1,?_,?_⟩,fun h=>?_⟩
  · show nvl (rdE (ptd (padL (p+1) n) p))≤10000
    rw[h4];exact Nat.zero_le _
  · show(rdW (ptd (padL (p+1) n) p)).length+(rdP (ptd (padL (p+1) n) p)).length≤1000
    rw[h2,h3,List.length_take,List.length_drop];omega
  · subst h
    show(rdP (ptd (padL (0+1) n) 0)).drop _=[]
    rw[h3,Nat.sub_zero,List.drop_length,List.drop_nil]
theorem nc_dig {c:UInt8} (h:48≤c.toNat∧c.toNat≤57):nc c=true:=by
  obtain⟨n,rfl⟩:∃n:Fin 58,c=UInt8.ofNat n.1:=⟨⟨c.toNat,by omega⟩,by simp⟩
  revert h
  revert n
  decide
theorem nc_ptd {z:List UInt8} (h:Dig z) (p:Nat):∀c∈ptd z p,nc c=true:=by
  intro c hc
  unfold ptd at hc
  split at hc
  · exact nc_dig (h c hc)
  · rcases List.mem_append.1 hc with hc|hc
    · exact nc_dig (h c (List.mem_of_mem_take hc))
    · rcases List.mem_cons.1 hc with rfl|hc
      · decide
      · exact nc_dig (h c (List.mem_of_mem_drop hc))
/-- a number's text begins with a digit -/
theorem nm_head (n p:Nat):∃c v,nm n p=c::v∧48≤c.toNat∧c.toNat≤57:=by
  have hz:(padL (p+1) n).length=max (p+1) (mkl n).length:=padL_length _ _
  have hd:=dig_padL (p+1) n
  unfold nm ptd
  cases h:padL (p+1) n with
  | nil=>rw[h,List.length_nil] at hz;omega
  | cons c v =>
    rw[h] at hd hz
    have hc:=hd c (List.mem_cons_self ..)
    split
    · exact⟨c,v,rfl,hc⟩
    · refine⟨c,v.take ((c::v).length-p-1)++46::(c::v).drop ((c::v).length-p),?_,hc⟩
      obtain⟨q,hq⟩:∃q,(c::v).length-p=q+1:=⟨(c::v).length-p-1,by omega⟩
      rw[hq,List.take_succ_cons]
      rfl
theorem value_of {dec:Bool} {t d u:List UInt8} (hs:sk t=d++u) (hd:∀c∈d,nc c=true) (hu:∀c v,u=c::v→nc c=false) (hg:good d) (hf:dec=false→frac d=[]):value dec t= .ok (d,u):=by
  have e:(sk t).takeWhile nc=d:=by
    rw[hs,List.takeWhile_append_of_pos hd]
    cases u with
    | nil=>rw[List.takeWhile_nil,List.append_nil]
    | cons c v=>rw[List.takeWhile_cons_of_neg (by rw[hu c v rfl];decide),List.append_nil]
  unfold value
  rw[e,_root_.if_neg (fun h=>h hg.1),_root_.if_neg (fun h=>h hg.2),_root_.if_neg (fun h=>h.2 (hf h.1)),hs,List.drop_left]
/-- what may stand behind an item -/
def Stop (u:List UInt8):Prop:=sk u=[]∨∃c v,sk u=c::v∧(c=44∨c=64)
theorem Stop.nc {u:List UInt8} (h:Stop u):∀c v,u=c::v→nc c=false:=by
  intro c v e
  by_cases hc:c=32
  · subst hc;decide
  · rw[Stop,e,RG.sk_cons_ne hc] at h
    rcases h with h|⟨d,w,h,h2⟩
    · cases h
    · rcases h2 with rfl|rfl
      · rw[(List.cons.inj h).1];decide
      · rw[(List.cons.inj h).1];decide
theorem Stop.tk {u:List UInt8} (h:Stop u):tk [126] u=none:=by
  refine RG.tk_no fun x v e=>?_
  rcases h with h|⟨d,w,h,h2⟩
  · rw[h] at e;cases e
  · rw[h] at e
    rcases h2 with rfl|rfl
    · rw[← (List.cons.inj e).1];decide
    · rw[← (List.cons.inj e).1];decide
/-- how an item's text is read, whatever stands behind it -/
def Reads (dec:Bool) (lo hi txt:List UInt8):Prop:=(∃c v,txt=c::v∧48≤c.toNat∧c.toNat≤57)∧∀(l t u:List UInt8),Le l→t <:+ l→sk t=txt++u→Stop u→∃x,x <:+ l∧sk x=sk u∧Ev (fun k=>sample_reader_item.f k (S l) (ps l t) dec) (S lo,S hi,S l,ps l x)
theorem reads_one {dec:Bool} {d:List UInt8} (hd:∀c∈d,nc c=true) (hh:∃c v,d=c::v∧48≤c.toNat∧c.toNat≤57) (hg:good d) (hf:dec=false→frac d=[]):Reads dec d [] d:=by
  refine⟨hh,fun l t u hl ht hs hst=>?_⟩
  have hv:=value_of hs hd hst.nc hg hf
  refine⟨sk u,?_,RG.sk_sk u,item_one hl ht hv hst.tk⟩
  have h2:=(sk_suf t).trans ht
  rw[hs] at h2
  exact(sk_suf u).trans ((List.suffix_append d u).trans h2)
theorem bl_head {g:List UInt8} (hg:RG.Bl g) {c:UInt8} {w:List UInt8} (hc:nc c=false):∀d v,g++c::w=d::v→nc d=false:=by
  intro d v e
  cases g with
  | nil=>rw[← (List.cons.inj e).1];exact hc
  | cons b g =>
    have:b=32:=hg b (List.mem_cons_self ..)
    rw[← (List.cons.inj e).1,this];decide
theorem reads_two {dec:Bool} {g:List UInt8} (hg:RG.Bl g) {n p k:Nat} (hn:n+k≤1000000) (hp:p≤3) (hk:k<1000) (hd:dec=false→p=0):Reads dec (nm n p) (nm (n+k) p) (nm n p++(g++126::(g++nm (n+k) p))):=by
  obtain⟨c,v,hc,hc2⟩:=nm_head n p
  obtain⟨c',v',hc',hc2'⟩:=nm_head (n+k) p
  refine⟨⟨c,v++(g++126::(g++nm (n+k) p)),by rw[hc];rfl,hc2⟩,fun l t u hl ht hs hst=>?_⟩
  have g1:=nm_good (n:=n) (p:=p) (by omega) hp
  have g2:=nm_good (n:=n+k) (p:=p) hn hp
  have hs':sk t=nm n p++(g++126::(g++nm (n+k) p++u)):=by rw[hs];simp
  have hv:=value_of (dec:=dec) hs' (nc_ptd (dig_padL _ _) p) (bl_head hg (by decide)) g1.1 (fun h=>g1.2 (hd h))
  have ht2:tk [126] (g++126::(g++nm (n+k) p++u))=some (g++nm (n+k) p++u):=RG.tk_yes (by rw[RG.sk_bl hg,RG.sk_cons_ne (by decide)];rfl)
  have hne:∀x y:UInt8,48≤x.toNat→x≠32:=fun x _ h e=>by subst e;exact absurd h (by decide)
  have hs3:sk (sk (g++nm (n+k) p++u))=nm (n+k) p++u:=by
    rw[RG.sk_sk,List.append_assoc,RG.sk_bl hg,hc',List.cons_append,RG.sk_cons_ne (hne c' c' hc2'.1)]
  have hw:=value_of (dec:=dec) hs3 (nc_ptd (dig_padL _ _) p) hst.nc g2.1 (fun h=>g2.2 (hd h))
  refine⟨u,?_,rfl,item_two hl ht hv ht2 hw (nm_steps hk) hk⟩
  have h2:=(sk_suf t).trans ht
  rw[hs] at h2
  exact(List.suffix_append _ u).trans h2
/-- an item, how it is written, and its numbers -/
abbrev One:=S55
def itN (o:One):Nat:=(Go.bits .and .i64 o.f0 65535).toNat
def itP (dec:Bool) (o:One):Nat:=if dec=true then (Go.bits .and .i64 o.f1 3).toNat else 0
def itK (o:One):Nat:=(Go.bits .and .i64 o.f3 31).toNat
def itE (o:One):List UInt8:=(if Go.bits .and .i64 o.f2 1=0 then 99 else 101)::mkl (3+Go.bits .and .i64 o.f2 4).toNat
def isE (o:One):Prop:=Go.bits .and .i64 o.f2 7>4
instance (o:One):Decidable (isE o):=inferInstanceAs (Decidable (_>_))
def itLo (dec:Bool) (o:One):List UInt8:=if isE o then nm (itN o) (itP dec o)++itE o else nm (itN o) (itP dec o)
def itHi (dec:Bool) (o:One):List UInt8:=if isE o then [] else if itK o=0 then [] else nm (itN o+itK o) (itP dec o)
def itT (dec:Bool) (g:List UInt8) (o:One):List UInt8:=if isE o then itLo dec o else if itK o=0 then itLo dec o else nm (itN o) (itP dec o)++(g++126::(g++nm (itN o+itK o) (itP dec o)))
def itA (dec:Bool) (o:One):List (List UInt8):=if isE o then [itLo dec o] else if itK o=0 then [itLo dec o] else (List.range (itK o+1)).map fun i=>nm (itN o+i) (itP dec o)
theorem it_bounds (dec:Bool) (o:One):itN o≤65535∧itP dec o≤3∧itK o≤31∧(dec=false→itP dec o=0)∧Go.bits .and .i64 o.f0 65535=(itN o:Int)∧Go.bits .and .i64 o.f1 3=((Go.bits .and .i64 o.f1 3).toNat:Int)∧Go.bits .and .i64 o.f3 31=(itK o:Int)∧(Go.bits .and .i64 o.f1 3).toNat≤3:=by
  obtain⟨a,a1,a2⟩:=low64 16 (by omega) o.f0 65535 (by decide)
  obtain⟨b,b1,b2⟩:=low64 2 (by omega) o.f1 3 (by decide)
  obtain⟨c,c1,c2⟩:=low64 5 (by omega) o.f3 31 (by decide)
  unfold itN itP itK
  rw[a1,b1,c1,Int.toNat_natCast,Int.toNat_natCast,Int.toNat_natCast]
  refine⟨by omega,by split <;> omega,by omega,fun h=>by rw[h];rfl,rfl,rfl,rfl,by omega⟩
theorem and4 (n:Int):∃x:Nat,Go.bits .and .i64 n 4=(x:Int)∧x≤4:=by
  have h:(BitVec.ofInt 64 n &&& BitVec.ofInt 64 4).toNat≤4:=by
    rw[BitVec.toNat_and]
    exact Nat.and_le_right
  refine⟨(BitVec.ofInt 64 n &&& BitVec.ofInt 64 4).toNat,?_,h⟩
  show IntKind.i64.wrap ((BitVec.ofInt 64 n &&& BitVec.ofInt 64 4).toNat:Nat)=_
  generalize (BitVec.ofInt 64 n &&& BitVec.ofInt 64 4).toNat=y at h
  rw[IntKind.wrap_i64]
  omega
theorem reads_pow {dec:Bool} {n p e:Nat} {c:UInt8} (hc:c=99∨c=101) (hn:n≤1000000) (hp:p≤3) (he:0<e) (he2:e≤100) (hd:dec=false→p=0):Reads dec (nm n p++c::mkl e) [] (nm n p++c::mkl e):=by
  have hce:c∈([99,101]:List UInt8):=by rcases hc with rfl|rfl <;> decide
  have hz:(padL (p+1) n).length=max (p+1) (mkl n).length:=padL_length _ _
  have hl:(mkl n).length≤7:=mkl_length_le.2 (by omega)
  have e1:cutL (nm n p++c::mkl e) [99,101]=(nm n p,mkl e,true):=cutL_at _ hce _ (ptd_noce (dig_padL _ _) p)
  obtain⟨h1,h2,h3,h4⟩:=ptd_read (dig_padL (p+1) n) (p:=p) (by omega)
  have e2:=ptd_cut (dig_padL (p+1) n) p (by omega)
  have hE:rdE (nm n p++c::mkl e)=mkl e:=by unfold rdE;rw[e1]
  have hW:rdW (nm n p++c::mkl e)=(padL (p+1) n).take ((padL (p+1) n).length-p):=by
    unfold rdW;rw[e1];show(cutL (ptd (padL (p+1) n) p) [46]).1=_;rw[e2]
  have hP:rdP (nm n p++c::mkl e)=(padL (p+1) n).drop ((padL (p+1) n).length-p):=by
    unfold rdP;rw[e1];show(cutL (ptd (padL (p+1) n) p) [46]).2.1=_;rw[e2]
  have hne:mkl e≠[]:=fun h=>by rw[mkl_eq_nil] at h;omega
  have hg:good (nm n p++c::mkl e):=by
    refine⟨?_,by rw[hE,nvl_mkl];omega,by rw[hW,hP,List.length_take,List.length_drop];omega⟩
    have e0:cutL (ptd (padL (p+1) n) p) [99,101]=(ptd (padL (p+1) n) p,[],false):=cutL_no _ (ptd_noce (dig_padL _ _) p)
    unfold readOk at h1
    rw[e0] at h1
    unfold readOk
    rw[e1]
    exact⟨h1.1,h1.2.1,fun _=>hne,h1.2.2.2.1,h1.2.2.2.2.1,dig_mkl e⟩
  refine reads_one ?_ ?_ hg ?_
  · intro d hd'
    rcases List.mem_append.1 hd' with hd'|hd'
    · exact nc_ptd (dig_padL _ _) p d hd'
    · rcases List.mem_cons.1 hd' with rfl|hd'
      · rcases hc with rfl|rfl <;> decide
      · exact nc_dig (dig_mkl e d hd')
  · obtain⟨a,v,h,h'⟩:=nm_head n p
    exact⟨a,v++c::mkl e,by rw[h];rfl,h'⟩
  · intro hdd
    have:=hd hdd
    subst this
    unfold frac
    rw[hP,Nat.sub_zero,List.drop_length,List.drop_nil]
end SR
end Go.Proofs.YtbhhfpjiacfofaaDoor.P
namespace Go.Proofs.YtbhhfpjiacfofaaDoor.P
open Go.RowKit Go.Proofs.YtbhhfpjiacfofaaDoorW.PrintWords Go.Proofs.YtbhhfpjiacfofaaDoorW.PrintLast Go.Proofs.YtbhhfpjiacfofaaDoorW.PrintMore Go.Proofs.YtbhhfpjiacfofaaDoor.FM
set_option linter.unusedVariables false
set_option linter.unusedSimpArgs false
namespace SR
theorem rdOf_S' {ys:List (List UInt8)} {i:Nat} (h:i<ys.length):rdOf ByteArray.empty (ys.map S) (i:Int)=S (ys.getD i []):=by
  unfold rdOf
  rw[Int.toNat_natCast,List.getD_eq_getElem?_getD,List.getD_eq_getElem?_getD,List.getElem?_map,List.getElem?_eq_getElem h]
  rfl
def itI (dec:Bool) (o:One):It:=⟨S (itLo dec o),S (itHi dec o)⟩
theorem it_reads (dec:Bool) {g:List UInt8} (hg:RG.Bl g) (o:One):Reads dec (itLo dec o) (itHi dec o) (itT dec g o):=by
  obtain⟨b1,b2,b3,b4,-,-,-,-⟩:=it_bounds dec o
  unfold itLo itHi itT
  by_cases he:isE o
  · rw[_root_.if_pos he,_root_.if_pos he,_root_.if_pos he]
    unfold itLo
    rw[_root_.if_pos he]
    obtain⟨x,hx,hx4⟩:=and4 o.f2
    unfold itE
    rw[hx]
    exact reads_pow (by split;exact .inl rfl;exact .inr rfl) (by omega) b2 (by omega) (by omega) b4
  · rw[_root_.if_neg he,_root_.if_neg he,_root_.if_neg he]
    by_cases hk:itK o=0
    · rw[_root_.if_pos hk,_root_.if_pos hk]
      unfold itLo
      rw[_root_.if_neg he]
      have g1:=nm_good (n:=itN o) (p:=itP dec o) (by omega) b2
      exact reads_one (nc_ptd (dig_padL _ _) _) (nm_head _ _) g1.1 (fun h=>g1.2 (b4 h))
    · rw[_root_.if_neg hk,_root_.if_neg hk]
      exact reads_two hg (by omega) b2 (by omega) b4
theorem mkl_small {e:Nat} (h:e≤7):(mkl e).length≤1:=mkl_length_le.2 (by omega)
theorem it_len (dec:Bool) {g:List UInt8} (hg:g.length≤2) (o:One):(itLo dec o).length≤10∧(itHi dec o).length≤10∧(itT dec g o).length≤30:=by
  obtain⟨b1,b2,b3,b4,-,-,-,-⟩:=it_bounds dec o
  have l1:=nm_len (n:=itN o) (p:=itP dec o) (by omega) b2
  have l2:=nm_len (n:=itN o+itK o) (p:=itP dec o) (by omega) b2
  obtain⟨x,hx,hx4⟩:=and4 o.f2
  have l3:(itE o).length≤2:=by
    unfold itE
    rw[hx,List.length_cons]
    have:=mkl_small (e:=(3+(x:Int)).toNat) (by omega)
    omega
  have l4:(itLo dec o).length≤10:=by
    unfold itLo
    split
    · rw[List.length_append];omega
    · omega
  refine⟨l4,?_,?_⟩
  · unfold itHi
    split
    · exact Nat.zero_le _
    · split
      · exact Nat.zero_le _
      · omega
  · unfold itT
    split
    · omega
    · split
      · omega
      · rw[List.length_append,List.length_append,List.length_cons,List.length_append];omega
/-- an item's numbers, gone through -/
theorem it_all (dec:Bool) (o:One):Ev (fun k=>sample_Item_All.f k (S (itLo dec o)) (S (itHi dec o))) ((itA dec o).map S)∧(itA dec o).length≤32:=by
  obtain⟨b1,b2,b3,b4,-,-,-,-⟩:=it_bounds dec o
  obtain⟨l1,l2,-⟩:=it_len dec (g:=[]) (Nat.zero_le _) o
  have hl1:Le (itLo dec o):=by unfold Le;omega
  have hl2:Le (itHi dec o):=by unfold Le;omega
  by_cases he:isE o
  · have e1:itHi dec o=[]:=by unfold itHi;rw[_root_.if_pos he]
    have e2:itA dec o=[itLo dec o]:=by unfold itA;rw[_root_.if_pos he]
    rw[e1,e2]
    exact⟨all_one hl1,by show 1≤32;omega⟩
  · by_cases hk:itK o=0
    · have e1:itHi dec o=[]:=by unfold itHi;rw[_root_.if_neg he,_root_.if_pos hk]
      have e2:itA dec o=[itLo dec o]:=by unfold itA;rw[_root_.if_neg he,_root_.if_pos hk]
      rw[e1,e2]
      exact⟨all_one hl1,by show 1≤32;omega⟩
    · have e1:itHi dec o=nm (itN o+itK o) (itP dec o):=by unfold itHi;rw[_root_.if_neg he,_root_.if_neg hk]
      have e2:itA dec o=(List.range (itK o+1)).map fun i=>nm (itN o+i) (itP dec o):=by unfold itA;rw[_root_.if_neg he,_root_.if_neg hk]
      have e3:itLo dec o=nm (itN o) (itP dec o):=by unfold itLo;rw[_root_.if_neg he]
      have hs:=nm_steps (n:=itN o) (p:=itP dec o) (k:=itK o) (by omega)
      obtain⟨c,v,hc,-⟩:=nm_head (itN o+itK o) (itP dec o)
      rw[e1] at hl2 ⊢
      rw[e3] at hl1 ⊢
      rw[e2]
      refine⟨?_,by rw[List.length_map,List.length_range];omega⟩
      have:=all_ev hl1 hl2 (by rw[hc];exact List.cons_ne_nil _ _) hs (by omega)
      rw[List.map_map]
      have e4:(fun i=>S (numAt (nm (itN o) (itP dec o)) i))=S ∘ fun i=>nm (itN o+i) (itP dec o):=by
        funext i
        show S _=S _
        rw[nm_at]
      rw[e4] at this
      exact this
theorem it_loop (g:List UInt8) (hg:g.length≤2) (N P K:Nat) (hN:N≤65535) (hP:P≤3) (hK:K≤31):∀(d i:Nat),i+d=K+1→Ev (fun k=>florinlaw08_One_item.l0 k (S g) (N:Int) (P:Int) (S (nm N P)) (K:Int) (((List.range i).map fun i=>nm (N+i) P).map S) (i:Int)) (S (nm N P),S (nm (N+K) P),S (nm N P++(g++126::(g++nm (N+K) P))),((List.range (K+1)).map fun i=>nm (N+i) P).map S):=by
  intro d
  induction d with
  | zero =>
    intro i hi
    have:i=K+1:=hi
    subst this
    have e1:rdOf ByteArray.empty (((List.range (K+1)).map fun i=>nm (N+i) P).map S) (K:Int)=S (nm (N+K) P):=by
      rw[rdOf_S' (by rw[List.length_map,List.length_range];omega),List.getD_eq_getElem?_getD,List.getElem?_map,List.getElem?_range (by omega)]
      rfl
    have l1:=nm_len (n:=N) (p:=P) (by omega) hP
    have l2:=nm_len (n:=N+K) (p:=P) (by omega) hP
    refine Ev.step (fun k=>florinlaw08_One_item.l0.eq_2 ..) (Ev.if_neg (by omega) (Ev.if_pos (by omega) (Ev.if_pos (by rw[List.length_map,List.length_map,List.length_range];omega) ?_)))
    rw[e1,show(⟨#[126]⟩:ByteArray)=S [126] from rfl]
    simp only[S_append]
    refine Ev.if_pos (by rw[S_size,S_size];omega) (Ev.if_pos (by rw[S_size,List.length_append];omega) (Ev.if_pos (by rw[S_size,S_size,List.length_append,List.length_append,List.length_singleton];omega) (Ev.if_pos (by rw[S_size,S_size,List.length_append,List.length_append,List.length_append,List.length_singleton];omega) ?_)))
    have e2:nm N P++g++[126]++g++nm (N+K) P=nm N P++(g++126::(g++nm (N+K) P)):=by simp
    rw[e2]
    exact Ev.now _
  | succ d ih =>
    intro i hi
    have e1:wrap64 ((N:Int)+(i:Int))=((N+i:Nat):Int):=by rw[w64 (by omega) (by omega)];omega
    have e2:wrap64 ((i:Int)+1)=((i+1:Nat):Int):=by rw[w64 (by omega) (by omega)];omega
    have h:=ih (i+1) (by omega)
    rw[List.range_succ,List.map_append,List.map_append] at h
    refine Ev.step (fun k=>florinlaw08_One_item.l0.eq_2 ..) (Ev.if_pos (by omega) ?_)
    rw[e1,e2]
    exact Ev.bind (number_ev (by omega) hP) (Ev.if_pos (by rw[List.length_map,List.length_map,List.length_range];omega) h)
theorem it_j0 (dec:Bool) (g:List UInt8) (hg:g.length≤2) (o:One):Ev (fun k=>florinlaw08_One_item.j0 k (S g) (itN o:Int) (itP dec o:Int) o.f0 o.f1 o.f2 o.f3) (S (itLo dec o),S (itHi dec o),S (itT dec g o),(itA dec o).map S):=by
  obtain⟨b1,b2,b3,b4,-,-,b7,-⟩:=it_bounds dec o
  have l1:=nm_len (n:=itN o) (p:=itP dec o) (by omega) b2
  refine Ev.step (fun k=>florinlaw08_One_item.j0.eq_2 ..) (Ev.bind (number_ev (by omega) b2) ?_)
  by_cases he:isE o
  · obtain⟨x,hx,hx4⟩:=and4 o.f2
    obtain⟨y,hy,hy2⟩:=low64 1 (by omega) o.f2 1 (by decide)
    have lm:=mkl_small (e:=3+x) (by omega)
    have e1:itE o=(if y=0 then 99 else 101)::mkl (3+x):=by
      unfold itE
      rw[hx,hy]
      congr 1
      · by_cases h0:y=0
        · rw[_root_.if_pos (by omega),_root_.if_pos h0]
        · rw[_root_.if_neg (by omega),_root_.if_neg h0]
    have e2:rdOf ByteArray.empty [(⟨#[99]⟩:ByteArray),(⟨#[101]⟩:ByteArray)] (y:Int)=S [if y=0 then 99 else 101]:=by
      match y,hy2 with
      | 0,_=>rfl
      | 1,_=>rfl
    have e3:wrap64 (3+(x:Int))=((3+x:Nat):Int):=by rw[w64 (by omega) (by omega)];omega
    have e4:itLo dec o=nm (itN o) (itP dec o)++itE o:=by unfold itLo;rw[_root_.if_pos he]
    have e5:itHi dec o=[]:=by unfold itHi;rw[_root_.if_pos he]
    have e6:itA dec o=[itLo dec o]:=by unfold itA;rw[_root_.if_pos he]
    have e7:itT dec g o=itLo dec o:=by unfold itT;rw[_root_.if_pos he]
    rw[e5,e6,e7,e4,e1]
    refine Ev.if_pos he (Ev.const rfl ?_)
    rw[hy,hx,e3]
    clear hx hy b7 e1 e4 e5 e6 e7 e3
    have hy3:y<2:=hy2
    refine Ev.if_pos (Int.natCast_nonneg y) (Ev.if_pos (show(y:Int)<2 by omega) ?_)
    rw[e2]
    simp only[S_append]
    refine Ev.if_pos (by rw[S_size,S_size,List.length_singleton];omega) (Ev.bind (Of_ev (3+x) (by omega)) ?_)
    simp only[S_append]
    refine Ev.if_pos (by rw[S_size,S_size,List.length_append,List.length_singleton];omega) ?_
    rw[List.append_assoc,List.singleton_append]
    exact Ev.now _
  · refine Ev.if_neg he ?_
    rw[b7]
    have e4:itLo dec o=nm (itN o) (itP dec o):=by unfold itLo;rw[_root_.if_neg he]
    by_cases hk:itK o=0
    · have e5:itHi dec o=[]:=by unfold itHi;rw[_root_.if_neg he,_root_.if_pos hk]
      have e6:itA dec o=[itLo dec o]:=by unfold itA;rw[_root_.if_neg he,_root_.if_pos hk]
      have e7:itT dec g o=itLo dec o:=by unfold itT;rw[_root_.if_neg he,_root_.if_pos hk]
      rw[e5,e6,e7,e4]
      exact Ev.if_pos (by omega) (Ev.now _)
    · have e5:itHi dec o=nm (itN o+itK o) (itP dec o):=by unfold itHi;rw[_root_.if_neg he,_root_.if_neg hk]
      have e6:itA dec o=(List.range (itK o+1)).map fun i=>nm (itN o+i) (itP dec o):=by unfold itA;rw[_root_.if_neg he,_root_.if_neg hk]
      have e7:itT dec g o=nm (itN o) (itP dec o)++(g++126::(g++nm (itN o+itK o) (itP dec o))):=by unfold itT;rw[_root_.if_neg he,_root_.if_neg hk]
      rw[e5,e6,e7,e4]
      exact Ev.if_neg (by omega) (it_loop g hg _ _ _ b1 b2 b3 _ 0 (Nat.zero_add _))
theorem it_ev (dec:Bool) (g:List UInt8) (hg:g.length≤2) (o:One):Ev (fun k=>florinlaw08_One_item.f k o.f0 o.f1 o.f2 o.f3 dec (S g)) (S (itLo dec o),S (itHi dec o),S (itT dec g o),(itA dec o).map S):=by
  obtain⟨-,-,-,-,b5,b6,-,-⟩:=it_bounds dec o
  have h:=it_j0 dec g hg o
  unfold florinlaw08_One_item.f
  rw[b5,b6]
  cases dec with
  | true=>exact Ev.if_pos rfl h
  | false=>exact Ev.if_neg Bool.false_ne_true h
/-! samples as the law writes them -/
abbrev Kn:=S53
def gapS (n:Int):List UInt8:=if Go.bits .and .i64 n 3=1 then [32] else if Go.bits .and .i64 n 3=2 then [32,32] else []
theorem gapS_ev (n:Int):∃x:Nat,Go.bits .and .i64 n 3=(x:Int)∧x<4∧rdOf ByteArray.empty [(⟨#[]⟩:ByteArray),(⟨#[32]⟩:ByteArray),(⟨#[32,32]⟩:ByteArray),(⟨#[]⟩:ByteArray)] (x:Int)=S (gapS n):=by
  obtain⟨x,h1,h2⟩:=low64 2 (by omega) n 3 (by decide)
  have h4:x<4:=h2
  refine⟨x,h1,h4,?_⟩
  unfold gapS
  rw[h1]
  match x,h4 with
  | 0,_=>rfl
  | 1,_=>rfl
  | 2,_=>rfl
  | 3,_=>rfl
theorem gapS_bl (n:Int):RG.Bl (gapS n)∧(gapS n).length≤2:=by
  unfold gapS
  split
  · exact⟨fun c hc=>List.mem_singleton.1 hc,by decide⟩
  · split
    · exact⟨fun c hc=>(by simpa using hc),by decide⟩
    · exact⟨fun c hc=>(by cases hc),by decide⟩
def itsT (dec:Bool) (g:List UInt8):Nat→List One→List UInt8
  | _,[]=>[]
  | 0,o::os=>itT dec g o++itsT dec g 1 os
  | i+1,o::os=>g++44::(g++(itT dec g o++itsT dec g (i+2) os))
def osOf (m:Kn):List One:=if m.f1=[] then [⟨0,0,0,0⟩] else m.f1
def moreS (m:Kn):Prop:=Go.bits .and .i64 m.f2 3>1
instance (m:Kn):Decidable (moreS m):=inferInstanceAs (Decidable (_>_))
def dotsT (n:Int):List UInt8:=if Go.bits .and .i64 n 1=0 then [226,128,166] else [46,46,46]
def endS (m:Kn):List UInt8:=if moreS m then 44::(gapS m.f3++(dotsT m.f2++gapS m.f3)) else gapS m.f3
def wordS (dec:Bool):List UInt8:=if dec=true then wDec else wInt
def setT (m:Kn):List UInt8:=gapS m.f3++(wordS m.f0++(gapS m.f3++(itsT m.f0 (gapS m.f3) 0 (osOf m)++endS m)))
def setR (m:Kn):St:=⟨m.f0,(osOf m).map (itI m.f0),decide (moreS m)⟩
def setA (m:Kn):List (List ByteArray):=(osOf m).map fun o=>(itA m.f0 o).map S
theorem rdO {L:List One} {i:Nat} {z:One} {zs:List One} (h:L.drop i=z::zs):rd_T55 L (i:Int)=z∧i<L.length∧L.drop (i+1)=zs:=by
  have hl:=congrArg List.length h
  rw[List.length_drop,List.length_cons] at hl
  have hi:i<L.length:=by omega
  have h2:=List.drop_eq_getElem_cons hi
  rw[h] at h2
  obtain⟨e1,e2⟩:=List.cons.inj h2
  refine⟨?_,hi,e2.symm⟩
  unfold rd_T55
  rw[Int.toNat_natCast,List.getD_eq_getElem?_getD,List.getElem?_eq_getElem hi,e1];rfl
theorem its_loop (dec:Bool) (g:List UInt8) (hg:g.length≤2) (X:List St) (Ks:List Kn) (n j:Int) (L:List One) (hL:L.length≤10) (fx:List One) (e2 e3:Int) (r:List St × ByteArray × List (List ByteArray)) :
    ∀(zs:List One) (i:Nat) (s:List UInt8) (A:List (List ByteArray)) (acc:List It),i≤L.length→L.drop i=zs→s.length+50*zs.length≤10000→A.length+zs.length≤1000→acc.length+zs.length≤1000 →
      Ev (fun k=>florinlaw08_Write.l1 k X (S (s++itsT dec g i zs)) (A++zs.map fun o=>(itA dec o).map S) (S g) Ks n j L (L.length:Int) (L.length:Int) dec fx e2 e3 dec (acc++zs.map (itI dec)) false) r →
      Ev (fun k=>florinlaw08_Write.l1 k X (S s) A (S g) Ks n j L (L.length:Int) (i:Int) dec fx e2 e3 dec acc false) r:=by
  intro zs
  induction zs with
  | nil =>
    intro i s A acc hi0 hd h1 h2 h3 hr
    have hi:i=L.length:=by
      have:=congrArg List.length hd
      rw[List.length_drop,List.length_nil] at this
      omega
    rw[List.map_nil,List.map_nil,List.append_nil,List.append_nil,show itsT dec g i []=[] by cases i <;> rfl,List.append_nil] at hr
    rw[hi]
    exact hr
  | cons o zs ih =>
    intro i s A acc hi0 hd h1 h2 h3 hr
    obtain⟨r1,hi,r2⟩:=rdO hd
    obtain⟨-,-,l3⟩:=it_len dec hg o
    rw[List.length_cons] at h1 h2 h3
    have e1:wrap64 ((i:Int)+1)=((i+1:Nat):Int):=by rw[w64 (by omega) (by omega)];omega
    have b1:(i:Int)<(L.length:Int):=Int.ofNat_lt.2 hi
    have hA:(A++[(itA dec o).map S]).length=A.length+1:=by rw[List.length_append,List.length_singleton]
    have hacc:(acc++[itI dec o]).length=acc.length+1:=by rw[List.length_append,List.length_singleton]
    refine Ev.step (fun k=>florinlaw08_Write.l1.eq_2 ..) (Ev.if_pos b1 (Ev.if_pos (Int.natCast_nonneg i) (Ev.if_pos b1 ?_)))
    rw[r1,e1]
    clear e1
    refine Ev.bind (it_ev dec g hg o) ?_
    rw[show(⟨#[44]⟩:ByteArray)=S [44] from rfl]
    cases i with
    | zero =>
      refine Ev.if_neg (by decide) ?_
      simp only[S_append]
      have hr':=ih 1 (s++itT dec g o) (A++[(itA dec o).map S]) (acc++[itI dec o]) hi r2 (by rw[List.length_append];omega) (by omega) (by omega) (by
        rw[show s++itsT dec g 0 (o::zs)=s++itT dec g o++itsT dec g 1 zs from(List.append_assoc ..).symm,List.map_cons,List.map_cons] at hr
        rw[List.append_assoc A,List.append_assoc acc]
        exact hr)
      exact Ev.if_pos (by rw[S_size,S_size];omega) (Ev.if_pos (by omega) (Ev.if_pos (by omega) hr'))
    | succ i =>
      refine Ev.if_pos (Int.ofNat_lt.2 (Nat.succ_pos i)) ?_
      simp only[S_append]
      have hr':=ih (i+2) (s++g++[44]++g++itT dec g o) (A++[(itA dec o).map S]) (acc++[itI dec o]) hi r2 (by simp only[List.length_append,List.length_singleton];omega) (by omega) (by omega) (by
        rw[show s++itsT dec g (i+1) (o::zs)=s++g++[44]++g++itT dec g o++itsT dec g (i+2) zs by show s++(g++44::(g++(itT dec g o++itsT dec g (i+2) zs)))=_;simp,List.map_cons,List.map_cons] at hr
        rw[List.append_assoc A,List.append_assoc acc]
        exact hr)
      exact Ev.if_pos (by rw[S_size,S_size];omega) (Ev.if_pos (by rw[S_size,List.length_append];omega) (Ev.if_pos (by rw[S_size,S_size,List.length_append,List.length_append,List.length_singleton];omega) (Ev.if_pos (by simp only[S_size,List.length_append,List.length_singleton];omega) (Ev.if_pos (by omega) (Ev.if_pos (by omega) hr')))))
theorem dots_ev (n:Int):∃x:Nat,Go.bits .and .i64 n 1=(x:Int)∧x<2∧rdOf ByteArray.empty [(⟨#[226,128,166]⟩:ByteArray),(⟨#[46,46,46]⟩:ByteArray)] (x:Int)=S (dotsT n)∧(dotsT n).length=3:=by
  obtain⟨x,h1,h2⟩:=low64 1 (by omega) n 1 (by decide)
  have h4:x<2:=h2
  refine⟨x,h1,h4,?_⟩
  unfold dotsT
  rw[h1]
  match x,h4 with
  | 0,_=>exact⟨rfl,rfl⟩
  | 1,_=>exact⟨rfl,rfl⟩
theorem end_ev (m:Kn) (dec:Bool) (X:List St) (Ks:List Kn) (n:Int) (j:Nat) (hj:j≤1000) (L:List One) (fx:List One) (s:List UInt8) (A:List (List ByteArray)) (its:List It) (hs:s.length≤20000) (hX:X.length≤1000) (r:List St × ByteArray × List (List ByteArray))
    (hr:Ev (fun k=>florinlaw08_Write.l0 k (X++[⟨dec,its,decide (moreS m)⟩]) (S (s++endS m)) A Ks n ((j+1:Nat):Int)) r) :
    Ev (fun k=>florinlaw08_Write.l1 k X (S s) A (S (gapS m.f3)) Ks n (j:Int) L (L.length:Int) (L.length:Int) dec fx m.f2 m.f3 dec its false) r:=by
  have hg:=(gapS_bl m.f3).2
  have e1:wrap64 ((j:Int)+1)=((j+1:Nat):Int):=by rw[w64 (by omega) (by omega)];omega
  refine Ev.step (fun k=>florinlaw08_Write.l1.eq_2 ..) (Ev.if_neg (Int.lt_irrefl _) ?_)
  rw[e1,show(⟨#[44]⟩:ByteArray)=S [44] from rfl]
  clear e1
  by_cases hm:moreS m
  · obtain⟨x,hx,hx2,hx3,hx4⟩:=dots_ev m.f2
    have e2:endS m=44::(gapS m.f3++(dotsT m.f2++gapS m.f3)):=by unfold endS;rw[_root_.if_pos hm]
    rw[e2,decide_eq_true hm] at hr
    refine Ev.if_pos hm ?_
    rw[hx]
    clear hx e2
    generalize gapS m.f3=g at hg hr ⊢
    generalize dotsT m.f2=dt at hx3 hx4 hr ⊢
    simp only[S_append]
    refine Ev.if_pos (by rw[S_size];omega) (Ev.if_pos (by simp only[S_size,List.length_append,List.length_singleton];omega) (Ev.const rfl (Ev.if_pos (Int.natCast_nonneg x) (Ev.if_pos (show(x:Int)<2 by omega) ?_))))
    rw[hx3]
    simp only[S_append]
    refine Ev.if_pos (by simp only[S_size,List.length_append,List.length_singleton];omega) (Ev.if_pos (by simp only[S_size,List.length_append,List.length_singleton];omega) (Ev.if_pos (by omega) ?_))
    have e3:s++44::(g++(dt++g))=s++[44]++g++dt++g:=by simp
    rw[e3] at hr
    exact hr
  · have e2:endS m=gapS m.f3:=by unfold endS;rw[_root_.if_neg hm]
    rw[e2,decide_eq_false hm] at hr
    refine Ev.if_neg hm ?_
    simp only[S_append]
    exact Ev.if_pos (by simp only[S_size];omega) (Ev.if_pos (by omega) hr)
theorem rdK {L:List Kn} {i:Nat} {z:Kn} {zs:List Kn} (h:L.drop i=z::zs):rd_T53 L (i:Int)=z∧i<L.length∧L.drop (i+1)=zs:=by
  have hl:=congrArg List.length h
  rw[List.length_drop,List.length_cons] at hl
  have hi:i<L.length:=by omega
  have h2:=List.drop_eq_getElem_cons hi
  rw[h] at h2
  obtain⟨e1,e2⟩:=List.cons.inj h2
  refine⟨?_,hi,e2.symm⟩
  unfold rd_T53
  rw[Int.toNat_natCast,List.getD_eq_getElem?_getD,List.getElem?_eq_getElem hi,e1];rfl
theorem its_len (dec:Bool) {g:List UInt8} (hg:g.length≤2):∀(zs:List One) (i:Nat),(itsT dec g i zs).length≤50*zs.length
  | [],i=>by cases i <;> exact Nat.zero_le _
  | o::zs,0=>by
    have h:=its_len dec hg zs 1
    obtain⟨-,-,l3⟩:=it_len dec hg o
    show(itT dec g o++itsT dec g 1 zs).length≤_
    rw[List.length_append,List.length_cons];omega
  | o::zs,i+1=>by
    have h:=its_len dec hg zs (i+2)
    obtain⟨-,-,l3⟩:=it_len dec hg o
    show(g++44::(g++(itT dec g o++itsT dec g (i+2) zs))).length≤_
    simp only[List.length_append,List.length_cons];omega
theorem os_len {m:Kn} (h:m.f1.length≤6):(osOf m).length≤6∧0<(osOf m).length:=by
  unfold osOf
  split
  · exact⟨by show 1≤6;omega,Nat.one_pos⟩
  · rename_i hne
    exact⟨h,List.length_pos_iff.2 hne⟩
theorem end_len (m:Kn):(endS m).length≤8:=by
  have hg:=(gapS_bl m.f3).2
  obtain⟨x,-,-,-,hx4⟩:=dots_ev m.f2
  unfold endS
  split
  · simp only[List.length_append,List.length_cons];omega
  · omega
theorem j1_ev (m:Kn) (h6:m.f1.length≤6) (X:List St) (Ks:List Kn) (n:Int) (j:Nat) (hj:j≤1000) (s:List UInt8) (A:List (List ByteArray)) (hs:s.length≤2000) (hX:X.length≤100) (hA:A.length≤500) (r:List St × ByteArray × List (List ByteArray))
    (hr:Ev (fun k=>florinlaw08_Write.l0 k (X++[setR m]) (S (s++(itsT m.f0 (gapS m.f3) 0 (osOf m)++endS m))) (A++setA m) Ks n ((j+1:Nat):Int)) r) :
    Ev (fun k=>florinlaw08_Write.j1 k X (S s) A (S (gapS m.f3)) Ks n (j:Int) m.f0 m.f1 m.f2 m.f3 m.f0 false) r:=by
  have hg:=(gapS_bl m.f3).2
  obtain⟨ho,-⟩:=os_len h6
  have hl:=its_len m.f0 hg (osOf m) 0
  have j2:Ev (fun k=>florinlaw08_Write.j2 k X (S s) A (S (gapS m.f3)) (osOf m) Ks n (j:Int) m.f0 m.f1 m.f2 m.f3 m.f0 false) r:=by
    refine Ev.step (fun k=>florinlaw08_Write.j2.eq_2 ..) ?_
    refine its_loop m.f0 (gapS m.f3) hg X Ks n (j:Int) (osOf m) (by omega) m.f1 m.f2 m.f3 r (osOf m) 0 s A [] (Nat.zero_le _) rfl (by omega) (by omega) (by rw[List.length_nil];omega) ?_
    refine end_ev m m.f0 X Ks n j hj (osOf m) m.f1 _ _ _ (by rw[List.length_append];omega) (by omega) r ?_
    rw[List.append_assoc,List.nil_append]
    exact hr
  refine Ev.step (fun k=>florinlaw08_Write.j1.eq_2 ..) (Ev.const rfl (Ev.if_pos (by show 0+m.f1.length<_;omega) (Ev.const rfl ?_)))
  rw[List.nil_append]
  by_cases h0:m.f1=[]
  · have e:osOf m=[⟨0,0,0,0⟩]:=by unfold osOf;rw[_root_.if_pos h0]
    rw[e] at j2
    refine Ev.if_pos (by rw[h0];rfl) (Ev.if_pos (by rw[h0];decide) ?_)
    rw[h0,List.nil_append]
    rw[h0] at j2
    exact j2
  · have e:osOf m=m.f1:=by unfold osOf;rw[_root_.if_neg h0]
    rw[e] at j2
    exact Ev.if_neg (fun h=>h0 (List.length_eq_zero_iff.1 (by omega))) j2
def wT:List Kn→List UInt8
  | []=>[]
  | m::ms=>setT m++wT ms
def FewS (l:List Kn):Prop:=l.length≤4∧∀m∈l,m.f1.length≤6
theorem setT_len {m:Kn} (h:m.f1.length≤6):(setT m).length≤330:=by
  have hg:=(gapS_bl m.f3).2
  obtain⟨ho,-⟩:=os_len h
  have hl:=its_len m.f0 hg (osOf m) 0
  have he:=end_len m
  have hw:(wordS m.f0).length=8:=by unfold wordS;split <;> rfl
  unfold setT
  simp only[List.length_append];omega
theorem setA_len {m:Kn} (h:m.f1.length≤6):(setA m).length≤6:=by
  unfold setA
  rw[List.length_map]
  exact(os_len h).1
theorem l0_ev (Ks:List Kn) (hF:FewS Ks):∀(ms:List Kn) (j:Nat) (X:List St) (s:List UInt8) (A:List (List ByteArray)),j≤Ks.length→Ks.drop j=ms→s.length+400*ms.length≤2000→X.length+ms.length≤50→A.length+6*ms.length≤100 →
    Ev (fun k=>florinlaw08_Write.l0 k X (S s) A Ks (Ks.length:Int) (j:Int)) (X++ms.map setR,S (s++wT ms),A++(ms.map setA).flatten):=by
  intro ms
  induction ms with
  | nil =>
    intro j X s A hj hd h1 h2 h3
    have hi:j=Ks.length:=by
      have:=congrArg List.length hd
      rw[List.length_drop,List.length_nil] at this
      omega
    rw[hi]
    refine Ev.step (fun k=>florinlaw08_Write.l0.eq_2 ..) (Ev.if_neg (Int.lt_irrefl _) ?_)
    rw[List.map_nil,List.map_nil,List.append_nil,List.flatten_nil,List.append_nil,wT,List.append_nil]
    exact Ev.now _
  | cons m ms ih =>
    intro j X s A hj hd h1 h2 h3
    obtain⟨r1,hi,r2⟩:=rdK hd
    have hm:m∈Ks:=List.mem_of_mem_drop (by rw[hd];exact List.mem_cons_self ..)
    have h6:=hF.2 m hm
    have h4:=hF.1
    have hg:=(gapS_bl m.f3).2
    obtain⟨x,hx,hx2,hx3⟩:=gapS_ev m.f3
    have ht:=setT_len h6
    have ha:=setA_len h6
    have b1:(j:Int)<(Ks.length:Int):=Int.ofNat_lt.2 hi
    rw[List.length_cons] at h1 h2 h3
    have hr:=ih (j+1) (X++[setR m]) (s++setT m) (A++setA m) hi r2 (by rw[List.length_append];omega) (by rw[List.length_append,List.length_singleton];omega) (by rw[List.length_append];omega)
    rw[List.append_assoc,List.append_assoc,List.append_assoc] at hr
    rw[List.map_cons,List.map_cons,List.flatten_cons,wT]
    have hr2:∀w,w=wordS m.f0→Ev (fun k=>florinlaw08_Write.j1 k X (S (s++gapS m.f3++w++gapS m.f3)) A (S (gapS m.f3)) Ks (Ks.length:Int) (j:Int) m.f0 m.f1 m.f2 m.f3 m.f0 false) (X++setR m::ms.map setR,S (s++(setT m++wT ms)),A++(setA m++(ms.map setA).flatten)):=by
      rintro w rfl
      have hw:(wordS m.f0).length=8:=by unfold wordS;split <;> rfl
      refine j1_ev m h6 X Ks _ j (by omega) _ A (by simp only[List.length_append];omega) (by omega) (by omega) _ ?_
      have e:s++gapS m.f3++wordS m.f0++gapS m.f3++(itsT m.f0 (gapS m.f3) 0 (osOf m)++endS m)=s++setT m:=by unfold setT;simp
      rw[e]
      exact hr
    refine Ev.step (fun k=>florinlaw08_Write.l0.eq_2 ..) (Ev.if_pos b1 (Ev.if_pos (Int.natCast_nonneg j) (Ev.if_pos b1 (Ev.const rfl ?_))))
    rw[r1,hx]
    clear hx
    refine Ev.if_pos (Int.natCast_nonneg x) (Ev.if_pos (show(x:Int)<4 by omega) ?_)
    rw[hx3,show(⟨#[64,100,101,99,105,109,97,108]⟩:ByteArray)=S wDec from rfl,show(⟨#[64,105,110,116,101,103,101,114]⟩:ByteArray)=S wInt from rfl]
    have w1:wDec.length=8:=rfl
    have w2:wInt.length=8:=rfl
    simp only[S_append]
    refine Ev.if_pos (by simp only[S_size];omega) ?_
    cases hd':m.f0 with
    | true=>rw[hd'] at hr2;exact Ev.if_pos rfl (Ev.if_pos (by simp only[S_size,List.length_append];omega) (Ev.if_pos (by simp only[S_size,List.length_append];omega) (hr2 wDec rfl)))
    | false=>rw[hd'] at hr2;exact Ev.if_neg Bool.false_ne_true (Ev.if_pos (by simp only[S_size,List.length_append];omega) (Ev.if_pos (by simp only[S_size,List.length_append];omega) (hr2 wInt rfl)))
theorem write_ev {l:List Kn} (h:FewS l):Ev (fun k=>florinlaw08_Write.f k l) (l.map setR,S (wT l),(l.map setA).flatten):=by
  unfold florinlaw08_Write.f
  have:=l0_ev l h l 0 [] [] [] (Nat.zero_le _) rfl (by have:=h.1;rw[List.length_nil];omega) (by have:=h.1;rw[List.length_nil];omega) (by have:=h.1;rw[List.length_nil];omega)
  rw[List.nil_append,List.nil_append,List.nil_append] at this
  exact this
end SR
end Go.Proofs.YtbhhfpjiacfofaaDoor.P
namespace Go.Proofs.YtbhhfpjiacfofaaDoor.P
open Go.RowKit Go.Proofs.YtbhhfpjiacfofaaDoorW.PrintWords Go.Proofs.YtbhhfpjiacfofaaDoorW.PrintLast Go.Proofs.YtbhhfpjiacfofaaDoorW.PrintMore Go.Proofs.YtbhhfpjiacfofaaDoor.FM
set_option linter.unusedVariables false
set_option linter.unusedSimpArgs false
namespace SR
open RG (sk tk)
/-! what is written is read -/
def Vs (V:List UInt8):Prop:=sk V=[]∨∃v,sk V=64::v
theorem Vs.stop {V:List UInt8} (h:Vs V):Stop V:=by
  rcases h with h|⟨v,h⟩
  · exact .inl h
  · exact .inr ⟨64,v,h,.inr rfl⟩
theorem sk_end (m:Kn) (V:List UInt8):(moreS m→sk (endS m++V)=44::(gapS m.f3++(dotsT m.f2++(gapS m.f3++V))))∧(¬moreS m→sk (endS m++V)=sk V):=by
  unfold endS
  constructor
  · intro h
    rw[_root_.if_pos h,List.cons_append,RG.sk_cons_ne (by decide)]
    simp
  · intro h
    rw[_root_.if_neg h,RG.sk_bl (gapS_bl m.f3).1]
theorem sk_its (dec:Bool) {g:List UInt8} (hg:RG.Bl g) (i:Nat) (o:One) (os:List One) (W:List UInt8):sk (itsT dec g (i+1) (o::os)++W)=44::(g++(itT dec g o++(itsT dec g (i+2) os++W))):=by
  show sk ((g++44::(g++(itT dec g o++itsT dec g (i+2) os)))++W)=_
  rw[List.append_assoc,RG.sk_bl hg,List.cons_append,RG.sk_cons_ne (by decide)]
  simp
theorem stop_rest (m:Kn) (dec:Bool) {g:List UInt8} (hg:RG.Bl g) {V:List UInt8} (hV:Vs V) (i:Nat) (os:List One):Stop (itsT dec g (i+1) os++(endS m++V)):=by
  cases os with
  | nil =>
    show Stop (endS m++V)
    by_cases h:moreS m
    · exact .inr ⟨44,_,(sk_end m V).1 h,.inl rfl⟩
    · have:=hV.stop
      unfold Stop at this ⊢
      rw[(sk_end m V).2 h]
      exact this
  | cons o os=>exact .inr ⟨44,_,sk_its dec hg i o os _,.inl rfl⟩
section
variable {l:List UInt8}
theorem l0_run (hl:Le l) (m:Kn) (dec:Bool) {V:List UInt8} (hV:Vs V):∀(os:List One) (i:Nat) (acc:List It) (x:List UInt8),x <:+ l→sk x=sk (itsT dec (gapS m.f3) (i+1) os++(endS m++V))→acc.length+os.length≤1000 →
    ∃y,y <:+ l∧sk y=sk V∧Ev (fun k=>sample_reader_set.l0 k (S l) (ps l x) dec acc false) (dec,acc++os.map (itI dec),decide (moreS m),S l,ps l y):=by
  have hg:=(gapS_bl m.f3).1
  intro os
  induction os with
  | nil =>
    intro i acc x hx hs ha
    rw[List.map_nil,List.append_nil]
    change sk x=sk (endS m++V) at hs
    by_cases h:moreS m
    · rw[(sk_end m V).1 h] at hs
      rw[decide_eq_true h]
      have h1:tk [44] x=some (gapS m.f3++(dotsT m.f2++(gapS m.f3++V))):=RG.tk_yes hs
      have hu:=(tk_suf h1).trans hx
      by_cases hd:Go.bits .and .i64 m.f2 1=0
      · have e:dotsT m.f2=[226,128,166]:=by unfold dotsT;rw[_root_.if_pos hd]
        rw[e] at h1 hu
        have h2:tk [226,128,166] (gapS m.f3++([226,128,166]++(gapS m.f3++V)))=some (gapS m.f3++V):=RG.tk_yes (by rw[RG.sk_bl hg];exact RG.sk_cons_ne (by decide) _)
        exact⟨gapS m.f3++V,(tk_suf h2).trans hu,RG.sk_bl hg V,l0_dots hl hx h1 h2⟩
      · have e:dotsT m.f2=[46,46,46]:=by unfold dotsT;rw[_root_.if_neg hd]
        rw[e] at h1 hu
        have hsu:sk (gapS m.f3++([46,46,46]++(gapS m.f3++V)))=[46,46,46]++(gapS m.f3++V):=by rw[RG.sk_bl hg];exact RG.sk_cons_ne (by decide) _
        have h2:tk [226,128,166] (gapS m.f3++([46,46,46]++(gapS m.f3++V)))=none:=RG.tk_no (fun c v e=>by rw[hsu] at e;rw[← (List.cons.inj e).1];decide)
        have h3:tk [46,46,46] (sk (gapS m.f3++([46,46,46]++(gapS m.f3++V))))=some (gapS m.f3++V):=RG.tk_yes (by rw[RG.sk_sk];exact hsu)
        exact⟨gapS m.f3++V,(tk_suf h3).trans ((sk_suf _).trans hu),RG.sk_bl hg V,l0_dots3 hl hx h1 h2 h3⟩
    · rw[(sk_end m V).2 h] at hs
      rw[decide_eq_false h]
      have h1:tk [44] x=none:=RG.tk_no (fun c v e=>by
        rw[hs] at e
        rcases hV with hV|⟨w,hV⟩
        · rw[hV] at e;cases e
        · rw[hV] at e;rw[← (List.cons.inj e).1];decide)
      exact⟨sk x,(sk_suf x).trans hx,by rw[RG.sk_sk];exact hs,l0_end hl hx h1⟩
  | cons o os ih =>
    intro i acc x hx hs ha
    rw[List.length_cons] at ha
    rw[sk_its dec hg] at hs
    obtain⟨⟨c,w,hc,hc1,hc2⟩,hR⟩:=it_reads dec hg o
    have h1:tk [44] x=some (gapS m.f3++(itT dec (gapS m.f3) o++(itsT dec (gapS m.f3) (i+2) os++(endS m++V)))):=RG.tk_yes hs
    have hu:=(tk_suf h1).trans hx
    have hst:=stop_rest m dec hg hV (i+1) os
    have hr2:=fun (x':List UInt8) (hx':x' <:+ l) (hs':sk x'=sk (itsT dec (gapS m.f3) (i+2) os++(endS m++V)))=>ih (i+1) (acc++[itI dec o]) x' hx' hs' (by rw[List.length_append,List.length_singleton];omega)
    generalize itsT dec (gapS m.f3) (i+2) os++(endS m++V)=rest at h1 hu hst hr2
    have hsu:sk (gapS m.f3++(itT dec (gapS m.f3) o++rest))=itT dec (gapS m.f3) o++rest:=by
      rw[RG.sk_bl hg,hc,List.cons_append,RG.sk_cons_ne (by rintro rfl;exact absurd hc1 (by decide))]
    have hh:∀(d:UInt8) (v:List UInt8),itT dec (gapS m.f3) o++rest=d::v→48≤d.toNat∧d.toNat≤57:=fun d v e=>by
      rw[hc,List.cons_append] at e
      rw[← (List.cons.inj e).1]
      exact⟨hc1,hc2⟩
    generalize hU:gapS m.f3++(itT dec (gapS m.f3) o++rest)=u at h1 hu hsu
    have h2:tk [226,128,166] u=none:=RG.tk_no (fun d v e=>by
      rw[hsu] at e
      rintro rfl
      exact absurd (hh _ _ e).2 (by decide))
    have h3:tk [46,46,46] (sk u)=none:=RG.tk_no (fun d v e=>by
      rw[RG.sk_sk,hsu] at e
      rintro rfl
      exact absurd (hh _ _ e).1 (by decide))
    obtain⟨x',hx',hs',he⟩:=hR l (sk (sk u)) rest hl ((sk_suf _).trans ((sk_suf u).trans hu)) (by rw[RG.sk_sk,RG.sk_sk];exact hsu) hst
    obtain⟨y,hy,hys,hye⟩:=hr2 x' hx' hs'
    refine⟨y,hy,hys,l0_item hl hx h1 h2 h3 he (by omega) ?_⟩
    rw[List.append_assoc] at hye
    exact hye
theorem set_run (hl:Le l) (m:Kn) (h6:m.f1.length≤6) {V x:List UInt8} (hV:Vs V) (hx:x <:+ l) (hs:sk x=sk (setT m++V)) :
    sk x≠[]∧∃y,y <:+ l∧sk y=sk V∧Ev (fun k=>sample_reader_set.f k (S l) (ps l (sk x))) (m.f0,(osOf m).map (itI m.f0),decide (moreS m),S l,ps l y):=by
  have hg:=(gapS_bl m.f3).1
  have ht:=(sk_suf x).trans hx
  obtain⟨ho,ho2⟩:=os_len h6
  have hs2:sk x=wordS m.f0++(gapS m.f3++(itsT m.f0 (gapS m.f3) 0 (osOf m)++(endS m++V))):=by
    rw[hs]
    unfold setT
    rw[List.append_assoc,RG.sk_bl hg]
    have:∀W,sk (wordS m.f0++W)=wordS m.f0++W:=fun W=>by
      unfold wordS
      split
      · exact RG.sk_cons_ne (by decide) _
      · exact RG.sk_cons_ne (by decide) _
    rw[List.append_assoc,this]
    simp
  generalize hos:osOf m=os at hs2 ho ho2 ⊢
  cases os with
  | nil=>exact absurd ho2 (by decide)
  | cons o os =>
    rw[List.length_cons] at ho
    obtain⟨⟨c,w,hc,hc1,hc2⟩,hR⟩:=it_reads m.f0 hg o
    have hst:=stop_rest m m.f0 hg hV 0 os
    have hu2:sk (gapS m.f3++(itsT m.f0 (gapS m.f3) 0 (o::os)++(endS m++V)))=itT m.f0 (gapS m.f3) o++(itsT m.f0 (gapS m.f3) 1 os++(endS m++V)):=by
      show sk (gapS m.f3++((itT m.f0 (gapS m.f3) o++itsT m.f0 (gapS m.f3) 1 os)++(endS m++V)))=_
      rw[RG.sk_bl hg,List.append_assoc,hc,List.cons_append,RG.sk_cons_ne (by rintro rfl;exact absurd hc1 (by decide))]
    generalize gapS m.f3++(itsT m.f0 (gapS m.f3) 0 (o::os)++(endS m++V))=u at hs2 hu2
    refine⟨?_,?_⟩
    · rw[hs2]
      unfold wordS
      split <;> exact List.cons_ne_nil _ _
    generalize sk x=t at hs2 ht
    have hul:u <:+ l:=by
      rw[hs2] at ht
      exact(List.suffix_append _ u).trans ht
    obtain⟨x',hx',hs',he⟩:=hR l u _ hl hul hu2 hst
    obtain⟨y,hy,hys,hye⟩:=l0_run hl m m.f0 hV os 0 [itI m.f0 o] x' hx' hs' (by rw[List.length_singleton];omega)
    refine⟨y,hy,hys,?_⟩
    cases hd:m.f0 with
    | false =>
      rw[hd] at he hye hs2
      have hst2:sk t=wInt++u:=by rw[hs2];exact RG.sk_cons_ne (by decide) _
      exact set_int hl ht (RG.tk_yes hst2) he hye
    | true =>
      rw[hd] at he hye hs2
      have hst2:sk t=wDec++u:=by rw[hs2];exact RG.sk_cons_ne (by decide) _
      have h0:tk wInt t=none:=by
        unfold RG.tk
        rw[hst2,_root_.if_neg]
        rintro⟨v,hv⟩
        simp[wInt,wDec] at hv
      exact set_dec hl ht h0 (RG.tk_yes (by rw[RG.sk_sk];exact hst2)) he hye
theorem w_vs (ms:List Kn):Vs (wT ms):=by
  cases ms with
  | nil=>exact .inl rfl
  | cons m ms =>
    refine .inr ?_
    show ∃v,sk (setT m++wT ms)=64::v
    unfold setT wordS
    rw[List.append_assoc,RG.sk_bl (gapS_bl m.f3).1]
    split
    · exact⟨_,RG.sk_cons_ne (by decide) _⟩
    · exact⟨_,RG.sk_cons_ne (by decide) _⟩
theorem pl_run (hl:Le l):∀(ms:List Kn) (out:List St) (x:List UInt8),(∀m∈ms,m.f1.length≤6)→x <:+ l→sk x=sk (wT ms)→out.length+ms.length≤1000→Ev (fun k=>sample_Parse.l0 (S l) k out (S l) (ps l (sk x))) (out++ms.map setR):=by
  intro ms
  induction ms with
  | nil =>
    intro out x hF hx hs ha
    rw[hs,List.map_nil,List.append_nil]
    exact pl0_end hl
  | cons m ms ih =>
    intro out x hF hx hs ha
    rw[List.length_cons] at ha
    obtain⟨hne,y,hy,hys,he⟩:=set_run hl m (hF m (List.mem_cons_self ..)) (w_vs ms) hx hs
    have h:=ih (out++[setR m]) y (fun z hz=>hF z (List.mem_cons_of_mem _ hz)) hy hys (by rw[List.length_append,List.length_singleton];omega)
    rw[List.append_assoc] at h
    exact pl0_step hl ((sk_suf x).trans hx) hne hy he (by omega) h
end
theorem wT_len:∀ms:List Kn,(∀m∈ms,m.f1.length≤6)→(wT ms).length≤330*ms.length
  | [],_=>Nat.zero_le _
  | m::ms,h=>by
    have h1:=wT_len ms (fun z hz=>h z (List.mem_cons_of_mem _ hz))
    have h2:=setT_len (h m (List.mem_cons_self ..))
    rw[wT,List.length_append,List.length_cons];omega
theorem parse_w {ms:List Kn} (h:FewS ms):Ev (fun k=>sample_Parse.f k (S (wT ms))) (ms.map setR,0,0):=by
  have hl:Le (wT ms):=by have:=wT_len ms h.2;have:=h.1;unfold Le;omega
  exact parse_ok hl (pl_run hl ms [] (wT ms) h.2 (List.suffix_refl _) rfl (by have:=h.1;rw[List.length_nil];omega))
end SR
namespace SR
theorem few_l0 (L:List Kn) (hL:L.length≤4):∀(d i:Nat),i+d=L.length→∃b,Ev (fun k=>florinlaw08_Few.l0 k L (L.length:Int) (i:Int)) b∧(b=true→∀m∈L.drop i,m.f1.length≤6):=by
  intro d
  induction d with
  | zero =>
    intro i hi
    refine⟨true,Ev.step (fun k=>florinlaw08_Few.l0.eq_2 ..) (Ev.if_neg (by omega) (Ev.now _)),fun _ m hm=>?_⟩
    rw[List.drop_of_length_le (by omega)] at hm
    cases hm
  | succ d ih =>
    intro i hi
    have hlt:i<L.length:=by omega
    have hd:=List.drop_eq_getElem_cons hlt
    obtain⟨r1,-,-⟩:=rdK hd
    obtain⟨b,h1,h2⟩:=ih (i+1) (by omega)
    have e1:wrap64 ((i:Int)+1)=((i+1:Nat):Int):=by rw[w64 (by omega) (by omega)];omega
    have b1:(i:Int)<(L.length:Int):=Int.ofNat_lt.2 hlt
    by_cases h6:((L[i].f1.length:Nat):Int)>6
    · refine⟨false,Ev.step (fun k=>florinlaw08_Few.l0.eq_2 ..) (Ev.if_pos b1 (Ev.if_pos (Int.natCast_nonneg i) (Ev.if_pos b1 ?_))),fun h=>by cases h⟩
      rw[r1]
      exact Ev.if_pos h6 (Ev.now _)
    · refine⟨b,Ev.step (fun k=>florinlaw08_Few.l0.eq_2 ..) (Ev.if_pos b1 (Ev.if_pos (Int.natCast_nonneg i) (Ev.if_pos b1 ?_))),fun h m hm=>?_⟩
      · rw[r1,e1]
        exact Ev.if_neg h6 h1
      · rw[hd] at hm
        rcases List.mem_cons.1 hm with rfl|hm
        · clear e1;omega
        · exact h2 h m hm
theorem few_ev (L:List Kn):∃b,Ev (fun k=>florinlaw08_Few.f k L) b∧(b=true→FewS L):=by
  unfold florinlaw08_Few.f
  by_cases h:(L.length:Int)>4
  · exact⟨false,Ev.if_pos h (Ev.now _),fun h=>by cases h⟩
  · obtain⟨b,h1,h2⟩:=few_l0 L (by omega) L.length 0 (Nat.zero_add _)
    exact⟨b,Ev.if_neg h h1,fun hb=>⟨by omega,h2 hb⟩⟩
end SR
end Go.Proofs.YtbhhfpjiacfofaaDoor.P
