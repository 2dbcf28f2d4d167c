import Derived.Test.YtbhhfpjiacfofaaDoorO1
import Derived.Test.YtbhhfpjiacfofaaDoorMA
import Derived.Test.YtbhhfpjiacfofaaDoorPx2
import Derived.Test.YtbhhfpjiacfofaaDoorPx3
import Derived.Test.YtbhhfpjiacfofaaDoorPx4
import Derived.Test.YtbhhfpjiacfofaaDoorPx5
import Derived.Test.YtbhhfpjiacfofaaDoorPx6
import Derived.Test.YtbhhfpjiacfofaaDoorPx7
import Derived.Test.YtbhhfpjiacfofaaDoorSA
namespace Go.Proofs.YtbhhfpjiacfofaaDoor.P
open Go.RowKit Go.Proofs.YtbhhfpjiacfofaaDoorW.PrintWords Go.Proofs.YtbhhfpjiacfofaaDoorW.PrintLast Go.Proofs.YtbhhfpjiacfofaaDoorW.PrintMore Go.Proofs.YtbhhfpjiacfofaaDoor.FM
set_option linter.unusedVariables false
set_option linter.unusedSimpArgs false
/-! samples' texts: what is left of the text; numbers, and the steps from one to another -/
namespace SR
open RG (sk tk)
def ps (l t:List UInt8):Int:=(l.length:Int)-(t.length:Int)
theorem ps_len (l:List UInt8):ps l l=0:=by unfold ps;omega
theorem bt_suf {l u:List UInt8} {c:UInt8} (h:(c::u) <:+ l):bt (S l) (ps l (c::u))=(c.toNat:Int):=by
  obtain⟨p,rfl⟩:=h
  have:(ps (p++c::u) (c::u)).toNat=p.length:=by unfold ps;rw[List.length_append];omega
  rw[bt_S,this,List.getD_eq_getElem?_getD,List.getElem?_append_right (Nat.le_refl _),Nat.sub_self];rfl
theorem ext_suf {l t:List UInt8} (h:t <:+ l):(S l).extract (ps l t).toNat (S l).size=S t:=by
  obtain⟨p,rfl⟩:=h
  have:(ps (p++t) t).toNat=p.length:=by unfold ps;rw[List.length_append];omega
  rw[this,S_size,S_extract,List.take_length,List.drop_left]
theorem ext_pre {l t w u:List UInt8} (h:t <:+ l) (e:t=w++u):(S l).extract (ps l t).toNat (ps l u).toNat=S w:=by
  obtain⟨p,rfl⟩:=h
  subst e
  have h1:(ps (p++(w++u)) (w++u)).toNat=p.length:=by unfold ps;rw[List.length_append];omega
  have h2:(ps (p++(w++u)) u).toNat=(p++w).length:=by unfold ps;simp only[List.length_append];omega
  rw[h1,h2,S_extract, ← List.append_assoc,List.take_left,List.drop_left]
theorem suf_tail {l u:List UInt8} {c:UInt8} (h:(c::u) <:+ l):u <:+ l:=(List.suffix_cons c u).trans h
theorem ps_tail (l u:List UInt8) (c:UInt8):ps l (c::u)+1=ps l u:=by unfold ps;rw[List.length_cons];omega
theorem ps_app {l t w u:List UInt8} (e:t=w++u):ps l t+(w.length:Int)=ps l u:=by subst e;unfold ps;rw[List.length_append];omega
theorem ps_nn {l t:List UInt8} (h:t <:+ l):0≤ps l t:=by have:=h.length_le;unfold ps;omega
theorem ps_le (l t:List UInt8):ps l t≤l.length:=by unfold ps;omega
theorem sk_suf (t:List UInt8):sk t <:+ t:=List.dropWhile_suffix _
theorem tw_split (p:UInt8→Bool) (t:List UInt8):t=t.takeWhile p++t.drop (t.takeWhile p).length:=by
  have:=List.takeWhile_append_dropWhile (p:=p) (l:=t)
  have h2:t.drop (t.takeWhile p).length=t.dropWhile p:=by
    conv=>lhs;arg 2;rw[← this]
    exact List.drop_left
  rw[h2,this]
theorem tk_split {w t u:List UInt8} (h:tk w t=some u):sk t=w++u:=by
  unfold RG.tk at h
  split at h
  · rename_i hp
    obtain⟨v,hv⟩:=hp
    rw[← hv,List.drop_left] at h
    rw[← hv,Option.some.inj h]
  · cases h
theorem tk_suf {w t u:List UInt8} (h:tk w t=some u):u <:+ t:=by
  have:=tk_split h
  exact(List.suffix_append w u).trans (this▸sk_suf t)
abbrev Le (l:List UInt8):Prop:=l.length≤20000
section
variable {l:List UInt8}
theorem blanks_ev (hl:Le l):∀t:List UInt8,t <:+ l→Ev (fun k=>sample_reader_blanks.f k (S l) (ps l t)) (S l,ps l (sk t))
  | [],h=>by
    unfold sample_reader_blanks.f
    refine Ev.step (f:=fun _=>some (S l,ps l [])) (fun k=>?_) (Ev.now _)
    have:ps l []=l.length:=by unfold ps;simp
    rw[sample_reader_blanks.l0,this,S_size,_root_.if_neg (by omega)]
  | c::u,h=>by
    have hlen:=h.length_le
    rw[List.length_cons] at hlen
    have hp:ps l (c::u)=(l.length:Int)-(u.length+1:Nat):=by unfold ps;rw[List.length_cons]
    have hb:=bt_suf h
    by_cases hc:c=32
    · subst hc
      have ih:=blanks_ev hl u (suf_tail h)
      have e:sk (32::u)=sk u:=rfl
      rw[e]
      unfold sample_reader_blanks.f at ih ⊢
      refine Ev.step (fun k=>?_) ih
      rw[sample_reader_blanks.l0,S_size,_root_.if_pos (by omega),_root_.if_pos (by omega),hb,_root_.if_pos (show(((32:UInt8).toNat:Nat):Int)=32 from rfl),w64 (by omega) (by omega),ps_tail]
    · rw[RG.sk_cons_ne hc]
      unfold sample_reader_blanks.f
      refine Ev.step (f:=fun _=>some (S l,ps l (c::u))) (fun k=>?_) (Ev.now _)
      have h32:¬(c.toNat:Int)=32:=by
        intro e
        apply hc
        apply UInt8.toNat_inj.1
        show c.toNat=32
        omega
      rw[sample_reader_blanks.l0,S_size,_root_.if_pos (by omega),_root_.if_pos (by omega),hb,_root_.if_neg h32]
theorem pre_ev (a w:List UInt8):strings_HasPrefix.f (S a) (S w)=some (decide (w <+:a)):=by
  unfold strings_HasPrefix.f stringslite_HasPrefix.f
  rw[S_size,S_size]
  by_cases h:(a.length:Int)≥(w.length:Int)
  · rw[_root_.if_pos h,_root_.if_pos (by omega),_root_.if_pos (by omega),Option.bind_some]
    congr 1
    rw[Int.toNat_natCast,S_extract,List.drop_zero,S_toList,S_toList]
    by_cases hw:w <+:a
    · rw[decide_eq_true hw];rw[beq_iff_eq];exact(List.prefix_iff_eq_take.1 hw).symm
    · rw[decide_eq_false hw];rw[beq_eq_false_iff_ne];intro e;exact hw (List.prefix_iff_eq_take.2 e.symm)
  · rw[_root_.if_neg h,Option.bind_some]
    congr 1
    symm
    exact decide_eq_false (fun hw=>by have:=hw.length_le;omega)
theorem take_yes (hl:Le l) {t u w:List UInt8} (ht:t <:+ l) (h:tk w t=some u):Ev (fun k=>sample_reader_take.f k (S l) (ps l t) (S w)) (true,S l,ps l u):=by
  have h2:=(sk_suf t).trans ht
  have hs:=tk_split h
  have h3:u <:+ l:=by rw[hs] at h2;exact(List.suffix_append w u).trans h2
  unfold sample_reader_take.f
  refine Ev.bind (blanks_ev hl t ht) ?_
  dsimp only
  rw[ext_suf h2,S_size]
  refine Ev.if_pos (ps_nn h2) (Ev.if_pos (ps_le _ _) (Ev.const (pre_ev _ _) ?_))
  have hw:wrap64 (ps l (sk t)+((S w).size:Int))=ps l u:=by
    rw[S_size,ps_app hs];exact w64 (by have:=ps_nn h3;omega) (by have:=ps_le l u;omega)
  rw[hw]
  exact Ev.if_pos (decide_eq_true (by rw[hs];exact List.prefix_append _ _)) (Ev.now _)
theorem take_no (hl:Le l) {t w:List UInt8} (ht:t <:+ l) (h:tk w t=none):Ev (fun k=>sample_reader_take.f k (S l) (ps l t) (S w)) (false,S l,ps l (sk t)):=by
  have h2:=(sk_suf t).trans ht
  have hn:¬w <+:sk t:=by
    intro hp
    unfold RG.tk at h
    rw[_root_.if_pos hp] at h
    cases h
  unfold sample_reader_take.f
  refine Ev.bind (blanks_ev hl t ht) ?_
  dsimp only
  rw[ext_suf h2,S_size]
  refine Ev.if_pos (ps_nn h2) (Ev.if_pos (ps_le _ _) (Ev.const (pre_ev _ _) ?_))
  exact Ev.if_neg (by simpa using hn) (Ev.now _)
end
/-! a number's text -/
def numC:List UInt8:=[48,49,50,51,52,53,54,55,56,57,46,99,101]
def nc (c:UInt8):Bool:=decide (c∈numC)
def good (d:List UInt8):Prop:=readOk d∧nvl (rdE d)≤10000∧(rdW d).length+(rdP d).length≤1000
/-- what stands behind the point -/
def frac (d:List UInt8):List UInt8:=(rdP d).drop (ofN (rdP d) (nvl (rdE d):Int))
open Classical in
noncomputable def value (dec:Bool) (t:List UInt8):Except (RG.Er × List UInt8) (List UInt8 × List UInt8) :=
  if ¬readOk ((sk t).takeWhile nc) then .error (.form,sk t)
  else if ¬(nvl (rdE ((sk t).takeWhile nc))≤10000∧(rdW ((sk t).takeWhile nc)).length+(rdP ((sk t).takeWhile nc)).length≤1000) then .error (.long,sk t)
  else if dec=false∧frac ((sk t).takeWhile nc)≠[] then .error (.form,sk t)
  else .ok ((sk t).takeWhile nc,(sk t).drop ((sk t).takeWhile nc).length)
theorem value_is {dec:Bool} {t d u:List UInt8} (h:value dec t= .ok (d,u)):d=(sk t).takeWhile nc∧u=(sk t).drop d.length∧good d∧(dec=false→frac d=[]):=by
  unfold value at h
  split at h
  · cases h
  rename_i h1
  split at h
  · cases h
  rename_i h2
  split at h
  · cases h
  rename_i h3
  injection h with h
  injection h with e1 e2
  have h1':=Classical.not_not.1 h1
  have h2':=Classical.not_not.1 h2
  rw[e1] at h1' h2' h3 e2
  exact⟨e1.symm,e2.symm,⟨h1',h2'⟩,fun hd=>Classical.not_not.1 (fun hf=>h3 ⟨hd,hf⟩)⟩
theorem value_no {dec:Bool} {t r:List UInt8} {e:RG.Er} (h:value dec t= .error (e,r)):r=sk t∧((e= .form∧¬readOk ((sk t).takeWhile nc))∨(e= .long∧readOk ((sk t).takeWhile nc)∧(10000<nvl (rdE ((sk t).takeWhile nc))∨1000<(rdW ((sk t).takeWhile nc)).length+(rdP ((sk t).takeWhile nc)).length))∨(e= .form∧good ((sk t).takeWhile nc)∧dec=false∧frac ((sk t).takeWhile nc)≠[])):=by
  unfold value at h
  split at h
  · rename_i h1
    injection h with h
    injection h with e1 e2
    exact⟨e2.symm,.inl ⟨e1.symm,h1⟩⟩
  rename_i h1
  have h1':=Classical.not_not.1 h1
  split at h
  · rename_i h2
    injection h with h
    injection h with e1 e2
    refine⟨e2.symm,.inr (.inl ⟨e1.symm,h1',?_⟩)⟩
    by_cases h3:nvl (rdE ((sk t).takeWhile nc))≤10000
    · exact .inr (by have:=fun h4=>h2 ⟨h3,h4⟩;omega)
    · exact .inl (by omega)
  rename_i h2
  have h2':=Classical.not_not.1 h2
  split at h
  · rename_i h3
    injection h with h
    injection h with e1 e2
    exact⟨e2.symm,.inr (.inr ⟨e1.symm,⟨h1',h2'⟩,h3.1,h3.2⟩)⟩
  · cases h
section
variable {l:List UInt8}
theorem idx_nc {c:UInt8} {t:List UInt8} {u:List UInt8} (ht:t <:+ l) {w:List UInt8} (e:t=w++c::u) (hl:Le l) :
    wrap64 (ps l t+(w.length:Int))=ps l (c::u)∧0≤ps l (c::u)∧ps l (c::u)<(l.length:Int)∧strings_IndexByte.f (⟨#[48,49,50,51,52,53,54,55,56,57,46,99,101]⟩:ByteArray) (bt (S l) (ps l (c::u)))=some (Lib.indexByte numC c):=by
  have hsu:(c::u) <:+ l:=(by rw[e] at ht;exact(List.suffix_append w (c::u)).trans ht)
  have h0:=ps_nn hsu
  have h1:ps l (c::u)<(l.length:Int):=by unfold ps;rw[List.length_cons];omega
  refine⟨by rw[ps_app e];exact w64 (by omega) (by omega),h0,h1,?_⟩
  rw[bt_suf hsu]
  unfold strings_IndexByte.f
  rw[toUInt8_toNat]
  rfl
/-- the loop goes on to the number's end -/
theorem value_run (hl:Le l) (dec:Bool) {r:ByteArray × ByteArray × Int} {t:List UInt8} (ht:t <:+ l) (hj:Ev (fun k=>sample_reader_value.j1 k dec ((t.takeWhile nc).length:Int) (S l) (ps l t)) r):∀(w u:List UInt8),t=w++u→t.takeWhile nc=w++u.takeWhile nc→Ev (fun k=>sample_reader_value.l0 k dec (w.length:Int) (S l) (ps l t)) r
  | w,[],e,e2=>by
    have hw:wrap64 (ps l t+(w.length:Int))=l.length:=by
      have:=ht.length_le
      rw[e,List.append_nil] at this ⊢
      unfold ps;rw[w64 (by omega) (by omega)];omega
    refine Ev.step (fun k=>sample_reader_value.l0.eq_2 ..) (Ev.if_neg (by rw[hw,S_size];omega) ?_)
    rw[e2,List.takeWhile_nil,List.append_nil] at hj
    exact hj
  | w,c::u,e,e2=>by
    obtain⟨h1,h2,h3,h4⟩:=idx_nc ht e hl
    refine Ev.step (fun k=>sample_reader_value.l0.eq_2 ..) (Ev.if_pos (by rw[h1,S_size];exact h3) (Ev.if_pos (by rw[h1];exact h2) ?_))
    rw[h1]
    refine Ev.const h4 ?_
    by_cases hc:nc c=true
    · refine Ev.if_pos ((indexByte_mem numC c).2 (of_decide_eq_true hc)) ?_
      have ih:=value_run hl dec ht hj (w++[c]) u (by rw[e];simp) (by rw[e2,List.takeWhile_cons_of_pos hc];simp)
      rw[List.length_append,List.length_singleton] at ih
      have hwl:w.length≤l.length:=by have:=ht.length_le;rw[e,List.length_append] at this;omega
      have e3:wrap64 ((w.length:Int)+1)=((w.length+1:Nat):Int):=by rw[w64 (by omega) (by omega)];omega
      rw[e3]
      exact ih
    · refine Ev.if_neg (fun h=>hc (decide_eq_true ((indexByte_mem numC c).1 h))) ?_
      rw[e2,List.takeWhile_cons_of_neg hc,List.append_nil] at hj
      exact hj
theorem V_ev (o:ByteArray) (f:List UInt8) (e:Int):operand_Ops_V.f o (S f) e=some (f.length:Int):=by
  unfold operand_Ops_V.f
  rw[S_size]
theorem Read_good {d:List UInt8} (h:good d) (hl:d.length≤100000):Ev (fun k=>operand_Read.f k (S d)) (S (mkl (ofInt (rdW d) (rdP d) (nvl (rdE d):Int))),S (frac d),(ofE (nvl (rdE d):Int):Int),0):=Read_ok d hl h.1 h.2.1 h.2.2
theorem value_ok (hl:Le l) {dec:Bool} {t d u:List UInt8} (ht:t <:+ l) (h:value dec t= .ok (d,u)):u <:+ l∧Ev (fun k=>sample_reader_value.f k (S l) (ps l t) dec) (S d,S l,ps l u):=by
  have h2:=(sk_suf t).trans ht
  obtain⟨hd,hu,hg,hf⟩:=value_is h
  have hs:sk t=d++u:=by rw[hu,hd];exact tw_split nc (sk t)
  have h3:u <:+ l:=by rw[hs] at h2;exact(List.suffix_append d u).trans h2
  refine⟨h3,?_⟩
  have hw:wrap64 (ps l (sk t)+(d.length:Int))=ps l u:=by rw[ps_app hs];exact w64 (by have:=ps_nn h3;omega) (by have:=ps_le l u;omega)
  have hdl:d.length≤100000:=by have:=h2.length_le;rw[hs,List.length_append] at this;unfold Le at hl;omega
  unfold sample_reader_value.f
  refine Ev.bind (blanks_ev hl t ht) (value_run hl dec h2 ?_ [] (sk t) rfl rfl)
  rw[← hd]
  refine Ev.step (fun k=>sample_reader_value.j1.eq_2 ..) (Ev.if_pos (ps_nn h2) (Ev.if_pos (by rw[hw];have:=ps_app (l:=l) hs;omega) (Ev.if_pos (by rw[hw,S_size];exact ps_le _ _) ?_)))
  rw[hw,ext_pre h2 hs]
  refine Ev.bind (Read_good hg hdl) (Ev.if_pos rfl ?_)
  cases dec with
  | true=>exact Ev.if_pos rfl (Ev.now _)
  | false =>
    refine Ev.if_neg (by decide) (Ev.const (V_ev _ _ _) (Ev.if_neg ?_ (Ev.now _)))
    rw[hf rfl];decide
end
/-! steps -/
/-- a number's digits, and how many stand behind the point -/
def pl (s:List UInt8):List UInt8 × Nat:=((cutL s [46]).1++(cutL s [46]).2.1,(cutL s [46]).2.1.length)
open Classical in
noncomputable def steps (lo hi:List UInt8):Option Nat:=if Dig (pl lo).1∧Dig (pl hi).1∧(pl lo).2=(pl hi).2∧nvl (pl lo).1≤nvl (pl hi).1 then some (if nvl (pl hi).1-nvl (pl lo).1<10 ^ 18 then nvl (pl hi).1-nvl (pl lo).1 else 1000) else none
theorem pl_len (s:List UInt8):(pl s).1.length≤s.length∧(pl s).2≤(pl s).1.length:=by
  have:∀s:List UInt8,(cutL s [46]).1.length+(cutL s [46]).2.1.length≤s.length:=by
    intro s
    induction s with
    | nil=>simp[cutL_nil]
    | cons c s ih =>
      rw[cutL_cons]
      split
      · simp
      · split
        · simp only[List.length_cons];omega
        · simp
  unfold pl
  dsimp only
  rw[List.length_append]
  exact⟨this s,by omega⟩
theorem idx_cut:∀s:List UInt8,Lib.indexByte s 46=if (cutL s [46]).2.2=true then ((cutL s [46]).1.length:Int) else -1
  | []=>rfl
  | c::s=>by
    have ih:=idx_cut s
    by_cases hc:c=46
    · rw[cutL_cons,_root_.if_pos (show c∈([46]:List UInt8) by simpa using hc)]
      subst hc;rfl
    · have e1:Lib.indexByte (c::s) 46=if Lib.indexByte s 46= -1 then -1 else Lib.indexByte s 46+1:=by
        conv=>lhs;unfold Lib.indexByte
        rw[_root_.if_neg (by simpa using hc)]
        by_cases h:Lib.indexByte s 46= -1
        · rw[_root_.if_pos (by simpa using h),_root_.if_pos h]
        · rw[_root_.if_neg (by simpa using h),_root_.if_neg h]
      rw[e1,ih,cutL_cons,_root_.if_neg (show ¬c∈([46]:List UInt8) by simpa using hc)]
      by_cases h:(cutL s [46]).2.2=true
      · rw[_root_.if_pos h,_root_.if_pos h,_root_.if_pos rfl,_root_.if_neg (by omega)]
        dsimp only
        rw[List.length_cons];omega
      · rw[_root_.if_neg h,_root_.if_neg h]
        rfl
theorem cut_parts:∀s:List UInt8,((cutL s [46]).2.2=true→s=(cutL s [46]).1++46::(cutL s [46]).2.1)∧((cutL s [46]).2.2=false→(cutL s [46]).1=s∧(cutL s [46]).2.1=[])
  | []=>⟨fun h=>(by cases h),fun _=>⟨rfl,rfl⟩⟩
  | c::s=>by
    have ih:=cut_parts s
    rw[cutL_cons]
    by_cases hc:c∈([46]:List UInt8)
    · have hc':c=46:=by simpa using hc
      rw[_root_.if_pos hc]
      exact⟨fun _=>by rw[hc'];rfl,fun h=>by cases h⟩
    · rw[_root_.if_neg hc]
      by_cases h:(cutL s [46]).2.2=true
      · rw[_root_.if_pos h]
        refine⟨fun _=>?_,fun h=>by cases h⟩
        dsimp only
        rw[List.cons_append, ← ih.1 h]
      · rw[_root_.if_neg h]
        exact⟨fun h=>(by cases h),fun _=>⟨rfl,rfl⟩⟩
theorem strCut_ev {s:List UInt8} (hs:s.length≤100000):strings_Cut.f (S s) (⟨#[46]⟩:ByteArray)=some (S (cutL s [46]).1,S (cutL s [46]).2.1,(cutL s [46]).2.2):=by
  unfold strings_Cut.f stringslite_Cut.f
  have hi:stringslite_Index.f (S s) (⟨#[46]⟩:ByteArray)=some (Lib.indexByte s 46):=by
    unfold stringslite_Index.f
    rw[dif_pos (show(⟨#[46]⟩:ByteArray).size=1 from rfl)]
    rfl
  obtain⟨h1,h2⟩:=cut_parts s
  rw[hi,idx_cut,Option.bind_some,S_size]
  by_cases h:(cutL s [46]).2.2=true
  · have e:=h1 h
    have hlen:=congrArg List.length e
    rw[List.length_append,List.length_cons] at hlen
    rw[_root_.if_pos h,_root_.if_pos (by omega),_root_.if_pos (by omega),_root_.if_pos (by omega)]
    have e1:(((⟨#[46]⟩:ByteArray).size:Nat):Int)=1:=rfl
    rw[e1,w64 (by omega) (by omega),_root_.if_pos (by omega),_root_.if_pos (by omega),Option.bind_some]
    have t1:((cutL s [46]).1.length:Int).toNat=(cutL s [46]).1.length:=rfl
    have t2:(((cutL s [46]).1.length:Int)+1).toNat=(cutL s [46]).1.length+1:=by omega
    have x1:s.take (cutL s [46]).1.length=(cutL s [46]).1:=by
      conv=>lhs;arg 2;rw[e]
      rw[List.take_left]
    have x2:s.drop ((cutL s [46]).1.length+1)=(cutL s [46]).2.1:=by
      conv=>lhs;arg 2;rw[e]
      rw[show(cutL s [46]).1.length+1=((cutL s [46]).1++[46]).length by simp,show(cutL s [46]).1++46::(cutL s [46]).2.1=((cutL s [46]).1++[46])++(cutL s [46]).2.1 by simp,List.drop_left]
    rw[t1,t2,S_extract,S_extract,x1,List.drop_zero,show s.take s.length=s from List.take_length,x2,h]
  · have hf:(cutL s [46]).2.2=false:=by simpa using h
    obtain⟨e1,e2⟩:=h2 hf
    rw[_root_.if_neg h,_root_.if_neg (by omega),Option.bind_some,e1,e2,hf]
    rfl
end SR
end Go.Proofs.YtbhhfpjiacfofaaDoor.P
namespace Go.Proofs.YtbhhfpjiacfofaaDoor.P
open Go.RowKit Go.Proofs.YtbhhfpjiacfofaaDoorW.PrintWords Go.Proofs.YtbhhfpjiacfofaaDoorW.PrintLast Go.Proofs.YtbhhfpjiacfofaaDoorW.PrintMore Go.Proofs.YtbhhfpjiacfofaaDoor.FM
set_option linter.unusedVariables false
set_option linter.unusedSimpArgs false

namespace SR
def Ex {α β:Type} (a:Option α) (b:Option β):Prop:=a=none∨b=none
theorem Ex.l {α β:Type} (b:Option β):Ex (none:Option α) b:= .inl rfl
theorem Ex.r {α β:Type} (a:Option α):Ex a (none:Option β):= .inr rfl
theorem Ex.ite {α β:Type} {c:Prop} [Decidable c] {a b:Option α} {x y:Option β} (h1:Ex a x) (h2:Ex b y):Ex (if c then a else b) (if c then x else y):=by split;exact h1;exact h2
theorem Ex.bind {α β γ:Type} {X:Option γ} {f:γ→Option α} {g:γ→Option β} (h:∀t,Ex (f t) (g t)):Ex (X.bind f) (X.bind g):=by
  cases X with
  | none=>exact .inl rfl
  | some t=>exact h t
theorem Ex.orf {α β γ δ:Type} {X:Option γ} {Y:Option δ} {f:γ→Option α} {g:γ→Option β} {u:δ→Option β} (h0:Ex X Y) (h:∀t,Ex (f t) (g t)):Ex (X.bind f) (orf_ (Y.bind u) (X.bind g)):=by
  rcases h0 with h0|h0
  · subst h0;exact .inl rfl
  · subst h0
    exact Ex.bind h
theorem Ex.one {α β γ δ:Type} {X:Option γ} {Y:Option δ} {f:γ→Option α} {u:δ→Option β} (h0:Ex X Y):Ex (X.bind f) (Y.bind u):=by
  rcases h0 with h0|h0
  · subst h0;exact .inl rfl
  · subst h0;exact .inr rfl
theorem Ex.none {α β:Type} {a:Option α} {b:Option β} {r:α} (h:Ex a b) (ha:a=some r):b=Option.none:=by
  rcases h with h|h
  · rw[h] at ha;cases ha
  · exact h
theorem Ev.orfR {β γ δ:Type} {X:Nat→Option γ} {Y:Nat→Option δ} {v:γ} {r:β} {u:Nat→δ→Option β} {F:Nat→γ→Option β} (hx:Ev X v) (hex:∀k,Ex (X k) (Y k)) (h:Ev (fun k=>F k v) r):Ev (fun k=>orf_ ((Y k).bind (u k)) ((X k).bind (F k))) r:=by
  obtain⟨n1,h1⟩:=hx
  obtain⟨n2,h2⟩:=h
  refine⟨max n1 n2,fun k hk=>?_⟩
  have e1:=h1 k (by omega)
  have e2:=(hex k).none e1
  show orf_ ((Y k).bind (u k)) ((X k).bind (F k))=_
  rw[e2,e1]
  exact h2 k (by omega)
theorem Ev.orfL {β δ:Type} {Y:Nat→Option δ} {Z:Nat→Option β} {v:δ} {r:β} {u:Nat→δ→Option β} (hy:Ev Y v) (h:Ev (fun k=>u k v) r):Ev (fun k=>orf_ ((Y k).bind (u k)) (Z k)) r:=by
  obtain⟨n1,h1⟩:=hy
  obtain⟨n2,h2⟩:=h
  refine⟨max n1 n2,fun k hk=>?_⟩
  show orf_ ((Y k).bind (u k)) (Z k)=_
  rw[h1 k (by omega),Option.bind_some,show u k v=some r from h2 k (by omega)]
  rfl
theorem value_exl:∀k,(∀a0 a1 a2 a3,Ex (sample_reader_value.j1 k a0 a1 a2 a3) (sample_reader_value_g.j1 k a0 a1 a2 a3))∧(∀a0 a1 a2 a3,Ex (sample_reader_value.l0 k a0 a1 a2 a3) (sample_reader_value_g.l0 k a0 a1 a2 a3)):=by
  intro k
  induction k with
  | zero=>exact⟨fun _ _ _ _=> .inl rfl,fun _ _ _ _=> .inl rfl⟩
  | succ k ih =>
    refine⟨?_,?_⟩
    · intro a0 a1 a2 a3
      rw[sample_reader_value.j1,sample_reader_value_g.j1]
      repeat' first|(with_reducible exact Ex.l _)|(with_reducible exact Ex.r _)|(with_reducible exact ih.1 _ _ _ _)|(with_reducible exact ih.2 _ _ _ _)|(with_reducible refine Ex.ite ?_ ?_)|(with_reducible refine Ex.bind (fun t=>?_))
    · intro a0 a1 a2 a3
      rw[sample_reader_value.l0,sample_reader_value_g.l0]
      repeat' first|(with_reducible exact Ex.l _)|(with_reducible exact Ex.r _)|(with_reducible exact ih.1 _ _ _ _)|(with_reducible exact ih.2 _ _ _ _)|(with_reducible refine Ex.ite ?_ ?_)|(with_reducible refine Ex.bind (fun t=>?_))
theorem value_ex:∀k a0 a1 a2,Ex (sample_reader_value.f k a0 a1 a2) (sample_reader_value_g.f k a0 a1 a2):=by
  intro k a0 a1 a2
  unfold sample_reader_value.f sample_reader_value_g.f
  repeat' first|(with_reducible exact Ex.l _)|(with_reducible exact Ex.r _)|(with_reducible exact(value_exl _).1 _ _ _ _)|(with_reducible exact(value_exl _).2 _ _ _ _)|(with_reducible refine Ex.ite ?_ ?_)|(with_reducible refine Ex.bind (fun t=>?_))
theorem item_ex:∀k a0 a1 a2,Ex (sample_reader_item.f k a0 a1 a2) (sample_reader_item_g.f k a0 a1 a2):=by
  intro k a0 a1 a2
  unfold sample_reader_item.f sample_reader_item_g.f
  repeat' first|(with_reducible exact Ex.l _)|(with_reducible exact Ex.r _)|(with_reducible refine Ex.orf (by first|exact value_ex _ _ _ _) (fun t=>?_))|(with_reducible refine Ex.one (by first|exact value_ex _ _ _ _))|(with_reducible refine Ex.ite ?_ ?_)|(with_reducible refine Ex.bind (fun t=>?_))
theorem set_exl:∀k,(∀a0 a1 a2 a3,Ex (sample_reader_set.j0 k a0 a1 a2 a3) (sample_reader_set_g.j0 k a0 a1 a2 a3))∧(∀a0 a1 a2 a3 a4,Ex (sample_reader_set.l0 k a0 a1 a2 a3 a4) (sample_reader_set_g.l0 k a0 a1 a2 a3 a4)):=by
  intro k
  induction k with
  | zero=>exact⟨fun _ _ _ _=> .inl rfl,fun _ _ _ _ _=> .inl rfl⟩
  | succ k ih =>
    refine⟨?_,?_⟩
    · intro a0 a1 a2 a3
      rw[sample_reader_set.j0,sample_reader_set_g.j0]
      repeat' first|(with_reducible exact Ex.l _)|(with_reducible exact Ex.r _)|(with_reducible exact ih.1 _ _ _ _)|(with_reducible exact ih.2 _ _ _ _ _)|(with_reducible refine Ex.orf (by first|exact value_ex _ _ _ _|exact item_ex _ _ _ _) (fun t=>?_))|(with_reducible refine Ex.one (by first|exact value_ex _ _ _ _|exact item_ex _ _ _ _))|(with_reducible refine Ex.ite ?_ ?_)|(with_reducible refine Ex.bind (fun t=>?_))
    · intro a0 a1 a2 a3 a4
      rw[sample_reader_set.l0,sample_reader_set_g.l0]
      repeat' first|(with_reducible exact Ex.l _)|(with_reducible exact Ex.r _)|(with_reducible exact ih.1 _ _ _ _)|(with_reducible exact ih.2 _ _ _ _ _)|(with_reducible refine Ex.orf (by first|exact value_ex _ _ _ _|exact item_ex _ _ _ _) (fun t=>?_))|(with_reducible refine Ex.one (by first|exact value_ex _ _ _ _|exact item_ex _ _ _ _))|(with_reducible refine Ex.ite ?_ ?_)|(with_reducible refine Ex.bind (fun t=>?_))
theorem set_ex:∀k a0 a1,Ex (sample_reader_set.f k a0 a1) (sample_reader_set_g.f k a0 a1):=by
  intro k a0 a1
  unfold sample_reader_set.f sample_reader_set_g.f
  repeat' first|(with_reducible exact Ex.l _)|(with_reducible exact Ex.r _)|(with_reducible exact(set_exl _).1 _ _ _ _)|(with_reducible exact(set_exl _).2 _ _ _ _ _)|(with_reducible refine Ex.orf (by first|exact value_ex _ _ _ _|exact item_ex _ _ _ _) (fun t=>?_))|(with_reducible refine Ex.one (by first|exact value_ex _ _ _ _|exact item_ex _ _ _ _))|(with_reducible refine Ex.ite ?_ ?_)|(with_reducible refine Ex.bind (fun t=>?_))
end SR
end Go.Proofs.YtbhhfpjiacfofaaDoor.P
namespace Go.Proofs.YtbhhfpjiacfofaaDoor.P
open Go.RowKit Go.Proofs.YtbhhfpjiacfofaaDoorW.PrintWords Go.Proofs.YtbhhfpjiacfofaaDoorW.PrintLast Go.Proofs.YtbhhfpjiacfofaaDoorW.PrintMore Go.Proofs.YtbhhfpjiacfofaaDoor.FM
set_option linter.unusedVariables false
set_option linter.unusedSimpArgs false
namespace SR
open RG (sk tk)
theorem plain_ev {s:List UInt8} (hs:Le s):Ev (fun k=>sample_plain.f k (S s)) (S (pl s).1,((pl s).2:Int),decide (Dig (pl s).1)):=by
  have hl:=(pl_len s).1
  unfold Le at hs
  unfold sample_plain.f
  refine Ev.const (strCut_ev (by omega)) ?_
  dsimp only
  rw[S_append]
  refine Ev.if_pos ?_ ?_
  · rw[S_size,S_size]
    unfold pl at hl
    dsimp only at hl
    rw[List.length_append] at hl
    omega
  refine Ev.bind (Is_ev _ (Nat.le_trans hl (by omega))) ?_
  exact Ev.now _
theorem steps_ev {lo hi:List UInt8} (h1:Le lo) (h2:Le hi):Ev (fun k=>sample_steps.f k (S lo) (S hi)) ((steps lo hi).elim (0,false) (fun n=>((n:Int),true))):=by
  have l1:=(pl_len lo).1
  have l2:=(pl_len hi).1
  have p1:=(pl_len lo).2
  have p2:=(pl_len hi).2
  unfold Le at *
  have bad:∀x,Ev (fun k=>sample_steps.j0 k x true) (0,false):=fun x=>by
    refine Ev.step (f:=fun _=>some (0,false)) (fun k=>?_) (Ev.now _)
    rw[sample_steps.j0,_root_.if_pos rfl]
  have sm1:Sm (pl lo).1:=by unfold Sm;omega
  have sm2:Sm (pl hi).1:=by unfold Sm;omega
  unfold sample_steps.f steps
  refine Ev.bind (plain_ev h1) (Ev.bind (plain_ev h2) ?_)
  dsimp only
  by_cases D1:Dig (pl lo).1
  · by_cases D2:Dig (pl hi).1
    · by_cases P:(pl lo).2=(pl hi).2
      · by_cases L:nvl (pl lo).1≤nvl (pl hi).1
        · rw[_root_.if_pos ⟨D1,D2,P,L⟩]
          refine Ev.bind (Sub_ev _ _ sm2 sm1 D2 D1 L) (Ev.if_pos (decide_eq_true D1) (Ev.if_pos (decide_eq_true D2) (Ev.if_pos (by rw[P]) ?_)))
          refine Ev.step (fun k=>sample_steps.j0.eq_2 ..) (Ev.if_neg Bool.false_ne_true ?_)
          have sm3:Sm (mkl (nvl (pl hi).1-nvl (pl lo).1)):=by
            have this:(mkl (nvl (pl hi).1-nvl (pl lo).1)).length≤(pl hi).1.length:=mkl_length_le.2 (Nat.lt_of_le_of_lt (Nat.sub_le _ _) (nvl_lt D2))
            unfold Sm;exact Nat.le_trans this (by omega)
          by_cases Q:nvl (pl hi).1-nvl (pl lo).1<10 ^ 18
          · rw[_root_.if_pos Q]
            refine Ev.bind (Int_ev _ sm3 (dig_mkl _) (by rw[nvl_mkl];exact Q)) (Ev.if_pos rfl ?_)
            rw[nvl_mkl]
            exact Ev.now _
          · rw[_root_.if_neg Q]
            refine Ev.bind (Int_long _ sm3 (dig_mkl _) (by rw[nvl_mkl];exact Nat.not_lt.1 Q)) (Ev.if_neg (by decide) ?_)
            exact Ev.now _
        · rw[_root_.if_neg (fun h=>L h.2.2.2)]
          exact Ev.bind (Sub_less _ _ sm2 sm1 D2 D1 (by omega)) (Ev.if_pos (decide_eq_true D1) (Ev.if_pos (decide_eq_true D2) (Ev.if_pos (by rw[P]) (bad _))))
      · rw[_root_.if_neg (fun h=>P h.2.2.1)]
        by_cases L:nvl (pl lo).1≤nvl (pl hi).1
        · exact Ev.bind (Sub_ev _ _ sm2 sm1 D2 D1 L) (Ev.if_pos (decide_eq_true D1) (Ev.if_pos (decide_eq_true D2) (Ev.if_neg (fun h=>P (by omega)) (bad _))))
        · exact Ev.bind (Sub_less _ _ sm2 sm1 D2 D1 (by omega)) (Ev.if_pos (decide_eq_true D1) (Ev.if_pos (decide_eq_true D2) (Ev.if_neg (fun h=>P (by omega)) (bad _))))
    · rw[_root_.if_neg (fun h=>D2 h.2.1)]
      exact Ev.bind (Sub_not _ _ sm2 sm1 (fun h=>D2 h.1)) (Ev.if_pos (decide_eq_true D1) (Ev.if_neg (by rw[decide_eq_false D2];decide) (bad _)))
  · rw[_root_.if_neg (fun h=>D1 h.1)]
    exact Ev.bind (Sub_not _ _ sm2 sm1 (fun h=>D1 h.2)) (Ev.if_neg (by rw[decide_eq_false D1];decide) (bad _))
/-! faults of a value -/
def code:RG.Er→Int| .form=>1| .long=>2| .arg=>3| .cat=>1| .many=>4
section
variable {l:List UInt8}
theorem value_run_g (hl:Le l) (dec:Bool) {r:Int × Int} {t:List UInt8} (ht:t <:+ l) (hj:Ev (fun k=>sample_reader_value_g.j1 k dec ((t.takeWhile nc).length:Int) (S l) (ps l t)) r):∀(w u:List UInt8),t=w++u→t.takeWhile nc=w++u.takeWhile nc→Ev (fun k=>sample_reader_value_g.l0 k dec (w.length:Int) (S l) (ps l t)) r
  | w,[],e,e2=>by
    have hw:wrap64 (ps l t+(w.length:Int))=l.length:=by
      have:=ht.length_le
      rw[e,List.append_nil] at this ⊢
      unfold ps;rw[w64 (by omega) (by omega)];omega
    refine Ev.step (fun k=>sample_reader_value_g.l0.eq_2 ..) (Ev.if_neg (by rw[hw,S_size];omega) ?_)
    rw[e2,List.takeWhile_nil,List.append_nil] at hj
    exact hj
  | w,c::u,e,e2=>by
    obtain⟨h1,h2,h3,h4⟩:=idx_nc ht e hl
    refine Ev.step (fun k=>sample_reader_value_g.l0.eq_2 ..) (Ev.if_pos (by rw[h1,S_size];exact h3) (Ev.if_pos (by rw[h1];exact h2) ?_))
    rw[h1]
    refine Ev.const h4 ?_
    by_cases hc:nc c=true
    · refine Ev.if_pos ((indexByte_mem numC c).2 (of_decide_eq_true hc)) ?_
      have ih:=value_run_g hl dec ht hj (w++[c]) u (by rw[e];simp) (by rw[e2,List.takeWhile_cons_of_pos hc];simp)
      rw[List.length_append,List.length_singleton] at ih
      have hwl:w.length≤l.length:=by have:=ht.length_le;rw[e,List.length_append] at this;omega
      have e3:wrap64 ((w.length:Int)+1)=((w.length+1:Nat):Int):=by rw[w64 (by omega) (by omega)];omega
      rw[e3]
      exact ih
    · refine Ev.if_neg (fun h=>hc (decide_eq_true ((indexByte_mem numC c).1 h))) ?_
      rw[e2,List.takeWhile_cons_of_neg hc,List.append_nil] at hj
      exact hj
theorem value_err (hl:Le l) {dec:Bool} {t r:List UInt8} {e:RG.Er} (ht:t <:+ l) (h:value dec t= .error (e,r)):Ev (fun k=>sample_reader_value_g.f k (S l) (ps l t) dec) (code e,ps l r):=by
  have h2:=(sk_suf t).trans ht
  have h0:=value_no h
  clear h
  obtain⟨hr,h⟩:=h0
  subst hr
  have hs:sk t=(sk t).takeWhile nc++(sk t).drop ((sk t).takeWhile nc).length:=tw_split nc (sk t)
  generalize hd:(sk t).takeWhile nc=d at h hs
  generalize (sk t).drop d.length=u at hs
  have h3:u <:+ l:=by rw[hs] at h2;exact(List.suffix_append d u).trans h2
  have hw:wrap64 (ps l (sk t)+(d.length:Int))=ps l u:=by rw[ps_app hs];exact w64 (by have:=ps_nn h3;omega) (by have:=ps_le l u;omega)
  have hdl:d.length≤100000:=by have:=h2.length_le;rw[hs,List.length_append] at this;unfold Le at hl;omega
  unfold sample_reader_value_g.f
  refine Ev.bind (blanks_ev hl t ht) (value_run_g hl dec h2 ?_ [] (sk t) rfl rfl)
  rw[hd]
  refine Ev.step (fun k=>sample_reader_value_g.j1.eq_2 ..) (Ev.if_pos (ps_nn h2) (Ev.if_pos (by rw[hw];have:=ps_app (l:=l) hs;omega) (Ev.if_pos (by rw[hw,S_size];exact ps_le _ _) ?_)))
  rw[hw,ext_pre h2 hs]
  rcases h with ⟨rfl,h⟩|⟨rfl,h,h'⟩|⟨rfl,hg,rfl,hf⟩
  · exact Ev.bind (Read_bad d hdl h) (Ev.if_neg (by decide) (Ev.now _))
  · exact Ev.bind (Read_long d hdl h h') (Ev.if_neg (by decide) (Ev.now _))
  · refine Ev.bind (Read_good hg hdl) (Ev.if_pos rfl (Ev.if_neg (by decide) (Ev.const (V_ev _ _ _) (Ev.if_pos ?_ (Ev.now _)))))
    have:=List.length_pos_iff.2 hf
    omega
end
end SR
end Go.Proofs.YtbhhfpjiacfofaaDoor.P
namespace Go.Proofs.YtbhhfpjiacfofaaDoor.P
open Go.RowKit Go.Proofs.YtbhhfpjiacfofaaDoorW.PrintWords Go.Proofs.YtbhhfpjiacfofaaDoorW.PrintLast Go.Proofs.YtbhhfpjiacfofaaDoorW.PrintMore Go.Proofs.YtbhhfpjiacfofaaDoor.FM
set_option linter.unusedVariables false
set_option linter.unusedSimpArgs false
namespace SR
open RG (sk tk)
/-- what an item that was read is -/
def ItemOk (dec:Bool) (lo hi:List UInt8):Prop:=good lo∧(dec=false→frac lo=[])∧(hi=[]∨(good hi∧(dec=false→frac hi=[])∧∃n,steps lo hi=some n∧n<1000))
section
variable {l:List UInt8}
theorem val_len {dec:Bool} {t d u:List UInt8} (ht:t <:+ l) (h:value dec t= .ok (d,u)):d.length≤l.length∧u <:+ t:=by
  obtain⟨hd,hu,-,-⟩:=value_is h
  have h1:=((sk_suf t).trans ht).length_le
  have h2:d.length≤(sk t).length:=by rw[hd];exact(List.takeWhile_prefix _).length_le
  exact⟨by omega,hu▸(List.drop_suffix _ _).trans (sk_suf t)⟩
theorem item_one (hl:Le l) {dec:Bool} {t lo u:List UInt8} (ht:t <:+ l) (hv:value dec t= .ok (lo,u)) (hk:tk [126] u=none):Ev (fun k=>sample_reader_item.f k (S l) (ps l t) dec) (S lo,S [],S l,ps l (sk u)):=by
  obtain⟨h1,h2⟩:=value_ok hl ht hv
  unfold sample_reader_item.f
  exact Ev.bind h2 (Ev.bind (take_no (w:=[126]) hl h1 hk) (Ev.if_neg Bool.false_ne_true (Ev.now _)))
theorem item_two (hl:Le l) {dec:Bool} {t lo u v hi x:List UInt8} {n:Nat} (ht:t <:+ l) (hv:value dec t= .ok (lo,u)) (hk:tk [126] u=some v) (hw:value dec (sk v)= .ok (hi,x)) (hs:steps lo hi=some n) (hn:n<1000):Ev (fun k=>sample_reader_item.f k (S l) (ps l t) dec) (S lo,S hi,S l,ps l x):=by
  obtain⟨h1,h2⟩:=value_ok hl ht hv
  have h3:=(tk_suf hk).trans h1
  have h4:=(sk_suf v).trans h3
  obtain⟨h5,h6⟩:=value_ok hl h4 hw
  have h7:=steps_ev (Nat.le_trans (val_len ht hv).1 hl) (Nat.le_trans (val_len h4 hw).1 hl)
  rw[hs] at h7
  unfold sample_reader_item.f
  exact Ev.bind h2 (Ev.bind (take_yes (w:=[126]) hl h1 hk) (Ev.if_pos rfl (Ev.bind (blanks_ev hl v h3) (Ev.bind h6 (Ev.bind h7 (Ev.if_pos rfl (Ev.if_neg (by show ¬(n:Int)≥1000;omega) (Ev.now _))))))))
theorem item_dich (hl:Le l) (dec:Bool) {t:List UInt8} (ht:t <:+ l):(∃lo hi x,ItemOk dec lo hi∧lo.length≤20000∧hi.length≤20000∧x <:+ t∧Ev (fun k=>sample_reader_item.f k (S l) (ps l t) dec) (S lo,S hi,S l,ps l x))∨(∃e r,r <:+ l∧Ev (fun k=>sample_reader_item_g.f k (S l) (ps l t) dec) (code e,ps l r)):=by
  cases hv:value dec t with
  | error z =>
    obtain⟨e,r⟩:=z
    refine .inr ⟨e,r,(value_no hv).1▸(sk_suf t).trans ht,?_⟩
    unfold sample_reader_item_g.f
    exact Ev.orfL (value_err hl ht hv) (Ev.now _)
  | ok z =>
    obtain⟨lo,u⟩:=z
    obtain⟨h1,h2⟩:=value_ok hl ht hv
    obtain⟨hll,hut⟩:=val_len ht hv
    obtain⟨-,-,hg,hf⟩:=value_is hv
    cases hk:tk [126] u with
    | none=>exact .inl ⟨lo,[],sk u,⟨hg,hf,.inl rfl⟩,Nat.le_trans hll hl,Nat.zero_le _,(sk_suf u).trans hut,item_one hl ht hv hk⟩
    | some v =>
      have h3:=(tk_suf hk).trans h1
      have h4:=(sk_suf v).trans h3
      have go:∀ {r:Int × Int},Ev (fun k=>orf_ ((sample_reader_value_g.f k (S l) (ps l (sk v)) dec).bind fun bt242=>(some (bt242.1,bt242.2))) ((sample_reader_value.f k (S l) (ps l (sk v)) dec).bind fun bt233=>((sample_steps.f k (S lo) bt233.1).bind fun bt236=>(if bt236.2=true then (if bt236.1≥1000 then ((sample_fail_g.f 4 (ps l (sk v))).bind fun bt238=>(some (bt238.1,bt238.2))) else (none)) else ((sample_fail_g.f 3 (ps l (sk v))).bind fun bt240=>(some (bt240.1,bt240.2))))))) r→Ev (fun k=>sample_reader_item_g.f k (S l) (ps l t) dec) r:=by
        intro r h
        unfold sample_reader_item_g.f
        exact Ev.orfR h2 (fun k=>value_ex _ _ _ _) (Ev.bind (take_yes (w:=[126]) hl h1 hk) (Ev.if_pos rfl (Ev.bind (blanks_ev hl v h3) h)))
      cases hw:value dec (sk v) with
      | error z =>
        obtain⟨e,r⟩:=z
        exact .inr ⟨e,r,(value_no hw).1▸(sk_suf _).trans h4,go (Ev.orfL (value_err hl h4 hw) (Ev.now _))⟩
      | ok z =>
        obtain⟨hi,x⟩:=z
        obtain⟨h5,h6⟩:=value_ok hl h4 hw
        have h7:=steps_ev (Nat.le_trans hll hl) (Nat.le_trans (val_len h4 hw).1 hl)
        cases hs:steps lo hi with
        | none =>
          rw[hs] at h7
          exact .inr ⟨.arg,sk v,h4,go (Ev.orfR h6 (fun k=>value_ex _ _ _ _) (Ev.bind h7 (Ev.if_neg (by decide) (Ev.now _))))⟩
        | some n =>
          rw[hs] at h7
          by_cases hn:n<1000
          · obtain⟨-,-,hg2,hf2⟩:=value_is hw
            exact .inl ⟨lo,hi,x,⟨hg,hf,.inr ⟨hg2,hf2,n,hs,hn⟩⟩,Nat.le_trans hll hl,Nat.le_trans (val_len h4 hw).1 hl,(val_len h4 hw).2.trans ((sk_suf v).trans ((tk_suf hk).trans hut)),item_two hl ht hv hk hw hs hn⟩
          · exact .inr ⟨.many,sk v,h4,go (Ev.orfR h6 (fun k=>value_ex _ _ _ _) (Ev.bind h7 (Ev.if_pos rfl (Ev.if_pos (by show(n:Int)≥1000;omega) (Ev.now _)))))⟩
/-! the items of a set -/
abbrev It:=S37
theorem l0_end (hl:Le l) {dec m:Bool} {t:List UInt8} {acc:List It} (ht:t <:+ l) (h:tk [44] t=none):Ev (fun k=>sample_reader_set.l0 k (S l) (ps l t) dec acc m) (dec,acc,m,S l,ps l (sk t)) :=
  Ev.step (fun k=>sample_reader_set.l0.eq_2 ..) (Ev.bind (take_no (w:=[44]) hl ht h) (Ev.if_neg Bool.false_ne_true (Ev.now _)))
theorem l0_dots (hl:Le l) {dec m:Bool} {t u v:List UInt8} {acc:List It} (ht:t <:+ l) (h:tk [44] t=some u) (h2:tk [226,128,166] u=some v):Ev (fun k=>sample_reader_set.l0 k (S l) (ps l t) dec acc m) (dec,acc,true,S l,ps l v) :=
  Ev.step (fun k=>sample_reader_set.l0.eq_2 ..) (Ev.bind (take_yes (w:=[44]) hl ht h) (Ev.if_pos rfl (Ev.bind (take_yes (w:=[226,128,166]) hl ((tk_suf h).trans ht) h2) (Ev.if_pos rfl (Ev.now _)))))
theorem l0_dots3 (hl:Le l) {dec m:Bool} {t u v:List UInt8} {acc:List It} (ht:t <:+ l) (h:tk [44] t=some u) (h1:tk [226,128,166] u=none) (h2:tk [46,46,46] (sk u)=some v):Ev (fun k=>sample_reader_set.l0 k (S l) (ps l t) dec acc m) (dec,acc,true,S l,ps l v) :=
  Ev.step (fun k=>sample_reader_set.l0.eq_2 ..) (Ev.bind (take_yes (w:=[44]) hl ht h) (Ev.if_pos rfl (Ev.bind (take_no (w:=[226,128,166]) hl ((tk_suf h).trans ht) h1) (Ev.if_neg Bool.false_ne_true (Ev.bind (take_yes (w:=[46,46,46]) hl ((sk_suf u).trans ((tk_suf h).trans ht)) h2) (Ev.if_pos rfl (Ev.now _)))))))
theorem l0_item (hl:Le l) {dec m:Bool} {t u lo hi x:List UInt8} {acc:List It} {r:Bool × List It × Bool × ByteArray × Int} (ht:t <:+ l) (h:tk [44] t=some u) (h1:tk [226,128,166] u=none) (h2:tk [46,46,46] (sk u)=none) (hi_:Ev (fun k=>sample_reader_item.f k (S l) (ps l (sk (sk u))) dec) (S lo,S hi,S l,ps l x)) (ha:acc.length<100000) (hr:Ev (fun k=>sample_reader_set.l0 k (S l) (ps l x) dec (acc++[⟨S lo,S hi⟩]) false) r):Ev (fun k=>sample_reader_set.l0 k (S l) (ps l t) dec acc m) r :=
  Ev.step (fun k=>sample_reader_set.l0.eq_2 ..) (Ev.bind (take_yes (w:=[44]) hl ht h) (Ev.if_pos rfl (Ev.bind (take_no (w:=[226,128,166]) hl ((tk_suf h).trans ht) h1) (Ev.if_neg Bool.false_ne_true (Ev.bind (take_no (w:=[46,46,46]) hl ((sk_suf u).trans ((tk_suf h).trans ht)) h2) (Ev.if_neg Bool.false_ne_true (Ev.bind hi_ (Ev.if_pos (by omega) hr))))))))
/-- items that were read -/
def ItemsOk (dec:Bool) (xs:List It):Prop:=∀x∈xs,∃lo hi,x=⟨S lo,S hi⟩∧lo.length≤20000∧hi.length≤20000∧ItemOk dec lo hi
theorem ItemsOk.cons {dec:Bool} {lo hi:List UInt8} {xs:List It} (h:ItemOk dec lo hi) (h1:lo.length≤20000) (h2:hi.length≤20000) (hx:ItemsOk dec xs):ItemsOk dec (⟨S lo,S hi⟩::xs):=by
  intro x hm
  rcases List.mem_cons.1 hm with rfl|hm
  · exact⟨lo,hi,rfl,h1,h2,h⟩
  · exact hx x hm
theorem item_dich' (hl:Le l) (dec:Bool) {t:List UInt8} (ht:t <:+ l):(∃lo hi x,ItemOk dec lo hi∧lo.length≤20000∧hi.length≤20000∧x <:+ t∧Ev (fun k=>sample_reader_item.f k (S l) (ps l t) dec) (S lo,S hi,S l,ps l x))∨(∃e r,r <:+ l∧Ev (fun k=>sample_reader_item_g.f k (S l) (ps l t) dec) (code e,ps l r)):=by
  have h:=item_dich hl dec ht
  rcases h with ⟨lo,hi,x,h1,h2,h3,h4,h5⟩|h
  · exact .inl ⟨lo,hi,x,h1,h2,h3,h4,h5⟩
  · exact .inr h
theorem l0_dich (hl:Le l) (dec:Bool):∀(n:Nat) (t:List UInt8) (acc:List It) (m:Bool),t.length≤n→t <:+ l→acc.length+t.length≤40000 →
    (∃xs m' x,ItemsOk dec xs∧xs.length≤t.length∧x <:+ t∧Ev (fun k=>sample_reader_set.l0 k (S l) (ps l t) dec acc m) (dec,acc++xs,m',S l,ps l x))∨(∃e r,r <:+ l∧Ev (fun k=>sample_reader_set_g.l0 k (S l) (ps l t) dec acc m) (code e,ps l r)):=by
  intro n
  induction n with
  | zero =>
    intro t acc m hn ht hacc
    have:t=[]:=List.length_eq_zero_iff.1 (by omega)
    subst this
    exact .inl ⟨[],m,_,by (intro x hx;cases hx),Nat.zero_le _,sk_suf _,by (rw[List.append_nil];exact l0_end hl ht rfl)⟩
  | succ n ih =>
    intro t acc m hn ht hacc
    cases h:tk [44] t with
    | none=>exact .inl ⟨[],m,_,by (intro x hx;cases hx),Nat.zero_le _,sk_suf _,by (rw[List.append_nil];exact l0_end hl ht h)⟩
    | some u =>
      have hu:=tk_suf h
      have hul:=RG.tk_len h
      have hu':=hu.trans ht
      cases h1:tk [226,128,166] u with
      | some v=>exact .inl ⟨[],true,v,by (intro x hx;cases hx),Nat.zero_le _,(tk_suf h1).trans hu,by (rw[List.append_nil];exact l0_dots hl ht h h1)⟩
      | none =>
        cases h2:tk [46,46,46] (sk u) with
        | some v=>exact .inl ⟨[],true,v,by (intro x hx;cases hx),Nat.zero_le _,(tk_suf h2).trans ((sk_suf u).trans hu),by (rw[List.append_nil];exact l0_dots3 hl ht h h1 h2)⟩
        | none =>
          have h3:sk (sk u) <:+ l:=(sk_suf _).trans ((sk_suf u).trans hu')
          have go:∀ {r:Int × Int},Ev (fun k=>orf_ ((sample_reader_item_g.f k (S l) (ps l (sk (sk u))) dec).bind fun bt310=>(some (bt310.1,bt310.2))) ((sample_reader_item.f k (S l) (ps l (sk (sk u))) dec).bind fun bt303=>(if acc.length<4398046511104 then (sample_reader_set_g.l0 k bt303.2.2.1 bt303.2.2.2 dec (acc++[(⟨bt303.1,bt303.2.1⟩:It)]) false) else (none)))) r→Ev (fun k=>sample_reader_set_g.l0 k (S l) (ps l t) dec acc m) r:=fun hr =>
            Ev.step (fun k=>sample_reader_set_g.l0.eq_2 ..) (Ev.bind (take_yes (w:=[44]) hl ht h) (Ev.if_pos rfl (Ev.bind (take_no (w:=[226,128,166]) hl ((tk_suf h).trans ht) h1) (Ev.if_neg Bool.false_ne_true (Ev.bind (take_no (w:=[46,46,46]) hl ((sk_suf u).trans ((tk_suf h).trans ht)) h2) (Ev.if_neg Bool.false_ne_true hr))))))
          rcases item_dich' hl dec h3 with ⟨lo,hi,x,hok,hlo,hhi,hx,he⟩|⟨e,r,hr,he⟩
          · have hxu:x <:+ u:=hx.trans ((sk_suf _).trans (sk_suf u))
            have hxl:=hxu.length_le
            rcases ih x (acc++[⟨S lo,S hi⟩]) false (by simp at hul;omega) (hxu.trans hu') (by simp at hul ⊢;omega) with ⟨xs,m',y,hxs,hxl2,hy,hz⟩|⟨e,r,hr,hz⟩
            · refine .inl ⟨⟨S lo,S hi⟩::xs,m',y,ItemsOk.cons hok hlo hhi hxs,by (simp at hul ⊢;omega),hy.trans (hxu.trans hu),?_⟩
              rw[List.append_assoc] at hz
              exact l0_item hl ht h h1 h2 he (by omega) hz
            · exact .inr ⟨e,r,hr,go (Ev.orfR he (fun k=>item_ex _ _ _ _) (Ev.if_pos (by omega) hz))⟩
          · exact .inr ⟨e,r,hr,go (Ev.orfL he (Ev.now _))⟩
/-! a set -/
def wInt:List UInt8:=[64,105,110,116,101,103,101,114]
def wDec:List UInt8:=[64,100,101,99,105,109,97,108]
theorem j0_dich (hl:Le l) (dec:Bool) {u:List UInt8} (hu:u <:+ l):(∃xs m x,xs≠[]∧xs.length≤100000∧ItemsOk dec xs∧x <:+ u∧Ev (fun k=>sample_reader_set.j0 k (S l) (ps l u) dec false) (dec,xs,m,S l,ps l x))∨(∃e r,r <:+ l∧Ev (fun k=>sample_reader_set_g.j0 k (S l) (ps l u) dec false) (code e,ps l r)):=by
  rcases item_dich' hl dec hu with ⟨lo,hi,x,hok,hlo,hhi,hx,he⟩|⟨e,r,hr,he⟩
  · have hxl:=(hx.trans hu).length_le
    have hl':=hl
    unfold Le at hl'
    rcases l0_dich hl dec _ x [⟨S lo,S hi⟩] false (Nat.le_refl _) (hx.trans hu) (by simp;omega) with ⟨xs,m',y,hxs,hxl2,hy,hz⟩|⟨e,r,hr,hz⟩
    · exact .inl ⟨⟨S lo,S hi⟩::xs,m',y,by simp,by simp;omega,ItemsOk.cons hok hlo hhi hxs,hy.trans hx,Ev.step (fun k=>sample_reader_set.j0.eq_2 ..) (Ev.bind he (Ev.if_pos (by decide) hz))⟩
    · exact .inr ⟨e,r,hr,Ev.step (fun k=>sample_reader_set_g.j0.eq_2 ..) (Ev.orfR he (fun k=>item_ex _ _ _ _) (Ev.if_pos (by decide) hz))⟩
  · exact .inr ⟨e,r,hr,Ev.step (fun k=>sample_reader_set_g.j0.eq_2 ..) (Ev.orfL he (Ev.now _))⟩
theorem set_dich (hl:Le l) {t:List UInt8} (ht:t <:+ l):(∃dec xs m x,(xs≠[]∧xs.length≤100000)∧ItemsOk dec xs∧x <:+ t∧x.length<t.length∧Ev (fun k=>sample_reader_set.f k (S l) (ps l t)) (dec,xs,m,S l,ps l x))∨(∃e r,r <:+ l∧Ev (fun k=>sample_reader_set_g.f k (S l) (ps l t)) (code e,ps l r)):=by
  unfold sample_reader_set.f sample_reader_set_g.f
  cases h:tk wInt t with
  | some u =>
    have hu:=tk_suf h
    have hul:=RG.tk_len h
    rcases j0_dich hl false (hu.trans ht) with ⟨xs,m,x,h1,hlen,h2,h3,h4⟩|⟨e,r,hr,h4⟩
    · exact .inl ⟨false,xs,m,x,⟨h1,hlen⟩,h2,h3.trans hu,by have:=h3.length_le;simp[wInt] at hul;omega,Ev.bind (take_yes (w:=wInt) hl ht h) (Ev.if_pos rfl h4)⟩
    · exact .inr ⟨e,r,hr,Ev.bind (take_yes (w:=wInt) hl ht h) (Ev.if_pos rfl h4)⟩
  | none =>
    have hs:=(sk_suf t).trans ht
    have hsl:=RG.sk_len t
    cases h1:tk wDec (sk t) with
    | some u =>
      have hu:=(tk_suf h1).trans (sk_suf t)
      have hul:=RG.tk_len h1
      rcases j0_dich hl true (hu.trans ht) with ⟨xs,m,x,h2,hlen,h3,h4,h5⟩|⟨e,r,hr,h4⟩
      · exact .inl ⟨true,xs,m,x,⟨h2,hlen⟩,h3,h4.trans hu,by have:=h4.length_le;simp[wDec] at hul;omega,Ev.bind (take_no (w:=wInt) hl ht h) (Ev.if_neg Bool.false_ne_true (Ev.bind (take_yes (w:=wDec) hl hs h1) (Ev.if_pos rfl h5)))⟩
      · exact .inr ⟨e,r,hr,Ev.bind (take_no (w:=wInt) hl ht h) (Ev.if_neg Bool.false_ne_true (Ev.bind (take_yes (w:=wDec) hl hs h1) (Ev.if_pos rfl h4)))⟩
    | none=>exact .inr ⟨.form,sk (sk t),(sk_suf _).trans hs,Ev.bind (take_no (w:=wInt) hl ht h) (Ev.if_neg Bool.false_ne_true (Ev.bind (take_no (w:=wDec) hl hs h1) (Ev.if_neg Bool.false_ne_true (Ev.now _))))⟩
/-! all sets -/
abbrev St:=S35
theorem parse_ex (a:ByteArray):∀(k:Nat) (out:List St) (s0:ByteArray) (p0:Int),Ex (sample_Parse.l0 a k out s0 p0) (sample_Parse.l0_g a k out s0 p0):=by
  intro k
  induction k with
  | zero=>exact fun _ _ _=> .inl rfl
  | succ k ih =>
    intro out s0 p0
    rw[sample_Parse.l0,sample_Parse.l0_g]
    refine Ex.ite (Ex.orf (set_ex _ _ _) fun t=>Ex.ite (Ex.bind fun u=>ih _ _ _) (Ex.l _)) (Ex.r _)
def SetsOk (out:List St):Prop:=∀x∈out,(x.f1≠[]∧x.f1.length≤100000)∧ItemsOk x.f0 x.f1
theorem pl0_end (hl:Le l) {out:List St}:Ev (fun k=>sample_Parse.l0 (S l) k out (S l) (ps l [])) out:=by
  have:ps l []=l.length:=by unfold ps;simp
  refine Ev.step (f:=fun _=>some out) (fun k=>?_) (Ev.now _)
  rw[sample_Parse.l0,this,S_size,_root_.if_neg (by omega)]
theorem pl0_step (hl:Le l) {t x:List UInt8} {out r:List St} {dec m:Bool} {xs:List It} (ht:t <:+ l) (hne:t≠[]) (hx:x <:+ l) (h:Ev (fun k=>sample_reader_set.f k (S l) (ps l t)) (dec,xs,m,S l,ps l x)) (ho:out.length<100000) (hr:Ev (fun k=>sample_Parse.l0 (S l) k (out++[⟨dec,xs,m⟩]) (S l) (ps l (sk x))) r):Ev (fun k=>sample_Parse.l0 (S l) k out (S l) (ps l t)) r:=by
  have hp:=List.length_pos_iff.2 hne
  refine Ev.step (fun k=>sample_Parse.l0.eq_2 ..) (Ev.if_pos (by rw[S_size];unfold ps;omega) (Ev.bind h (Ev.if_pos (by omega) (Ev.bind (blanks_ev hl x hx) hr))))
theorem pl0_dich (hl:Le l):∀(n:Nat) (t:List UInt8) (out:List St),t.length≤n→t <:+ l→SetsOk out→out.length+t.length≤40000 →
    (∃r,SetsOk r∧r.length≤100000∧Ev (fun k=>sample_Parse.l0 (S l) k out (S l) (ps l t)) r)∨(∃e r,r <:+ l∧Ev (fun k=>sample_Parse.l0_g (S l) k out (S l) (ps l t)) (code e,ps l r)):=by
  intro n
  induction n with
  | zero =>
    intro t out hn ht ho hlen
    have:t=[]:=List.length_eq_zero_iff.1 (by omega)
    subst this
    exact .inl ⟨out,ho,by omega,pl0_end hl⟩
  | succ n ih =>
    intro t out hn ht ho hlen
    by_cases hne:t=[]
    · subst hne
      exact .inl ⟨out,ho,by omega,pl0_end hl⟩
    have hp:=List.length_pos_iff.2 hne
    have hc:ps l t<((S l).size:Int):=by rw[S_size];unfold ps;omega
    rcases set_dich hl ht with ⟨dec,xs,m,x,h1,h2,h3,h4,h5⟩|⟨e,r,hr,h5⟩
    · have hx:=h3.trans ht
      have hsl:=RG.sk_len x
      rcases ih (sk x) (out++[⟨dec,xs,m⟩]) (by omega) ((sk_suf x).trans hx) (by
        intro y hy
        rcases List.mem_append.1 hy with hy|hy
        · exact ho y hy
        · rw[List.mem_singleton.1 hy];exact⟨h1,h2⟩) (by simp;omega) with ⟨r,hr,hrl,hz⟩|⟨e,r,hr,hz⟩
      · exact .inl ⟨r,hr,hrl,pl0_step hl ht hne hx h5 (by omega) hz⟩
      · exact .inr ⟨e,r,hr,Ev.step (fun k=>sample_Parse.l0_g.eq_2 ..) (Ev.if_pos hc (Ev.orfR h5 (fun k=>set_ex _ _ _) (Ev.if_pos (by omega) (Ev.bind (blanks_ev hl x hx) hz))))⟩
    · exact .inr ⟨e,r,hr,Ev.step (fun k=>sample_Parse.l0_g.eq_2 ..) (Ev.if_pos hc (Ev.orfL h5 (Ev.now _)))⟩
theorem parse_ok (hl:Le l) {r:List St} (h:Ev (fun k=>sample_Parse.l0 (S l) k [] (S l) (ps l (sk l))) r):Ev (fun k=>sample_Parse.f k (S l)) (r,0,0):=by
  unfold sample_Parse.f
  refine Ev.bind (by have:=blanks_ev hl l (List.suffix_refl l);rw[ps_len] at this;exact this) ?_
  exact Ev.orfR h (fun k=>parse_ex _ _ _ _ _) (Ev.now _)
theorem parse_dich (hl:Le l):(∃r,SetsOk r∧r.length≤100000∧Ev (fun k=>sample_Parse.f k (S l)) (r,0,0))∨(∃e r,r <:+ l∧Ev (fun k=>sample_Parse.f k (S l)) ([],code e,ps l r)):=by
  have hl':=hl
  unfold Le at hl'
  have hsl:=RG.sk_len l
  rcases pl0_dich hl _ (sk l) [] (Nat.le_refl _) (sk_suf l) (by intro x hx;cases hx) (by simp;omega) with ⟨r,hr,hrl,hz⟩|⟨e,r,hr,hz⟩
  · exact .inl ⟨r,hr,hrl,parse_ok hl hz⟩
  · refine .inr ⟨e,r,hr,?_⟩
    unfold sample_Parse.f
    refine Ev.bind (by have:=blanks_ev hl l (List.suffix_refl l);rw[ps_len] at this;exact this) ?_
    exact Ev.orfL hz (Ev.now _)
end
end SR
end Go.Proofs.YtbhhfpjiacfofaaDoor.P
namespace Go.Proofs.YtbhhfpjiacfofaaDoor.P
open Go.RowKit Go.Proofs.YtbhhfpjiacfofaaDoorW.PrintWords Go.Proofs.YtbhhfpjiacfofaaDoorW.PrintLast Go.Proofs.YtbhhfpjiacfofaaDoorW.PrintMore Go.Proofs.YtbhhfpjiacfofaaDoor.FM
set_option linter.unusedVariables false
set_option linter.unusedSimpArgs false
namespace SR
/-! an item's numbers -/
def ptd (z:List UInt8) (p:Nat):List UInt8:=if p=0 then z else z.take (z.length-p)++46::z.drop (z.length-p)
def numAt (lo:List UInt8) (i:Nat):List UInt8:=ptd (padL (pl lo).1.length (nvl (pl lo).1+i)) (pl lo).2
theorem pointed_ev {u:List UInt8} (hu:u.length≤30000) {p w:Nat} (hw:w≤30000) (hp:p≤w):sample_pointed.f (S u) (p:Int) (w:Int)=some (S (ptd (zs (w-u.length)++u) p)):=by
  unfold sample_pointed.f
  have e1:wrap64 ((w:Int)-((S u).size:Int))=(w:Int)-u.length:=by rw[S_size];exact w64 (by omega) (by omega)
  rw[e1,Zeros_ev,show min ((w:Int)-(u.length:Int)).toNat 60000=w-u.length by omega,Option.bind_some,S_append]
  have hz:(zs (w-u.length)++u).length=(w-u.length)+u.length:=by rw[List.length_append,zs_length]
  generalize zs (w-u.length)++u=z at hz
  have hzp:p≤z.length:=by omega
  rw[_root_.if_pos (by rw[S_size,S_size,zs_length];omega)]
  unfold ptd
  by_cases h:p=0
  · rw[_root_.if_pos h,_root_.if_pos (by omega)]
  · have e2:wrap64 (((S z).size:Int)-(p:Int))=((z.length-p:Nat):Int):=by rw[S_size,w64 (by omega) (by omega)];omega
    rw[_root_.if_neg h,_root_.if_neg (by omega),e2,_root_.if_pos (by omega),_root_.if_pos (by rw[S_size];omega),Int.toNat_natCast,S_extract,S_extract,List.drop_zero,show z.take (S z).size=z from List.take_length,S_size]
    have e3:(⟨#[46]⟩:ByteArray)=S [46]:=rfl
    rw[e3,S_append,S_append,S_size,S_size]
    have l1:(z.take (z.length-p)).length≤z.length:=by rw[List.length_take];omega
    have l2:(z.drop (z.length-p)).length≤z.length:=by rw[List.length_drop];omega
    rw[_root_.if_pos (by omega),_root_.if_pos (by rw[List.length_append,List.length_singleton];omega)]
    rw[List.append_assoc,List.singleton_append]
theorem go_ev {A:List UInt8} {p:Nat} (dA:Dig A) (hA:A.length≤20000) (hp:p≤A.length) {m:Nat} (hm:m≤1000):∀(j i:Nat),i+j=m+1→∃K,∀k,K≤k→∀n,j<n→sample_Item_All.go k (S A) (p:Int) (A.length:Int) (m:Int) n (i:Int)=some ((List.range' i j).map fun i=>S (ptd (padL A.length (nvl A+i)) p))
  | 0,i,h=>by
    refine⟨0,fun k _ n hn=>?_⟩
    obtain⟨n,rfl⟩:∃n',n=n'+1:=⟨n-1,by omega⟩
    rw[sample_Item_All.go,_root_.if_neg (by omega)]
    rfl
  | j+1,i,h=>by
    obtain⟨K1,h1⟩:=go_ev dA hA hp hm j (i+1) (by omega)
    obtain⟨K2,h2⟩:=Of_ev i (by omega)
    have li:(mkl i).length≤4:=mkl_length_le.2 (by omega)
    have hs:nvl A+i<10 ^ (A.length+4):=by
      have a1:=nvl_lt dA
      have a2:10 ^ (A.length+4)=10 ^ A.length*10000:=by rw[Nat.pow_add]
      have a3:0<10 ^ A.length:=Nat.pow_pos (by decide)
      omega
    have hl:(mkl (nvl A+i)).length≤A.length+4:=mkl_length_le.2 hs
    have h3:=Add_ev A (mkl i) (by unfold Sm;omega) (by unfold Sm;omega) dA (dig_mkl i)
    rw[nvl_mkl] at h3
    obtain⟨K3,h3⟩:=h3
    refine⟨max K1 (max K2 K3),fun k hk n hn=>?_⟩
    obtain⟨n,rfl⟩:∃n',n=n'+1:=⟨n-1,by omega⟩
    have e2:=h2 k (by omega)
    have e3:=h3 k (by omega)
    dsimp only at e2 e3
    rw[sample_Item_All.go,_root_.if_pos (by omega),e2,Option.bind_some,e3,Option.bind_some,pointed_ev (by omega) (by omega) hp,Option.bind_some]
    have e4:wrap64 ((i:Int)+1)=((i+1:Nat):Int):=by rw[w64 (by omega) (by omega)];omega
    rw[e4,h1 k (by omega) n (by omega),Option.bind_some,List.range'_succ,List.map_cons]
    rfl
theorem steps_is {lo hi:List UInt8} {n:Nat} (h:steps lo hi=some n) (hn:n<1000):Dig (pl lo).1∧Dig (pl hi).1∧(pl lo).2=(pl hi).2∧nvl (pl lo).1+n=nvl (pl hi).1:=by
  unfold steps at h
  split at h
  · rename_i hc
    obtain⟨h1,h2,h3,h4⟩:=hc
    have h5:=Option.some.inj h
    split at h5
    · exact⟨h1,h2,h3,by omega⟩
    · omega
  · cases h
theorem all_ev {lo hi:List UInt8} {n:Nat} (h1:Le lo) (h2:Le hi) (hh:hi≠[]) (h:steps lo hi=some n) (hn:n<1000):Ev (fun k=>sample_Item_All.f k (S lo) (S hi)) ((List.range (n+1)).map fun i=>S (numAt lo i)):=by
  obtain⟨dA,-,-,-⟩:=steps_is h hn
  have h3:=steps_ev h1 h2
  rw[h] at h3
  have hl1:=(pl_len lo).1
  have hl2:=(pl_len lo).2
  have hl3:=h1
  unfold Le at hl3
  unfold sample_Item_All.f
  refine Ev.bind h3 (Ev.if_neg (fun e=>hh (S_inj.1 e)) (Ev.if_pos rfl (Ev.bind (plain_ev h1) ?_)))
  show Ev (fun k=>sample_Item_All.go k (S (pl lo).1) ((pl lo).2:Int) ((S (pl lo).1).size:Int) (if (n:Int)<1000 then (n:Int) else 1000) k 0) _
  rw[_root_.if_pos (by omega),S_size]
  obtain⟨K,hK⟩:=go_ev (p:=(pl lo).2) dA (by omega) hl2 (m:=n) (by omega) (n+1) 0 (by omega)
  refine⟨max K (n+2),fun k hk=>?_⟩
  have:=hK k (by omega) k (by omega)
  rw[List.range_eq_range']
  exact this
theorem all_one {lo:List UInt8} (h1:Le lo):Ev (fun k=>sample_Item_All.f k (S lo) (S [])) [S lo]:=by
  unfold sample_Item_All.f
  exact Ev.bind (steps_ev h1 (Nat.zero_le _)) (Ev.if_pos rfl (Ev.now _))
/-! what these numbers read as -/
theorem cutL_no {s:List UInt8}:∀l:List UInt8,(∀c∈l,c∉s)→cutL l s=(l,[],false)
  | [],_=>rfl
  | c::l,h=>by
    rw[cutL_cons,_root_.if_neg (h c (List.mem_cons_self ..)),cutL_no l (fun d hd=>h d (List.mem_cons_of_mem _ hd)),_root_.if_neg Bool.false_ne_true]
theorem cutL_at {s:List UInt8} {c:UInt8} (y:List UInt8) (hc:c∈s):∀x:List UInt8,(∀c∈x,c∉s)→cutL (x++c::y) s=(x,y,true)
  | [],_=>by rw[List.nil_append,cutL_cons,_root_.if_pos hc]
  | d::x,h=>by rw[List.cons_append,cutL_cons,_root_.if_neg (h d (List.mem_cons_self ..)),cutL_at y hc x (fun d hd=>h d (List.mem_cons_of_mem _ hd)),_root_.if_pos rfl]
theorem dig_no46 {z:List UInt8} (h:Dig z):∀c∈z,c∉([46]:List UInt8):=by
  intro c hc h2
  have:=(h c hc).1
  rw[List.mem_singleton] at h2
  subst h2
  exact absurd this (by decide)
theorem dig_noce {z:List UInt8} (h:Dig z):∀c∈z,c∉([99,101]:List UInt8):=by
  intro c hc h2
  have:=(h c hc).2
  rcases List.mem_cons.1 h2 with rfl|h2
  · exact absurd this (by decide)
  · rw[List.mem_singleton] at h2
    subst h2
    exact absurd this (by decide)
theorem ptd_noce {z:List UInt8} (h:Dig z) (p:Nat):∀c∈ptd z p,c∉([99,101]:List UInt8):=by
  intro c hc
  unfold ptd at hc
  split at hc
  · exact dig_noce h c hc
  · rcases List.mem_append.1 hc with hc|hc
    · exact dig_noce h c (List.mem_of_mem_take hc)
    · rcases List.mem_cons.1 hc with rfl|hc
      · decide
      · exact dig_noce h c (List.mem_of_mem_drop hc)
theorem ptd_cut {z:List UInt8} (h:Dig z) (p:Nat) (hp:p≤z.length):cutL (ptd z p) [46]=(z.take (z.length-p),z.drop (z.length-p),decide (p≠0)):=by
  unfold ptd
  by_cases hz:p=0
  · subst hz
    rw[_root_.if_pos rfl,cutL_no _ (dig_no46 h),Nat.sub_zero,List.take_length,List.drop_length]
    rfl
  · rw[_root_.if_neg hz,cutL_at _ (by simp) _ (fun c hc=>dig_no46 h c (List.mem_of_mem_take hc)),decide_eq_true hz]
theorem ptd_read {z:List UInt8} (h:Dig z) {p:Nat} (hp:p<z.length):readOk (ptd z p)∧rdW (ptd z p)=z.take (z.length-p)∧rdP (ptd z p)=z.drop (z.length-p)∧rdE (ptd z p)=[]:=by
  have e1:cutL (ptd z p) [99,101]=(ptd z p,[],false):=cutL_no _ (ptd_noce h p)
  have e2:=ptd_cut h p (by omega)
  unfold readOk rdW rdP rdE
  rw[e1]
  show(((cutL (ptd z p) [46]).1≠[]∧((cutL (ptd z p) [46]).2.2=true→(cutL (ptd z p) [46]).2.1≠[])∧(false=true→([]:List UInt8)≠[])∧Dig (cutL (ptd z p) [46]).1∧Dig (cutL (ptd z p) [46]).2.1∧Dig [])∧(cutL (ptd z p) [46]).1=_∧(cutL (ptd z p) [46]).2.1=_∧_)
  rw[e2]
  refine⟨⟨?_,fun hp2=>?_,fun h=>(by cases h),h.take _,h.drop _,fun c hc=>(by cases hc)⟩,rfl,rfl,rfl⟩
  · intro he
    have:=congrArg List.length he
    rw[List.length_take,List.length_nil] at this
    omega
  · intro he
    have:=congrArg List.length he
    rw[List.length_drop,List.length_nil] at this
    have:=of_decide_eq_true hp2
    omega
theorem plain_num {s:List UInt8} (hr:readOk s) (hd:Dig (pl s).1):s=ptd (pl s).1 (pl s).2∧(pl s).2<(pl s).1.length:=by
  obtain⟨c1,c2⟩:=cut_parts s
  have hno:∀c∈s,c∉([99,101]:List UInt8):=by
    intro c hc
    unfold pl at hd
    by_cases h:(cutL s [46]).2.2=true
    · rw[c1 h] at hc
      rcases List.mem_append.1 hc with hc|hc
      · exact dig_noce hd c (List.mem_append_left _ hc)
      · rcases List.mem_cons.1 hc with rfl|hc
        · decide
        · exact dig_noce hd c (List.mem_append_right _ hc)
    · have h':(cutL s [46]).2.2=false:=by simpa using h
      rw[← (c2 h').1] at hc
      exact dig_noce hd c (List.mem_append_left _ hc)
  unfold readOk at hr
  rw[cutL_no _ hno] at hr
  dsimp only at hr
  obtain⟨r1,r2,-⟩:=hr
  have l1:=List.length_pos_iff.2 r1
  have hlt:(pl s).2<(pl s).1.length:=by unfold pl;dsimp only;rw[List.length_append];omega
  refine⟨?_,hlt⟩
  unfold ptd
  by_cases h:(cutL s [46]).2.2=true
  · have l2:=List.length_pos_iff.2 (r2 h)
    rw[_root_.if_neg (by unfold pl;dsimp only;omega)]
    have e:(pl s).1.length-(pl s).2=(cutL s [46]).1.length:=by unfold pl;dsimp only;rw[List.length_append];omega
    rw[e]
    unfold pl
    dsimp only
    rw[List.take_left,List.drop_left]
    exact c1 h
  · have h':(cutL s [46]).2.2=false:=by simpa using h
    obtain⟨e1,e2⟩:=c2 h'
    unfold pl
    rw[e1,e2]
    simp
theorem numAt_zero {lo:List UInt8} (hr:readOk lo) (hd:Dig (pl lo).1):numAt lo 0=lo:=by
  obtain⟨h1,h2⟩:=plain_num hr hd
  unfold numAt
  have e:padL (pl lo).1.length (nvl (pl lo).1+0)=(pl lo).1:=by
    refine dig_eq_of (dig_padL _ _) hd ?_ (by rw[nvl_padL];rfl)
    rw[padL_length]
    have:=mkl_length_le.2 (nvl_lt hd)
    rw[Nat.add_zero]
    omega
  rw[e]
  exact h1.symm
/-- what a number without a power reads as -/
theorem ptd_reads {z:List UInt8} (h:Dig z) {p:Nat} (hp:p<z.length) (hl:z.length≤1000):Ev (fun k=>operand_Read.f k (S (ptd z p))) (S (mkl (nvl z/10 ^ p)),S (z.drop (z.length-p)),0,0):=by
  obtain⟨h1,h2,h3,h4⟩:=ptd_read h hp
  have hlen:(ptd z p).length≤1001:=by
    unfold ptd
    split
    · omega
    · rw[List.length_append,List.length_cons,List.length_take,List.length_drop];omega
  have h5:=Read_ok (ptd z p) (by omega) h1 (by rw[h4];exact Nat.zero_le _) (by rw[h2,h3,List.length_take,List.length_drop];omega)
  rw[h2,h3,h4] at h5
  have e1:ofE ((nvl ([]:List UInt8):Nat):Int)=0:=rfl
  have e2:ofN (z.drop (z.length-p)) ((nvl ([]:List UInt8):Nat):Int)=0:=by unfold ofN;rw[e1];exact Nat.zero_min _
  unfold ofInt at h5
  rw[e1,e2,List.drop_zero,List.take_zero,List.append_nil,Nat.sub_zero,Nat.pow_zero,Nat.mul_one,(nvl_take_drop h (q:=p) (by omega)).1] at h5
  exact h5
/-- the last number reads as the item's end -/
theorem last_reads {lo hi:List UInt8} {n:Nat} (g1:good lo) (g2:good hi) (h:steps lo hi=some n) (hn:n<1000):∃a b:List UInt8,Ev (fun k=>operand_Read.f k (S (numAt lo n))) (S a,S b,0,0)∧Ev (fun k=>operand_Read.f k (S hi)) (S a,S b,0,0)∧b=frac hi:=by
  obtain⟨d1,d2,h3,h4⟩:=steps_is h hn
  obtain⟨e1,p1⟩:=plain_num g1.1 d1
  obtain⟨e2,p2⟩:=plain_num g2.1 d2
  have r1:=ptd_read d1 p1
  have r2:=ptd_read d2 p2
  have q1:=g1.2.2
  have q2:=g2.2.2
  have hf:frac hi=(pl hi).1.drop ((pl hi).1.length-(pl hi).2):=by
    unfold frac
    rw[e2,r2.2.2.1,r2.2.2.2, ← e2]
    exact List.drop_zero
  rw[e1,r1.2.1,r1.2.2.1,List.length_take,List.length_drop] at q1
  rw[e2,r2.2.1,r2.2.2.1,List.length_take,List.length_drop] at q2
  have hm:(mkl (nvl (pl hi).1)).length≤(pl hi).1.length:=mkl_length_le.2 (nvl_lt d2)
  have hz:(padL (pl lo).1.length (nvl (pl hi).1)).length=max (pl lo).1.length (mkl (nvl (pl hi).1)).length:=padL_length _ _
  have hd:=dig_padL (pl lo).1.length (nvl (pl hi).1)
  have hv:=nvl_padL (pl lo).1.length (nvl (pl hi).1)
  have k1:=ptd_reads d2 p2 (by omega)
  have k2:=ptd_reads (p:=(pl lo).2) hd (by omega) (by omega)
  rw[← e2] at k1
  unfold numAt
  rw[h4]
  generalize padL (pl lo).1.length (nvl (pl hi).1)=z at hz hd hv k2
  refine⟨_,_,k2,?_,?_⟩
  · rw[hv,h3]
    have:z.drop (z.length-(pl hi).2)=(pl hi).1.drop ((pl hi).1.length-(pl hi).2):=by
      refine dig_eq_of (hd.drop _) (d2.drop _) (by rw[List.length_drop,List.length_drop];omega) ?_
      rw[(nvl_take_drop hd (by omega)).2,(nvl_take_drop d2 (by omega)).2,hv]
    rw[this]
    exact k1
  · rw[hf,h3]
    refine dig_eq_of (hd.drop _) (d2.drop _) (by rw[List.length_drop,List.length_drop];omega) ?_
    rw[(nvl_take_drop hd (by omega)).2,(nvl_take_drop d2 (by omega)).2,hv]
end SR
end Go.Proofs.YtbhhfpjiacfofaaDoor.P
