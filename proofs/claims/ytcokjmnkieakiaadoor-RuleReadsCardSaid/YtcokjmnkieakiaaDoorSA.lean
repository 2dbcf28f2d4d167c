import Derived.Test.YtcokjmnkieakiaaDoorMA
import Derived.Test.YtcokjmnkieakiaaDoorPx10
import Derived.Test.YtcokjmnkieakiaaDoorPx2
import Derived.Test.YtcokjmnkieakiaaDoorPx3
import Derived.Test.YtcokjmnkieakiaaDoorPx4
import Derived.Test.YtcokjmnkieakiaaDoorPx5
import Derived.Test.YtcokjmnkieakiaaDoorPx6
import Derived.Test.YtcokjmnkieakiaaDoorPx7
import Derived.Test.YtcokjmnkieakiaaDoorPx8
import Derived.Test.YtcokjmnkieakiaaDoorPx9
import Derived.Laws.BitsLemmas
import Derived.Lib.Join
namespace Go.Proofs.YtcokjmnkieakiaaDoor.P
open Go.RowKit Go.Proofs.YtcokjmnkieakiaaDoorW.PrintWords Go.Proofs.YtcokjmnkieakiaaDoorW.PrintLast Go.Proofs.YtcokjmnkieakiaaDoorW.PrintMore Go.Proofs.YtcokjmnkieakiaaDoor.FM
set_option linter.unusedVariables false
set_option linter.unusedSimpArgs false

/-! strings as lists of bytes -/
def S (l:List UInt8):ByteArray:=⟨l.toArray⟩
theorem S_data (l:List UInt8):(S l).data.toList=l:=rfl
theorem S_of (s:ByteArray):s=S s.data.toList:=rfl
theorem S_size (l:List UInt8):(S l).size=l.length:=rfl
theorem S_toList (l:List UInt8):(S l).toList=l:=by rw[ByteArray.toList_eq];rfl
theorem S_append (a b:List UInt8):S a++S b=S (a++b):=by
  have h:(S a++S b).data.toList=a++b:=by simp[S]
  rw[S_of (S a++S b),h]
theorem S_extract (l:List UInt8) (i j:Nat):(S l).extract i j=S ((l.take j).drop i):=by
  have h:((S l).extract i j).data.toList=(l.take j).drop i:=by
    simp[S,ByteArray.data_extract,Array.toList_extract,List.drop_take]
  rw[S_of ((S l).extract i j),h]
theorem bt_S (l:List UInt8) (i:Int):bt (S l) i=(l.getD i.toNat 0).toNat:=by
  unfold bt
  have hs:(S l).size=l.length:=rfl
  by_cases h:i.toNat<l.length
  · rw[dif_pos (by rw[hs];exact h)]
    rw[List.getD_eq_getElem?_getD,List.getElem?_eq_getElem h]
    rfl
  · rw[dif_neg (by rw[hs];exact h),List.getD_eq_getElem?_getD,List.getElem?_eq_none (by omega)]
    rfl
theorem w64 {x:Int} (h1: -9223372036854775808≤x) (h2:x≤9223372036854775807):wrap64 x=x:=by unfold wrap64;omega
/-- from some number of rounds on, whatever was asked first: a call that doesn't hang on the rounds -/
theorem Ev.const {α β:Type} {g:Option α} {f:Nat→α→Option β} {a:α} {r:β} (h:g=some a) (k:Ev (fun n=>f n a) r):Ev (fun n=>g.bind (f n)) r:=by
  subst h;exact k
theorem Ev.if_pos {α:Type} {c:Prop} [Decidable c] {a b:Nat→Option α} {r:α} (h:c) (k:Ev a r):Ev (fun n=>if c then a n else b n) r:=by
  simpa only[_root_.if_pos h] using k
theorem Ev.if_neg {α:Type} {c:Prop} [Decidable c] {a b:Nat→Option α} {r:α} (h:¬c) (k:Ev b r):Ev (fun n=>if c then a n else b n) r:=by
  simpa only[_root_.if_neg h] using k
end Go.Proofs.YtcokjmnkieakiaaDoor.P
namespace Go.Proofs.YtcokjmnkieakiaaDoor.P
open Go.RowKit Go.Proofs.YtcokjmnkieakiaaDoorW.PrintWords Go.Proofs.YtcokjmnkieakiaaDoorW.PrintLast Go.Proofs.YtcokjmnkieakiaaDoorW.PrintMore Go.Proofs.YtcokjmnkieakiaaDoor.FM
set_option linter.unusedVariables false
set_option linter.unusedSimpArgs false

end Go.Proofs.YtcokjmnkieakiaaDoor.P
namespace Go.Proofs.YtcokjmnkieakiaaDoor.P
open Go.RowKit Go.Proofs.YtcokjmnkieakiaaDoorW.PrintWords Go.Proofs.YtcokjmnkieakiaaDoorW.PrintLast Go.Proofs.YtcokjmnkieakiaaDoorW.PrintMore Go.Proofs.YtcokjmnkieakiaaDoor.FM
set_option linter.unusedVariables false
set_option linter.unusedSimpArgs false

end Go.Proofs.YtcokjmnkieakiaaDoor.P
namespace Go.Proofs.YtcokjmnkieakiaaDoor.P
open Go.RowKit Go.Proofs.YtcokjmnkieakiaaDoorW.PrintWords Go.Proofs.YtcokjmnkieakiaaDoorW.PrintLast Go.Proofs.YtcokjmnkieakiaaDoorW.PrintMore Go.Proofs.YtcokjmnkieakiaaDoor.FM
set_option linter.unusedVariables false
set_option linter.unusedSimpArgs false

end Go.Proofs.YtcokjmnkieakiaaDoor.P
namespace Go.Proofs.YtcokjmnkieakiaaDoor.P
open Go.RowKit Go.Proofs.YtcokjmnkieakiaaDoorW.PrintWords Go.Proofs.YtcokjmnkieakiaaDoorW.PrintLast Go.Proofs.YtcokjmnkieakiaaDoorW.PrintMore Go.Proofs.YtcokjmnkieakiaaDoor.FM
set_option linter.unusedVariables false
set_option linter.unusedSimpArgs false

end Go.Proofs.YtcokjmnkieakiaaDoor.P
namespace Go.Proofs.YtcokjmnkieakiaaDoor.P
open Go.RowKit Go.Proofs.YtcokjmnkieakiaaDoorW.PrintWords Go.Proofs.YtcokjmnkieakiaaDoorW.PrintLast Go.Proofs.YtcokjmnkieakiaaDoorW.PrintMore Go.Proofs.YtcokjmnkieakiaaDoor.FM
set_option linter.unusedVariables false
set_option linter.unusedSimpArgs false

theorem Ev.yes {b:Bool} (h:b=true):Ev (fun _=>some b) true:=by rw[h];exact Ev.now true
end Go.Proofs.YtcokjmnkieakiaaDoor.P
namespace Go.Proofs.YtcokjmnkieakiaaDoor.P
open Go.RowKit Go.Proofs.YtcokjmnkieakiaaDoorW.PrintWords Go.Proofs.YtcokjmnkieakiaaDoorW.PrintLast Go.Proofs.YtcokjmnkieakiaaDoorW.PrintMore Go.Proofs.YtcokjmnkieakiaaDoor.FM
set_option linter.unusedVariables false
set_option linter.unusedSimpArgs false
/-! rules' texts that are read: what is left of the text -/
namespace RR
def ps (l t:List UInt8):Int:=(l.length:Int)-(t.length:Int)
theorem ps_len (l:List UInt8):ps l l=0:=by unfold ps;omega
theorem bt_suf {l u:List UInt8} {c:UInt8} (h:(c::u) <:+ l):bt (S l) (ps l (c::u))=(c.toNat:Int):=by
  obtain⟨p,rfl⟩:=h
  have:(ps (p++c::u) (c::u)).toNat=p.length:=by unfold ps;rw[List.length_append];omega
  rw[bt_S,this,List.getD_eq_getElem?_getD,List.getElem?_append_right (Nat.le_refl _),Nat.sub_self];rfl
theorem ext_suf {l t:List UInt8} (h:t <:+ l):(S l).extract (ps l t).toNat (S l).size=S t:=by
  obtain⟨p,rfl⟩:=h
  have:(ps (p++t) t).toNat=p.length:=by unfold ps;rw[List.length_append];omega
  rw[this,S_size,S_extract,List.take_length,List.drop_left]
theorem ext_pre {l t w u:List UInt8} (h:t <:+ l) (e:t=w++u):(S l).extract (ps l t).toNat (ps l u).toNat=S w:=by
  obtain⟨p,rfl⟩:=h
  subst e
  have h1:(ps (p++(w++u)) (w++u)).toNat=p.length:=by unfold ps;rw[List.length_append];omega
  have h2:(ps (p++(w++u)) u).toNat=(p++w).length:=by unfold ps;simp only[List.length_append];omega
  rw[h1,h2,S_extract, ← List.append_assoc,List.take_left,List.drop_left]
theorem suf_tail {l u:List UInt8} {c:UInt8} (h:(c::u) <:+ l):u <:+ l:=(List.suffix_cons c u).trans h
theorem ps_tail (l u:List UInt8) (c:UInt8):ps l (c::u)+1=ps l u:=by unfold ps;rw[List.length_cons];omega
theorem ps_app {l t w u:List UInt8} (e:t=w++u):ps l t+(w.length:Int)=ps l u:=by subst e;unfold ps;rw[List.length_append];omega
theorem ps_nn {l t:List UInt8} (h:t <:+ l):0≤ps l t:=by have:=h.length_le;unfold ps;omega
theorem ps_le (l t:List UInt8):ps l t≤l.length:=by unfold ps;omega
theorem sk_suf (t:List UInt8):RG.sk t <:+ t:=List.dropWhile_suffix _
abbrev Le (l:List UInt8):Prop:=l.length≤20000
section
variable {l:List UInt8} {n:Int} {b0 b1 b2 b3 b4 b5:Bool}
theorem blanks_ev (hl:Le l):∀t:List UInt8,t <:+ l→Ev (fun k=>rule_reader_blanks.f k (S l) (ps l t) n b0 b1 b2 b3 b4 b5) (S l,ps l (RG.sk t),n,b0,b1,b2,b3,b4,b5)
  | [],h=>by
    unfold rule_reader_blanks.f
    refine Ev.step (f:=fun _=>some (S l,ps l [],n,b0,b1,b2,b3,b4,b5)) (fun k=>?_) (Ev.now _)
    have:ps l []=l.length:=by unfold ps;simp
    rw[rule_reader_blanks.l0,this,S_size,_root_.if_neg (by omega)]
  | c::u,h=>by
    have hlen:=h.length_le
    rw[List.length_cons] at hlen
    have hp:ps l (c::u)=(l.length:Int)-(u.length+1:Nat):=by unfold ps;rw[List.length_cons]
    have hb:=bt_suf h
    by_cases hc:c=32
    · subst hc
      have ih:=blanks_ev hl u (suf_tail h)
      have e:RG.sk (32::u)=RG.sk u:=rfl
      rw[e]
      unfold rule_reader_blanks.f at ih ⊢
      refine Ev.step (fun k=>?_) ih
      rw[rule_reader_blanks.l0,S_size,_root_.if_pos (by omega),_root_.if_pos (by omega),hb,_root_.if_pos (show(((32:UInt8).toNat:Nat):Int)=32 from rfl),w64 (by omega) (by omega),ps_tail]
    · rw[RG.sk_cons_ne hc]
      unfold rule_reader_blanks.f
      refine Ev.step (f:=fun _=>some (S l,ps l (c::u),n,b0,b1,b2,b3,b4,b5)) (fun k=>?_) (Ev.now _)
      have h32:¬(c.toNat:Int)=32:=by
        intro e
        apply hc
        apply UInt8.toNat_inj.1
        show c.toNat=32
        omega
      rw[rule_reader_blanks.l0,S_size,_root_.if_pos (by omega),_root_.if_pos (by omega),hb,_root_.if_neg h32]
def pk (t:List UInt8):Int:=match RG.sk t with|[]=>0|c::_=>(c.toNat:Int)
theorem peek_ev (hl:Le l) {t:List UInt8} (ht:t <:+ l):Ev (fun k=>rule_reader_peek.f k (S l) (ps l t) n b0 b1 b2 b3 b4 b5) (pk t,S l,ps l (RG.sk t),n,b0,b1,b2,b3,b4,b5):=by
  have h2:=(sk_suf t).trans ht
  unfold rule_reader_peek.f
  refine Ev.bind (blanks_ev hl t ht) ?_
  dsimp only
  unfold pk
  rw[S_size]
  cases e:RG.sk t with
  | nil=>exact Ev.if_pos (by unfold ps;simp) (Ev.now _)
  | cons c u =>
    rw[e] at h2
    have:=h2.length_le
    rw[List.length_cons] at this
    refine Ev.if_neg (by unfold ps;rw[List.length_cons];omega) (Ev.if_pos (ps_nn h2) (Ev.if_pos (by unfold ps;rw[List.length_cons];omega) ?_))
    rw[bt_suf h2]
    exact Ev.now _
theorem pk_zero {t:List UInt8}:pk t=0↔RG.peek t=0:=by
  unfold pk RG.peek
  cases RG.sk t with
  | nil=>simp
  | cons c u =>
    show(c.toNat:Int)=0↔c=0
    constructor
    · intro h;apply UInt8.toNat_inj.1;show c.toNat=0;omega
    · rintro rfl;rfl
theorem run_ev (hl:Le l) (lo hi:Nat) (p:UInt8→Bool) (hp:∀c,p c=decide (lo≤c.toNat∧c.toNat≤hi)) {t:List UInt8} (ht:t <:+ l):∀(w u:List UInt8),t=w++u →
    Ev (fun k=>rule_reader_run.l0 k (lo:Int) (hi:Int) (w.length:Int) (S l) (ps l t) n b0 b1 b2 b3 b4 b5) (((w.length+(u.takeWhile p).length:Nat):Int),S l,ps l t,n,b0,b1,b2,b3,b4,b5)
  | w,[],e=>by
    have hlt:=ht.length_le
    have hw:wrap64 (ps l t+(w.length:Int))=l.length:=by
      rw[e,List.append_nil] at hlt ⊢
      unfold ps;rw[w64 (by omega) (by omega)];omega
    refine Ev.step (f:=fun _=>some ((w.length:Int),S l,ps l t,n,b0,b1,b2,b3,b4,b5)) (fun k=>?_) (Ev.now _)
    rw[rule_reader_run.l0,hw,S_size,_root_.if_neg (by omega)]
  | w,c::u,e=>by
    have hlt:=ht.length_le
    have hsu:(c::u) <:+ l:=(by rw[e] at ht;exact(List.suffix_append w (c::u)).trans ht)
    have hlu:=hsu.length_le
    rw[List.length_cons] at hlu
    have hw:wrap64 (ps l t+(w.length:Int))=ps l (c::u):=by
      rw[ps_app e, ] at *
      exact w64 (by have:=ps_nn hsu;omega) (by have:=ps_le l (c::u);omega)
    have hb:=bt_suf hsu
    have h0:=ps_nn hsu
    have h1:ps l (c::u)<(l.length:Int):=by unfold ps;rw[List.length_cons];omega
    by_cases hc:p c=true
    · have hq:=hc
      rw[hp,decide_eq_true_eq] at hq
      have ih:=run_ev hl lo hi p hp ht (w++[c]) u (by rw[e];simp)
      rw[List.length_append,List.length_singleton] at ih
      rw[List.takeWhile_cons_of_pos hc,List.length_cons]
      have e2:w.length+1+(u.takeWhile p).length=w.length+((u.takeWhile p).length+1):=by omega
      rw[e2] at ih
      refine Ev.step (fun k=>?_) ih
      have h3:wrap64 ((w.length:Int)+1)=((w.length+1:Nat):Int):=by
        have:w.length≤l.length:=by rw[e,List.length_append] at hlt;omega
        rw[w64 (by omega) (by omega)];omega
      rw[rule_reader_run.l0,hw,S_size,_root_.if_pos h1,_root_.if_pos h0,hb,_root_.if_pos (by omega),_root_.if_pos (by omega),h3]
    · have hq:=hc
      rw[hp,decide_eq_true_eq] at hq
      rw[List.takeWhile_cons_of_neg hc,List.length_nil,Nat.add_zero]
      refine Ev.step (f:=fun _=>some ((w.length:Int),S l,ps l t,n,b0,b1,b2,b3,b4,b5)) (fun k=>?_) (Ev.now _)
      rw[rule_reader_run.l0,hw,S_size,_root_.if_pos h1,_root_.if_pos h0,hb]
      by_cases h4:(c.toNat:Int)≥(lo:Int)
      · rw[_root_.if_pos h4,_root_.if_neg (by omega)]
      · rw[_root_.if_neg h4]
theorem low_run (hl:Le l) {t:List UInt8} (ht:t <:+ l):Ev (fun k=>rule_reader_run.f k (S l) (ps l t) n b0 b1 b2 b3 b4 b5 97 122) (((t.takeWhile RG.low).length:Int),S l,ps l t,n,b0,b1,b2,b3,b4,b5):=by
  have:=run_ev (n:=n) (b0:=b0) (b1:=b1) (b2:=b2) (b3:=b3) (b4:=b4) (b5:=b5) hl 97 122 RG.low (fun c=>by unfold RG.low;simp) ht [] t rfl
  rw[List.length_nil,Nat.zero_add] at this
  exact this
theorem dig_run (hl:Le l) {t:List UInt8} (ht:t <:+ l):Ev (fun k=>rule_reader_run.f k (S l) (ps l t) n b0 b1 b2 b3 b4 b5 48 57) (((t.takeWhile RG.dig).length:Int),S l,ps l t,n,b0,b1,b2,b3,b4,b5):=by
  have:=run_ev (n:=n) (b0:=b0) (b1:=b1) (b2:=b2) (b3:=b3) (b4:=b4) (b5:=b5) hl 48 57 RG.dig (fun c=>by unfold RG.dig;simp) ht [] t rfl
  rw[List.length_nil,Nat.zero_add] at this
  exact this
theorem tw_split (p:UInt8→Bool) (t:List UInt8):t=t.takeWhile p++t.drop (t.takeWhile p).length:=by
  have:=List.takeWhile_append_dropWhile (p:=p) (l:=t)
  have h2:t.drop (t.takeWhile p).length=t.dropWhile p:=by
    conv=>lhs;arg 2;rw[← this]
    exact List.drop_left
  rw[h2,this]
theorem word_ev (hl:Le l) {t:List UInt8} (ht:t <:+ l):Ev (fun k=>rule_reader_word.f k (S l) (ps l t) n b0 b1 b2 b3 b4 b5) (S (RG.word t),S l,ps l (RG.sk t),n,b0,b1,b2,b3,b4,b5):=by
  have h2:=(sk_suf t).trans ht
  have hs:=tw_split RG.low (RG.sk t)
  have h3:(RG.sk t).drop ((RG.sk t).takeWhile RG.low).length <:+ l:=(List.drop_suffix _ _).trans h2
  have hw:wrap64 (ps l (RG.sk t)+(((RG.sk t).takeWhile RG.low).length:Int))=ps l ((RG.sk t).drop ((RG.sk t).takeWhile RG.low).length):=by
    rw[ps_app hs];exact w64 (by have:=ps_nn h3;omega) (by have:=ps_le l ((RG.sk t).drop ((RG.sk t).takeWhile RG.low).length);omega)
  unfold rule_reader_word.f
  refine Ev.bind (blanks_ev hl t ht) (Ev.bind (low_run hl h2) ?_)
  dsimp only
  rw[hw,S_size,ext_pre h2 hs]
  refine Ev.if_pos (ps_nn h2) (Ev.if_pos ?_ (Ev.if_pos (ps_le _ _) (Ev.now _)))
  have:=List.length_drop (i:=((RG.sk t).takeWhile RG.low).length) (l:=RG.sk t)
  unfold ps;omega
theorem pre_ev (a w:List UInt8):strings_HasPrefix.f (S a) (S w)=some (decide (w <+:a)):=by
  unfold strings_HasPrefix.f stringslite_HasPrefix.f
  rw[S_size,S_size]
  by_cases h:(a.length:Int)≥(w.length:Int)
  · rw[_root_.if_pos h,_root_.if_pos (by omega),_root_.if_pos (by omega),Option.bind_some]
    congr 1
    rw[Int.toNat_natCast,S_extract,List.drop_zero,S_toList,S_toList]
    by_cases hw:w <+:a
    · rw[decide_eq_true hw];rw[beq_iff_eq];exact(List.prefix_iff_eq_take.1 hw).symm
    · rw[decide_eq_false hw];rw[beq_eq_false_iff_ne];intro e;exact hw (List.prefix_iff_eq_take.2 e.symm)
  · rw[_root_.if_neg h,Option.bind_some]
    congr 1
    symm
    exact decide_eq_false (fun hw=>by have:=hw.length_le;omega)
theorem tk_split {w t u:List UInt8} (h:RG.tk w t=some u):RG.sk t=w++u:=by
  unfold RG.tk at h
  split at h
  · rename_i hp
    obtain⟨v,hv⟩:=hp
    rw[← hv,List.drop_left] at h
    rw[← hv,Option.some.inj h]
  · cases h
theorem take_yes (hl:Le l) {t u w:List UInt8} (ht:t <:+ l) (h:RG.tk w t=some u):Ev (fun k=>rule_reader_take.f k (S l) (ps l t) n b0 b1 b2 b3 b4 b5 (S w)) (true,S l,ps l u,n,b0,b1,b2,b3,b4,b5):=by
  have h2:=(sk_suf t).trans ht
  have hs:=tk_split h
  have h3:u <:+ l:=by rw[hs] at h2;exact(List.suffix_append w u).trans h2
  unfold rule_reader_take.f
  refine Ev.bind (blanks_ev hl t ht) ?_
  dsimp only
  rw[ext_suf h2,S_size]
  refine Ev.if_pos (ps_nn h2) (Ev.if_pos (ps_le _ _) (Ev.const (pre_ev _ _) ?_))
  have hw:wrap64 (ps l (RG.sk t)+((S w).size:Int))=ps l u:=by
    rw[S_size,ps_app hs];exact w64 (by have:=ps_nn h3;omega) (by have:=ps_le l u;omega)
  rw[hw]
  exact Ev.if_pos (decide_eq_true (by rw[hs];exact List.prefix_append _ _)) (Ev.now _)
theorem take_no (hl:Le l) {t w:List UInt8} (ht:t <:+ l) (h:RG.tk w t=none):Ev (fun k=>rule_reader_take.f k (S l) (ps l t) n b0 b1 b2 b3 b4 b5 (S w)) (false,S l,ps l (RG.sk t),n,b0,b1,b2,b3,b4,b5):=by
  have h2:=(sk_suf t).trans ht
  have hn:¬w <+:RG.sk t:=by
    intro hp
    unfold RG.tk at h
    rw[_root_.if_pos hp] at h
    cases h
  unfold rule_reader_take.f
  refine Ev.bind (blanks_ev hl t ht) ?_
  dsimp only
  rw[ext_suf h2,S_size]
  refine Ev.if_pos (ps_nn h2) (Ev.if_pos (ps_le _ _) (Ev.const (pre_ev _ _) ?_))
  exact Ev.if_neg (by simpa using hn) (Ev.now _)
theorem want_ev (hl:Le l) {t u w:List UInt8} (ht:t <:+ l) (h:RG.tk w t=some u):Ev (fun k=>rule_reader_want.f k (S l) (ps l t) n b0 b1 b2 b3 b4 b5 (S w)) (S l,ps l u,n,b0,b1,b2,b3,b4,b5):=by
  unfold rule_reader_want.f
  exact Ev.bind (take_yes hl ht h) (Ev.if_pos rfl (Ev.now _))
theorem next_split {w t u:List UInt8} (h:RG.next w t=some u):RG.sk t=w++u:=by
  unfold RG.next at h
  split at h
  · rename_i e
    have hs:=tw_split RG.low (RG.sk t)
    have e':(RG.sk t).takeWhile RG.low=w:=e
    rw[e',Option.some.inj h] at hs
    exact hs
  · cases h
theorem next_yes (hl:Le l) {t u w:List UInt8} (ht:t <:+ l) (h:RG.next w t=some u):Ev (fun k=>rule_reader_next.f k (S l) (ps l t) n b0 b1 b2 b3 b4 b5 (S w)) (true,S l,ps l u,n,b0,b1,b2,b3,b4,b5):=by
  have h2:=(sk_suf t).trans ht
  have hs:=next_split h
  have h3:u <:+ l:=by rw[hs] at h2;exact(List.suffix_append w u).trans h2
  have e:RG.word t=w:=by
    unfold RG.next at h
    split at h
    · assumption
    · cases h
  unfold rule_reader_next.f
  refine Ev.bind (word_ev hl ht) ?_
  have hw:wrap64 (ps l (RG.sk t)+((S w).size:Int))=ps l u:=by
    rw[S_size,ps_app hs];exact w64 (by have:=ps_nn h3;omega) (by have:=ps_le l u;omega)
  dsimp only
  rw[hw]
  exact Ev.if_pos (by rw[e]) (Ev.now _)
theorem next_no (hl:Le l) {t w:List UInt8} (ht:t <:+ l) (h:RG.next w t=none):Ev (fun k=>rule_reader_next.f k (S l) (ps l t) n b0 b1 b2 b3 b4 b5 (S w)) (false,S l,ps l (RG.sk t),n,b0,b1,b2,b3,b4,b5):=by
  have e:RG.word t≠w:=by
    intro e
    unfold RG.next at h
    rw[_root_.if_pos e] at h
    cases h
  unfold rule_reader_next.f
  refine Ev.bind (word_ev hl ht) (Ev.if_neg ?_ (Ev.now _))
  rw[S_toList,S_toList]
  exact e
end
end RR
end Go.Proofs.YtcokjmnkieakiaaDoor.P
namespace Go.Proofs.YtcokjmnkieakiaaDoor.P
open Go.RowKit Go.Proofs.YtcokjmnkieakiaaDoorW.PrintWords Go.Proofs.YtcokjmnkieakiaaDoorW.PrintLast Go.Proofs.YtcokjmnkieakiaaDoorW.PrintMore Go.Proofs.YtcokjmnkieakiaaDoor.FM
set_option linter.unusedVariables false
set_option linter.unusedSimpArgs false
namespace RR
abbrev Rng:=S38
abbrev RelT:=S36
abbrev RuleT:=S32
def toG (x:Nat × Nat):Rng:=⟨(x.1:Int),(x.2:Int)⟩
def toL (x:RG.Rl):RelT:=⟨(x.op.toNat:Int),(x.md:Int),x.nt,x.rs.map toG⟩
def toU (x:RG.Ru):RuleT:=⟨(x.cat:Int),x.any.map (fun a=>a.map toL),S x.smp⟩
theorem digv {c:UInt8} (h:RG.dig c=true):Lib.digitVal c=some (c.toNat-48):=by
  unfold RG.dig at h
  simp only[Bool.and_eq_true,decide_eq_true_eq] at h
  unfold Lib.digitVal
  rw[_root_.if_pos h]
theorem decFrom_dig:∀(d:List UInt8) (a:Nat),(∀c∈d,RG.dig c=true)→Lib.decFrom a d=some (d.foldl (fun a c=>10*a+(c.toNat-48)) a)
  | [],a,_=>rfl
  | c::d,a,h=>by
    rw[Lib.decFrom,digv (h c (by simp)),List.foldl_cons]
    dsimp only
    rw[decFrom_dig d _ (fun x hx=>h x (by simp[hx])),Nat.mul_comm]
theorem atoi_dig {d:List UInt8} (h0:d≠[]) (h:∀c∈d,RG.dig c=true):Lib.atoi d=some ((nvl d:Nat):Int):=by
  cases d with
  | nil=>exact absurd rfl h0
  | cons c d =>
    have hc:=h c (by simp)
    have e1:(c==45)=false:=by rw[beq_eq_false_iff_ne];exact RG.dig_ne hc (by decide)
    have e2:(c==43)=false:=by rw[beq_eq_false_iff_ne];exact RG.dig_ne hc (by decide)
    rw[Lib.atoi,e1,e2]
    simp only[Bool.false_eq_true,_root_.if_false]
    unfold Lib.decNat
    rw[_root_.if_neg (by simp),decFrom_dig _ _ h]
    rfl
theorem Atoi_ev {d:List UInt8} (h0:d≠[]) (h:∀c∈d,RG.dig c=true) (hl:d.length≤9):strconv_Atoi.f (S d)=some (((nvl d:Nat):Int),(none:Option Int)):=by
  unfold strconv_Atoi.f
  rw[S_size,_root_.if_pos (by omega),S_data,atoi_dig h0 h]
  rfl
section
variable {l:List UInt8} {n:Int} {b0 b1 b2 b3 b4 b5:Bool}
theorem value_j0 {d:List UInt8} (h0:d≠[]) (h:∀c∈d,RG.dig c=true) (hd:d.length≤9) (a p:Int):Ev (fun k=>rule_reader_value.j0 k a (d.length:Int) (S d) false (S l) p n b0 b1 b2 b3 b4 b5) (((nvl d:Nat):Int),a,S l,wrap64 (p+(d.length:Int)),n,b0,b1,b2,b3,b4,b5):=by
  refine Ev.step (f:=fun k=>some (((nvl d:Nat):Int),a,S l,wrap64 (p+(d.length:Int)),n,b0,b1,b2,b3,b4,b5)) (fun k=>?_) (Ev.now _)
  rw[rule_reader_value.j0,_root_.if_neg (by decide),_root_.if_neg (by omega),Atoi_ev h0 h hd]
  rfl
theorem value_ok (hl:Le l) {t u:List UInt8} {v:Nat} (ht:t <:+ l) (h:RG.value t= .ok (v,u)):u <:+ l∧Ev (fun k=>rule_reader_value.f k (S l) (ps l t) n b0 b1 b2 b3 b4 b5) ((v:Int),ps l (RG.sk t),S l,ps l u,n,b0,b1,b2,b3,b4,b5):=by
  have h2:=(sk_suf t).trans ht
  have hs:=tw_split RG.dig (RG.sk t)
  have h3:(RG.sk t).drop ((RG.sk t).takeWhile RG.dig).length <:+ l:=(List.drop_suffix _ _).trans h2
  have hw:wrap64 (ps l (RG.sk t)+(((RG.sk t).takeWhile RG.dig).length:Int))=ps l ((RG.sk t).drop ((RG.sk t).takeWhile RG.dig).length):=by
    rw[ps_app hs];exact w64 (by have:=ps_nn h3;omega) (by have:=ps_le l ((RG.sk t).drop ((RG.sk t).takeWhile RG.dig).length);omega)
  have hdig:∀c∈(RG.sk t).takeWhile RG.dig,RG.dig c=true:=fun c hc=>List.all_eq_true.1 List.all_takeWhile c hc
  have hle:ps l (RG.sk t)≤ps l ((RG.sk t).drop ((RG.sk t).takeWhile RG.dig).length):=by
    have:=List.length_drop (i:=((RG.sk t).takeWhile RG.dig).length) (l:=RG.sk t)
    unfold ps;omega
  unfold RG.value at h
  dsimp only at h
  split at h
  · cases h
  rename_i c1
  split at h
  · cases h
  rename_i c2
  injection h with h
  injection h with e1 e2
  subst e1 e2
  refine⟨h3,?_⟩
  have hj:=value_j0 (l:=l) (n:=n) (b0:=b0) (b1:=b1) (b2:=b2) (b3:=b3) (b4:=b4) (b5:=b5) (d:=(RG.sk t).takeWhile RG.dig) (fun e=>c1 (.inl e)) hdig (by omega) (ps l (RG.sk t)) (ps l (RG.sk t))
  rw[hw] at hj
  unfold rule_reader_value.f
  refine Ev.bind (blanks_ev hl t ht) (Ev.bind (dig_run hl h2) ?_)
  dsimp only
  rw[hw,S_size,ext_pre h2 hs]
  refine Ev.if_pos (ps_nn h2) (Ev.if_pos hle (Ev.if_pos (ps_le _ _) ?_))
  generalize hq:(RG.sk t).takeWhile RG.dig=d at *
  have hd0:0<d.length:=List.length_pos_iff.2 (fun e=>c1 (.inl e))
  refine Ev.if_neg (by omega) ?_
  by_cases h1:1<d.length
  · refine Ev.if_pos (by omega) (Ev.if_pos (by rw[S_size];omega) ?_)
    have:(bt (S d) 0==48)=false:=by
      rw[beq_eq_false_iff_ne]
      intro e
      apply c1
      refine .inr ⟨h1,?_⟩
      cases d with
      | nil=>simp at hd0
      | cons c r =>
        rw[bt_S] at e
        have e':(c.toNat:Int)=48:=e
        show some c=some 48
        congr 1
        apply UInt8.toNat_inj.1
        show c.toNat=48
        omega
    rw[this]
    exact hj
  · refine Ev.if_neg (by omega) hj
theorem tk_suf {w t u:List UInt8} (h:RG.tk w t=some u):u <:+ t:=by
  have:=tk_split h
  exact(List.suffix_append w u).trans (this▸sk_suf t)
theorem next_suf {w t u:List UInt8} (h:RG.next w t=some u):u <:+ t:=by
  have:=next_split h
  exact(List.suffix_append w u).trans (this▸sk_suf t)
theorem span_ok (hl:Le l) {t u:List UInt8} {x:Nat × Nat} (ht:t <:+ l) (h:RG.span t= .ok (x,u)):u <:+ l∧Ev (fun k=>rule_reader_span.f k (S l) (ps l t) n b0 b1 b2 b3 b4 b5) ((x.1:Int),(x.2:Int),S l,ps l u,n,b0,b1,b2,b3,b4,b5):=by
  unfold RG.span at h
  split at h
  · cases h
  rename_i lo v e1
  obtain⟨a1,a2⟩:=value_ok (n:=n) (b0:=b0) (b1:=b1) (b2:=b2) (b3:=b3) (b4:=b4) (b5:=b5) hl ht e1
  unfold rule_reader_span.f
  split at h
  · rename_i e2
    injection h with h
    injection h with g1 g2
    subst g1 g2
    exact⟨(sk_suf v).trans a1,Ev.bind a2 (Ev.bind (take_no hl a1 e2) (Ev.if_neg (by simp) (Ev.now _)))⟩
  · rename_i v2 e2
    split at h
    · cases h
    rename_i hi y e3
    split at h
    · cases h
    rename_i c3
    injection h with h
    injection h with g1 g2
    subst g1 g2
    obtain⟨d1,d2⟩:=value_ok (n:=n) (b0:=b0) (b1:=b1) (b2:=b2) (b3:=b3) (b4:=b4) (b5:=b5) hl ((tk_suf e2).trans a1) e3
    exact⟨d1,Ev.bind a2 (Ev.bind (take_yes hl a1 e2) (Ev.if_pos rfl (Ev.bind d2 (Ev.if_neg (by dsimp only;omega) (Ev.now _)))))⟩
theorem spans_ok (hl:Le l) (o md:Int) (nt:Bool):∀(m:Nat) {u w:List UInt8} {acc out:List (Nat × Nat)},(match RG.tk [44] u with|none=> .ok (acc,RG.sk u)|some v=>RG.spans m v acc:Except (RG.Er × List UInt8) (List (Nat × Nat) × List UInt8))= .ok (out,w)→u <:+ l→acc.length+m≤30000 →
    w <:+ l∧Ev (fun k=>rule_reader_rel.l0 k (S l) (ps l u) n b0 b1 b2 b3 b4 b5 o md nt (acc.map toG)) (o,md,nt,out.map toG,S l,ps l w,n,b0,b1,b2,b3,b4,b5)
  | m,u,w,acc,out,h,hu,hm=>by
    split at h
    · rename_i e1
      injection h with h
      injection h with g1 g2
      subst g1 g2
      exact⟨(sk_suf u).trans hu,Ev.step (fun k=>rule_reader_rel.l0.eq_2 ..) (Ev.bind (take_no hl hu e1) (Ev.if_neg (by simp) (Ev.now _)))⟩
    · rename_i v e1
      cases m with
      | zero=>cases h
      | succ m =>
        have hv:=(tk_suf e1).trans hu
        rw[RG.spans] at h
        split at h
        · cases h
        rename_i x y e2
        obtain⟨a1,a2⟩:=span_ok (n:=n) (b0:=b0) (b1:=b1) (b2:=b2) (b3:=b3) (b4:=b4) (b5:=b5) hl hv e2
        obtain⟨c1,c2⟩:=spans_ok hl o md nt m h a1 (by rw[List.length_append,List.length_singleton];omega)
        refine⟨c1,Ev.step (fun k=>rule_reader_rel.l0.eq_2 ..) (Ev.bind (take_yes hl hu e1) (Ev.if_pos rfl (Ev.bind a2 (Ev.if_pos ?_ ?_))))⟩
        · rw[List.length_map];omega
        · rw[List.map_append] at c2
          exact c2
theorem contains_ev (c:UInt8):strings_Contains.f (⟨#[110,105,118,119,102,116,99,101]⟩:ByteArray) (S [c])=some (decide (c∈RG.ops)):=by
  unfold strings_Contains.f strings_Index.f
  have hi:stringslite_Index.f (⟨#[110,105,118,119,102,116,99,101]⟩:ByteArray) (S [c])=some (Lib.indexByte RG.ops c):=by
    unfold stringslite_Index.f
    rw[dif_pos (show(S [c]).size=1 from rfl)]
    rfl
  rw[hi,Option.bind_some,Option.bind_some]
  congr 1
  have:∀m:Fin 256,decide (Lib.indexByte RG.ops (UInt8.ofNat m.val)≥0)=decide (UInt8.ofNat m.val∈RG.ops):=by decide +kernel
  have h2:=this ⟨c.toNat,c.toNat_lt⟩
  rw[UInt8.ofNat_toNat] at h2
  exact h2
theorem j2_ok (hl:Le l) (o md:Int) (nt:Bool) {y z:List UInt8} {rs:List (Nat × Nat)} (hy:y <:+ l) (h:RG.spans (y.length+1) y []= .ok (rs,z)):z <:+ l∧Ev (fun k=>rule_reader_rel.j2 k (S l) (ps l y) n b0 b1 b2 b3 b4 b5 o md nt) (o,md,nt,rs.map toG,S l,ps l z,n,b0,b1,b2,b3,b4,b5):=by
  rw[RG.spans] at h
  split at h
  · cases h
  rename_i x u e2
  obtain⟨a1,a2⟩:=span_ok (n:=n) (b0:=b0) (b1:=b1) (b2:=b2) (b3:=b3) (b4:=b4) (b5:=b5) hl hy e2
  obtain⟨c1,c2⟩:=spans_ok (n:=n) (b0:=b0) (b1:=b1) (b2:=b2) (b3:=b3) (b4:=b4) (b5:=b5) hl o md nt _ h a1 (by have:=hy.length_le;simp;omega)
  exact⟨c1,Ev.step (fun k=>rule_reader_rel.j2.eq_2 ..) (Ev.bind a2 (Ev.if_pos (by decide) c2))⟩
theorem j1_ok (hl:Le l) (o md:Int) {c:UInt8} {m:Nat} {x z:List UInt8} {b:Bool} {y:List UInt8} {rs:List (Nat × Nat)} (hx:x <:+ l) (h:RG.sgn x= .ok (b,y)) (h2:RG.spans (y.length+1) y []= .ok (rs,z)):z <:+ l∧Ev (fun k=>rule_reader_rel.j1 k (S l) (ps l x) n b0 b1 b2 b3 b4 b5 o md false) (o,md,b,rs.map toG,S l,ps l z,n,b0,b1,b2,b3,b4,b5):=by
  unfold RG.sgn at h
  split at h
  · rename_i y' e1
    injection h with h
    injection h with g1 g2
    subst g1 g2
    obtain⟨a1,a2⟩:=j2_ok (n:=n) (b0:=b0) (b1:=b1) (b2:=b2) (b3:=b3) (b4:=b4) (b5:=b5) hl o md true ((tk_suf e1).trans hx) h2
    exact⟨a1,Ev.step (fun k=>rule_reader_rel.j1.eq_2 ..) (Ev.bind (take_yes hl hx e1) (Ev.if_pos rfl a2))⟩
  · rename_i e1
    split at h
    · rename_i y' e2
      injection h with h
      injection h with g1 g2
      subst g1 g2
      have hsx:=(sk_suf x).trans hx
      have e3:RG.tk [61] (RG.sk x)=some y':=by rw[← e2];exact RG.tk_congr (RG.sk_sk x)
      obtain⟨a1,a2⟩:=j2_ok (n:=n) (b0:=b0) (b1:=b1) (b2:=b2) (b3:=b3) (b4:=b4) (b5:=b5) hl o md false ((tk_suf e2).trans hx) h2
      exact⟨a1,Ev.step (fun k=>rule_reader_rel.j1.eq_2 ..) (Ev.bind (take_no hl hx e1) (Ev.if_neg (by simp) (Ev.bind (want_ev hl hsx e3) a2)))⟩
    · cases h
theorem rel_ok (hl:Le l) {m:Nat} {t u:List UInt8} {x:RG.Rl} (ht:t <:+ l) (h:RG.rel m t= .ok (x,u)):u <:+ l∧m+1≤200∧Ev (fun k=>rule_reader_rel.f k (S l) (ps l t) (m:Int) b0 b1 b2 b3 b4 b5) ((x.op.toNat:Int),(x.md:Int),x.nt,x.rs.map toG,S l,ps l u,((m+1:Nat):Int),b0,b1,b2,b3,b4,b5):=by
  unfold RG.rel at h
  split at h
  case h_2=>cases h
  rename_i c hw
  split at h
  case isFalse=>cases h
  rename_i ho
  split at h
  · cases h
  rename_i hm
  have h2:=(sk_suf t).trans ht
  obtain⟨r,hr⟩:∃r,RG.sk t=c::r:=by
    have hs:=tw_split RG.low (RG.sk t)
    have hw':(RG.sk t).takeWhile RG.low=[c]:=hw
    rw[hw'] at hs
    exact⟨_,hs⟩
  rw[hr] at h
  have h3:r <:+ l:=by rw[hr] at h2;exact suf_tail h2
  have hp:wrap64 (ps l (RG.sk t)+1)=ps l r:=by
    rw[hr,ps_tail];exact w64 (by have:=ps_nn h3;omega) (by have:=ps_le l r;omega)
  have hn:wrap64 ((m:Int)+1)=((m+1:Nat):Int):=by rw[w64 (by omega) (by omega)];omega
  change RG.relB c r=_ at h
  unfold RG.relB at h
  split at h
  · cases h
  rename_i md x1 e1
  split at h
  · cases h
  rename_i b y e2
  split at h
  · cases h
  rename_i rs z e3
  injection h with h
  injection h with g1 g2
  subst g1 g2
  dsimp only
  have key:z <:+ l∧Ev (fun k=>rule_reader_rel.j0 k (S [c]) false (S l) (ps l (RG.sk t)) (m:Int) b0 b1 b2 b3 b4 b5) ((c.toNat:Int),(md:Int),b,rs.map toG,S l,ps l z,((m+1:Nat):Int),b0,b1,b2,b3,b4,b5):=by
    have hbt:bt (S [c]) 0=(c.toNat:Int):=by rw[bt_S];rfl
    unfold RG.modq at e1
    split at e1
    · rename_i f1
      injection e1 with e1
      injection e1 with k1 k2
      subst k1 k2
      have hsr:=(sk_suf r).trans h3
      obtain⟨a1,a2⟩:=j1_ok (n:=((m+1:Nat):Int)) (b0:=b0) (b1:=b1) (b2:=b2) (b3:=b3) (b4:=b4) (b5:=b5) hl (c.toNat:Int) 0 (c:=c) (m:=m) hsr e2 e3
      refine⟨a1,Ev.step (fun k=>rule_reader_rel.j0.eq_2 ..) (Ev.if_neg (by decide) ?_)⟩
      rw[hn,hp,hbt,S_size]
      exact Ev.if_neg (by omega) (Ev.if_pos (by simp) (Ev.bind (take_no hl h3 f1) (Ev.if_neg (by simp) a2)))
    · rename_i v f1
      split at e1
      · cases e1
      rename_i mv x2 f2
      split at e1
      · cases e1
      rename_i f3
      injection e1 with e1
      injection e1 with k1 k2
      subst k1 k2
      obtain⟨d1,d2⟩:=value_ok (n:=((m+1:Nat):Int)) (b0:=b0) (b1:=b1) (b2:=b2) (b3:=b3) (b4:=b4) (b5:=b5) hl ((tk_suf f1).trans h3) f2
      obtain⟨a1,a2⟩:=j1_ok (n:=((m+1:Nat):Int)) (b0:=b0) (b1:=b1) (b2:=b2) (b3:=b3) (b4:=b4) (b5:=b5) hl (c.toNat:Int) (mv:Int) (c:=c) (m:=m) d1 e2 e3
      refine⟨a1,Ev.step (fun k=>rule_reader_rel.j0.eq_2 ..) (Ev.if_neg (by decide) ?_)⟩
      rw[hn,hp,hbt,S_size]
      exact Ev.if_neg (by omega) (Ev.if_pos (by simp) (Ev.bind (take_yes hl h3 f1) (Ev.if_pos rfl (Ev.bind d2 (Ev.if_neg (by dsimp only;omega) a2)))))
  refine⟨key.1,by omega,?_⟩
  unfold rule_reader_rel.f
  refine Ev.bind (word_ev hl ht) ?_
  rw[hw]
  refine Ev.if_pos (by rw[S_size];rfl) (Ev.const (contains_ev c) ?_)
  rw[decide_eq_true ho]
  exact key.2
theorem all_tail (hl:Le l):∀(k:Nat) {m:Nat} {u w:List UInt8} {acc out:List RG.Rl},(match RG.next [97,110,100] u with|none=> .ok (acc,RG.sk u)|some v=>RG.alls k m v acc:Except (RG.Er × List UInt8) (List RG.Rl × List UInt8))= .ok (out,w)→u <:+ l→acc.length+k≤30000 →
    w <:+ l∧∃ys,out=acc++ys∧Ev (fun q=>rule_reader_all.l0 q (acc.map toL) (S l) (ps l u) (m:Int) b0 b1 b2 b3 b4 b5) (out.map toL,S l,ps l w,((m+ys.length:Nat):Int),b0,b1,b2,b3,b4,b5)
  | k,m,u,w,acc,out,h,hu,hm=>by
    split at h
    · rename_i e1
      injection h with h
      injection h with g1 g2
      subst g1 g2
      exact⟨(sk_suf u).trans hu,[],by simp,Ev.step (fun k=>rule_reader_all.l0.eq_2 ..) (Ev.bind (next_no hl hu e1) (Ev.if_neg (by simp) (Ev.now _)))⟩
    · rename_i v e1
      cases k with
      | zero=>cases h
      | succ k =>
        have hv:=(next_suf e1).trans hu
        rw[RG.alls] at h
        split at h
        · cases h
        rename_i x y e2
        obtain⟨a1,a0,a2⟩:=rel_ok (b0:=b0) (b1:=b1) (b2:=b2) (b3:=b3) (b4:=b4) (b5:=b5) hl hv e2
        obtain⟨c1,ys,c0,c2⟩:=all_tail hl k h a1 (by rw[List.length_append,List.length_singleton];omega)
        refine⟨c1,x::ys,by rw[c0];simp,Ev.step (fun k=>rule_reader_all.l0.eq_2 ..) (Ev.bind (next_yes hl hu e1) (Ev.if_pos rfl (Ev.bind a2 (Ev.if_pos ?_ ?_))))⟩
        · rw[List.length_map];omega
        · rw[List.map_append] at c2
          have e:m+1+ys.length=m+(x::ys).length:=by rw[List.length_cons];omega
          rw[e] at c2
          exact c2
theorem all_ok (hl:Le l) {m:Nat} {t w:List UInt8} {out:List RG.Rl} (ht:t <:+ l) (h:RG.alls (t.length+1) m t []= .ok (out,w)):w <:+ l∧Ev (fun q=>rule_reader_all.f q (S l) (ps l t) (m:Int) b0 b1 b2 b3 b4 b5) (out.map toL,S l,ps l w,((m+out.length:Nat):Int),b0,b1,b2,b3,b4,b5):=by
  rw[RG.alls] at h
  split at h
  · cases h
  rename_i x y e2
  obtain⟨a1,a0,a2⟩:=rel_ok (b0:=b0) (b1:=b1) (b2:=b2) (b3:=b3) (b4:=b4) (b5:=b5) hl ht e2
  obtain⟨c1,ys,c0,c2⟩:=all_tail (b0:=b0) (b1:=b1) (b2:=b2) (b3:=b3) (b4:=b4) (b5:=b5) hl _ h a1 (by have:=ht.length_le;simp;omega)
  refine⟨c1,?_⟩
  unfold rule_reader_all.f
  refine Ev.bind a2 ?_
  have e:m+1+ys.length=m+out.length:=by rw[c0];simp;omega
  rw[e] at c2
  exact c2
theorem idx_tw (c:UInt8):∀t:List UInt8,Lib.indexByte t c=if (t.takeWhile (· !=c)).length<t.length then ((t.takeWhile (· !=c)).length:Int) else -1
  | []=>rfl
  | x::t=>by
    rw[Lib.indexByte,idx_tw c t,List.takeWhile_cons]
    by_cases h:x=c
    · subst h
      simp
    · have hb:(x==c)=false:=by simpa using h
      have hn:(x !=c)=true:=by simpa using h
      rw[hb,hn]
      simp only[Bool.false_eq_true,if_false,if_true,List.length_cons]
      generalize (t.takeWhile (· !=c)).length=m
      by_cases h2:m<t.length
      · rw[_root_.if_pos h2,_root_.if_neg (show ¬((m:Int) == -1)=true by simp),_root_.if_pos (by omega)];try rfl
      · rw[_root_.if_neg h2,_root_.if_pos (show((-1:Int) == -1)=true by decide),_root_.if_neg (by omega)]
theorem cut_ev {q:List UInt8} (hq:q.length≤20000):∃x b,strings_Cut.f (S q) (⟨#[59]⟩:ByteArray)=some (S (q.takeWhile (· !=59)),x,b):=by
  unfold strings_Cut.f stringslite_Cut.f
  have hi:stringslite_Index.f (S q) (⟨#[59]⟩:ByteArray)=some (Lib.indexByte q 59):=by
    unfold stringslite_Index.f
    rw[dif_pos (show(⟨#[59]⟩:ByteArray).size=1 from rfl)]
    rfl
  have hle:(q.takeWhile (· !=59)).length≤q.length:=(List.takeWhile_prefix _).length_le
  rw[hi,idx_tw,Option.bind_some,S_size]
  by_cases h:(q.takeWhile (· !=59)).length<q.length
  · rw[_root_.if_pos h,_root_.if_pos (by omega),_root_.if_pos (by omega),_root_.if_pos (by omega)]
    have e1:(((⟨#[59]⟩:ByteArray).size:Nat):Int)=1:=rfl
    rw[e1,w64 (by omega) (by omega),_root_.if_pos (by omega),_root_.if_pos (by omega),Option.bind_some]
    refine⟨_,_,congrArg some (Prod.ext ?_ rfl)⟩
    dsimp only
    rw[S_extract,Int.toNat_natCast,List.drop_zero]
    congr 1
    exact(List.prefix_iff_eq_take.1 (List.takeWhile_prefix _)).symm
  · rw[_root_.if_neg h,_root_.if_neg (by omega),Option.bind_some]
    refine⟨_,_,congrArg some (Prod.ext ?_ rfl)⟩
    have e:=(List.takeWhile_prefix (p:=fun x:UInt8=>x !=59) (l:=q)).eq_of_length (by omega)
    show S q=_
    rw[e]
theorem trimR_ev {q:List UInt8} (hq:q.length≤20000):strings_TrimRight.f (S q) (⟨#[32]⟩:ByteArray)=some (S (RG.trimR q)):=by
  unfold strings_TrimRight.f
  rw[dif_pos (show(⟨#[32]⟩:ByteArray).size=1 from rfl),_root_.if_pos ⟨by decide,by rw[S_size];omega⟩]
  rfl
theorem smpl_ev (hl:Le l) {t:List UInt8} (ht:t <:+ l):(RG.smpl t).2 <:+ l∧Ev (fun k=>rule_reader_sample.f k (S l) (ps l t) n b0 b1 b2 b3 b4 b5) (S (RG.smpl t).1,S l,ps l (RG.smpl t).2,n,b0,b1,b2,b3,b4,b5):=by
  have h2:=(sk_suf t).trans ht
  unfold rule_reader_sample.f RG.smpl
  split
  · rename_i u e
    have hq:(64::u) <:+ l:=e▸h2
    have hql:=hq.length_le
    have hs:=tw_split (fun x:UInt8=>x !=59) (64::u)
    have h3:(64::u).drop ((64::u).takeWhile (fun x:UInt8=>x !=59)).length <:+ l:=(List.drop_suffix _ _).trans hq
    have hw:wrap64 (ps l (64::u)+(((64::u).takeWhile (fun x:UInt8=>x !=59)).length:Int))=ps l ((64::u).drop ((64::u).takeWhile (fun x:UInt8=>x !=59)).length):=by
      rw[ps_app hs];exact w64 (by have:=ps_nn h3;omega) (by have:=ps_le l ((64::u).drop ((64::u).takeWhile (fun x:UInt8=>x !=59)).length);omega)
    have hle:((64::u).takeWhile (fun x:UInt8=>x !=59)).length≤(64::u).length:=(List.takeWhile_prefix _).length_le
    obtain⟨x,b,hc⟩:=cut_ev (q:=64::u) (by omega)
    refine⟨h3,Ev.bind (peek_ev hl ht) (Ev.if_pos ?_ ?_)⟩
    · show pk t=64
      unfold pk;rw[e];rfl
    dsimp only
    rw[ext_suf h2,S_size]
    refine Ev.if_pos (ps_nn h2) (Ev.if_pos (ps_le _ _) ?_)
    rw[e]
    refine Ev.const hc (Ev.const (trimR_ev (by omega)) ?_)
    dsimp only
    rw[S_size,hw]
    exact Ev.now _
  · rename_i hne
    refine⟨h2,Ev.bind (peek_ev hl ht) (Ev.if_neg ?_ (Ev.now _))⟩
    show ¬pk t=64
    unfold pk
    intro e
    cases e2:RG.sk t with
    | nil=>rw[e2] at e;cases e
    | cons c u =>
      rw[e2] at e
      apply hne u
      rw[e2]
      congr 1
      apply UInt8.toNat_inj.1
      have e':(c.toNat:Int)=64:=e
      show c.toNat=64
      omega
theorem any_tail (hl:Le l) (c:Int):∀(k:Nat) {m:Nat} {u w:List UInt8} {acc out:List (List RG.Rl)},(match RG.next [111,114] u with|none=> .ok (acc,RG.sk u)|some v=>RG.anys k m v acc:Except (RG.Er × List UInt8) (List (List RG.Rl) × List UInt8))= .ok (out,w)→u <:+ l→acc.length+k≤30000 →
    w <:+ l∧∃ys,out=acc++ys∧Ev (fun q=>rule_reader_rule.l0 q (S l) (ps l u) (m:Int) b0 b1 b2 b3 b4 b5 c (acc.map (fun a=>a.map toL)) (⟨#[]⟩:ByteArray)) (c,out.map (fun a=>a.map toL),S (RG.smpl w).1,S l,ps l (RG.smpl w).2,((m+RG.count ys:Nat):Int),b0,b1,b2,b3,b4,b5)
  | k,m,u,w,acc,out,h,hu,hm=>by
    split at h
    · rename_i e1
      injection h with h
      injection h with g1 g2
      subst g1 g2
      have hsu:=(sk_suf u).trans hu
      exact⟨hsu,[],by simp,Ev.step (fun k=>rule_reader_rule.l0.eq_2 ..) (Ev.bind (next_no hl hu e1) (Ev.if_neg (by simp) (Ev.bind (smpl_ev hl hsu).2 (Ev.now _))))⟩
    · rename_i v e1
      cases k with
      | zero=>cases h
      | succ k =>
        have hv:=(next_suf e1).trans hu
        rw[RG.anys] at h
        split at h
        · cases h
        rename_i x y e2
        obtain⟨a1,a2⟩:=all_ok (b0:=b0) (b1:=b1) (b2:=b2) (b3:=b3) (b4:=b4) (b5:=b5) hl hv e2
        obtain⟨c1,ys,c0,c2⟩:=any_tail hl c k h a1 (by rw[List.length_append,List.length_singleton];omega)
        refine⟨c1,x::ys,by rw[c0];simp,Ev.step (fun k=>rule_reader_rule.l0.eq_2 ..) (Ev.bind (next_yes hl hu e1) (Ev.if_pos rfl (Ev.bind a2 (Ev.if_pos ?_ ?_))))⟩
        · rw[List.length_map];omega
        · rw[List.map_append] at c2
          have e:m+x.length+RG.count ys=m+RG.count (x::ys):=by rw[RG.count_cons];omega
          rw[e] at c2
          exact c2
theorem cat_str {i:Nat} (h:i<6):rule_Cat_String.f (i:Int)=some (S (RG.cats.getD i [])):=by
  have:i=0∨i=1∨i=2∨i=3∨i=4∨i=5:=by omega
  rcases this with rfl|rfl|rfl|rfl|rfl|rfl <;> rfl
theorem catOf_loop (w:List UInt8):∀d i:Nat,i+d=6→Ev (fun k=>rule_CatOf.l0 k (S w) (i:Int)) (match (RG.cats.drop i).idxOf? w with|none=>(0,false)|some j=>(((i+j:Nat):Int),true))
  | 0,i,h=>by
    obtain rfl:i=6:=by omega
    refine Ev.step (fun k=>rule_CatOf.l0.eq_2 ..) (Ev.if_neg (by decide) (Ev.now _))
  | d+1,i,h=>by
    have hi:i<6:=by omega
    have hc:RG.cats.drop i=RG.cats.getD i []::RG.cats.drop (i+1):=by
      have:i=0∨i=1∨i=2∨i=3∨i=4∨i=5:=by omega
      rcases this with rfl|rfl|rfl|rfl|rfl|rfl <;> rfl
    have ih:=catOf_loop w d (i+1) (by omega)
    refine Ev.step (fun k=>rule_CatOf.l0.eq_2 ..) (Ev.if_pos (by omega) (Ev.const (cat_str hi) ?_))
    rw[S_toList,S_toList,hc,List.idxOf?_cons]
    by_cases e:RG.cats.getD i []=w
    · rw[_root_.if_pos (by simpa using e)]
      exact Ev.if_pos e (Ev.now _)
    · rw[_root_.if_neg (by simpa using e)]
      refine Ev.if_neg e ?_
      have hw:wrap64 ((i:Int)+1)=((i+1:Nat):Int):=by rw[w64 (by omega) (by omega)];omega
      rw[hw]
      cases e2:(RG.cats.drop (i+1)).idxOf? w with
      | none=>rw[e2] at ih;exact ih
      | some j =>
        rw[e2] at ih
        have e3:i+1+j=i+(j+1):=by omega
        dsimp only at ih ⊢
        rw[e3] at ih
        exact ih
theorem catOf_ev (w:List UInt8):Ev (fun k=>rule_CatOf.f k (S w)) (match RG.cats.idxOf? w with|none=>(0,false)|some j=>((j:Int),true)):=by
  have:=catOf_loop w 6 0 rfl
  simp only[List.drop_zero,Nat.zero_add] at this
  exact this
theorem rd6 (x0 x1 x2 x3 x4 x5:Bool) (f:Nat→Bool) (h0:x0=f 0) (h1:x1=f 1) (h2:x2=f 2) (h3:x3=f 3) (h4:x4=f 4) (h5:x5=f 5) {c:Nat} (hc:c<6):rdOf false [x0,x1,x2,x3,x4,x5] (c:Int)=f c:=by
  have:c=0∨c=1∨c=2∨c=3∨c=4∨c=5:=by omega
  subst h0 h1 h2 h3 h4 h5
  rcases this with rfl|rfl|rfl|rfl|rfl|rfl <;> rfl
theorem seen_put (seen:List Nat) (c i:Nat):(if (c:Int)=(i:Int) then true else decide (i∈seen))=decide (i∈seen++[c]):=by
  by_cases h:c=i
  · subst h;rw[_root_.if_pos rfl];simp
  · rw[_root_.if_neg (by omega)]
    simp only[List.mem_append,List.mem_singleton]
    congr 1
    apply propext
    constructor
    · exact .inl
    · rintro(h1|h1)
      · exact h1
      · exact absurd h1.symm h
end
section
variable {l:List UInt8}
/-- which categories there were -/
abbrev sn (seen:List Nat) (i:Nat):Bool:=decide (i∈seen)
theorem rule_ok (hl:Le l) {m:Nat} {seen:List Nat} {t u:List UInt8} {x:RG.Ru} (ht:t <:+ l) (h:RG.rule m seen t= .ok (x,u)) :
    u <:+ l∧Ev (fun k=>rule_reader_rule.f k (S l) (ps l t) (m:Int) (sn seen 0) (sn seen 1) (sn seen 2) (sn seen 3) (sn seen 4) (sn seen 5)) ((x.cat:Int),x.any.map (fun a=>a.map toL),S x.smp,S l,ps l u,((m+RG.count x.any:Nat):Int),sn (seen++[x.cat]) 0,sn (seen++[x.cat]) 1,sn (seen++[x.cat]) 2,sn (seen++[x.cat]) 3,sn (seen++[x.cat]) 4,sn (seen++[x.cat]) 5):=by
  have h2:=(sk_suf t).trans ht
  have hs:RG.sk t=RG.word t++(RG.sk t).drop (RG.word t).length:=tw_split RG.low (RG.sk t)
  unfold RG.rule at h
  dsimp only at h
  have hcat:=catOf_ev (RG.word t)
  split at h
  · cases h
  rename_i c e1
  rw[e1] at hcat
  dsimp only at hcat
  obtain⟨_,_,hc6⟩:=RG.cats_facts e1
  split at h
  · cases h
  rename_i hns
  split at h
  · cases h
  rename_i v e2
  have h3:(RG.sk t).drop (RG.word t).length <:+ l:=(List.drop_suffix _ _).trans h2
  have hw:wrap64 (ps l (RG.sk t)+((RG.word t).length:Int))=ps l ((RG.sk t).drop (RG.word t).length):=by
    rw[ps_app hs];exact w64 (by have:=ps_nn h3;exact Int.le_trans (by decide) this) (by have:=ps_le l ((RG.sk t).drop (RG.word t).length);exact Int.le_trans this (by omega))
  have hv:v <:+ l:=(tk_suf e2).trans h3
  have g0:=seen_put seen c 0
  have g1:=seen_put seen c 1
  have g2:=seen_put seen c 2
  have g3:=seen_put seen c 3
  have g4:=seen_put seen c 4
  have g5:=seen_put seen c 5
  have hread:=rd6 _ _ _ _ _ _ (fun i=>sn seen i) rfl rfl rfl rfl rfl rfl hc6
  unfold rule_reader_rule.f
  by_cases h5:c=5
  · rw[_root_.if_pos h5] at h
    dsimp only at h
    injection h with h
    injection h with k1 k2
    subst k1 k2
    dsimp only
    refine⟨(smpl_ev (n:=0) (b0:=false) (b1:=false) (b2:=false) (b3:=false) (b4:=false) (b5:=false) hl hv).1,Ev.bind (word_ev hl ht) (Ev.bind hcat (Ev.if_pos rfl (Ev.if_pos (by dsimp only;omega) (Ev.if_pos (by dsimp only;omega) (Ev.if_neg ?_ ?_)))))⟩
    · dsimp only
      rw[hread];simpa using hns
    · dsimp only
      rw[S_size,hw,show(0:Int)=((0:Nat):Int) from rfl,show(1:Int)=((1:Nat):Int) from rfl,show(2:Int)=((2:Nat):Int) from rfl,show(3:Int)=((3:Nat):Int) from rfl,show(4:Int)=((4:Nat):Int) from rfl,show(5:Int)=((5:Nat):Int) from rfl,g0,g1,g2,g3,g4,g5]
      exact Ev.bind (want_ev hl h3 e2) (Ev.step (fun k=>rule_reader_rule.j0.eq_2 ..) (Ev.if_pos (by omega) (Ev.bind (smpl_ev hl hv).2 (Ev.now _))))
  · rw[_root_.if_neg h5] at h
    split at h
    · cases h
    rename_i any w e3
    injection h with h
    injection h with k1 k2
    subst k1 k2
    dsimp only
    rw[RG.anys] at e3
    split at e3
    · cases e3
    rename_i y z e4
    obtain⟨a1,a2⟩:=all_ok (b0:=sn (seen++[c]) 0) (b1:=sn (seen++[c]) 1) (b2:=sn (seen++[c]) 2) (b3:=sn (seen++[c]) 3) (b4:=sn (seen++[c]) 4) (b5:=sn (seen++[c]) 5) hl hv e4
    obtain⟨d1,ys,d0,d2⟩:=any_tail (b0:=sn (seen++[c]) 0) (b1:=sn (seen++[c]) 1) (b2:=sn (seen++[c]) 2) (b3:=sn (seen++[c]) 3) (b4:=sn (seen++[c]) 4) (b5:=sn (seen++[c]) 5) hl (c:Int) _ e3 a1 (by have:=hv.length_le;simp;omega)
    refine⟨(smpl_ev (n:=0) (b0:=false) (b1:=false) (b2:=false) (b3:=false) (b4:=false) (b5:=false) hl d1).1,Ev.bind (word_ev hl ht) (Ev.bind hcat (Ev.if_pos rfl (Ev.if_pos (by dsimp only;omega) (Ev.if_pos (by dsimp only;omega) (Ev.if_neg ?_ ?_)))))⟩
    · dsimp only
      rw[hread];simpa using hns
    · have e:m+y.length+RG.count ys=m+RG.count any:=by rw[d0];show _=m+RG.count (y::ys);rw[RG.count_cons];omega
      rw[e] at d2
      dsimp only
      rw[S_size,hw,show(0:Int)=((0:Nat):Int) from rfl,show(1:Int)=((1:Nat):Int) from rfl,show(2:Int)=((2:Nat):Int) from rfl,show(3:Int)=((3:Nat):Int) from rfl,show(4:Int)=((4:Nat):Int) from rfl,show(5:Int)=((5:Nat):Int) from rfl,g0,g1,g2,g3,g4,g5]
      exact Ev.bind (want_ev hl h3 e2) (Ev.step (fun k=>rule_reader_rule.j0.eq_2 ..) (Ev.if_neg (by omega) (Ev.bind a2 (Ev.if_pos (by decide) d2))))
end
end RR
end Go.Proofs.YtcokjmnkieakiaaDoor.P
namespace Go.Proofs.YtcokjmnkieakiaaDoor.P
open Go.RowKit Go.Proofs.YtcokjmnkieakiaaDoorW.PrintWords Go.Proofs.YtcokjmnkieakiaaDoorW.PrintLast Go.Proofs.YtcokjmnkieakiaaDoorW.PrintMore Go.Proofs.YtcokjmnkieakiaaDoor.FM
set_option linter.unusedVariables false
set_option linter.unusedSimpArgs false

namespace RR
def Ex {α β:Type} (a:Option α) (b:Option β):Prop:=a=none∨b=none
theorem Ex.l {α β:Type} (b:Option β):Ex (none:Option α) b:= .inl rfl
theorem Ex.r {α β:Type} (a:Option α):Ex a (none:Option β):= .inr rfl
theorem Ex.ite {α β:Type} {c:Prop} [Decidable c] {a b:Option α} {x y:Option β} (h1:Ex a x) (h2:Ex b y):Ex (if c then a else b) (if c then x else y):=by split;exact h1;exact h2
theorem Ex.bind {α β γ:Type} {X:Option γ} {f:γ→Option α} {g:γ→Option β} (h:∀t,Ex (f t) (g t)):Ex (X.bind f) (X.bind g):=by
  cases X with
  | none=>exact .inl rfl
  | some t=>exact h t
theorem Ex.orf {α β γ δ:Type} {X:Option γ} {Y:Option δ} {f:γ→Option α} {g:γ→Option β} {u:δ→Option β} (h0:Ex X Y) (h:∀t,Ex (f t) (g t)):Ex (X.bind f) (orf_ (Y.bind u) (X.bind g)):=by
  rcases h0 with h0|h0
  · subst h0;exact .inl rfl
  · subst h0
    exact Ex.bind h
theorem Ex.one {α β γ δ:Type} {X:Option γ} {Y:Option δ} {f:γ→Option α} {u:δ→Option β} (h0:Ex X Y):Ex (X.bind f) (Y.bind u):=by
  rcases h0 with h0|h0
  · subst h0;exact .inl rfl
  · subst h0;exact .inr rfl
theorem Ex.none {α β:Type} {a:Option α} {b:Option β} {r:α} (h:Ex a b) (ha:a=some r):b=Option.none:=by
  rcases h with h|h
  · rw[h] at ha;cases ha
  · exact h
theorem Ev.orfR {β γ δ:Type} {X:Nat→Option γ} {Y:Nat→Option δ} {v:γ} {r:β} {u:Nat→δ→Option β} {F:Nat→γ→Option β} (hx:Ev X v) (hex:∀k,Ex (X k) (Y k)) (h:Ev (fun k=>F k v) r):Ev (fun k=>orf_ ((Y k).bind (u k)) ((X k).bind (F k))) r:=by
  obtain⟨n1,h1⟩:=hx
  obtain⟨n2,h2⟩:=h
  refine⟨max n1 n2,fun k hk=>?_⟩
  have e1:=h1 k (by omega)
  have e2:=(hex k).none e1
  show orf_ ((Y k).bind (u k)) ((X k).bind (F k))=_
  rw[e2,e1]
  exact h2 k (by omega)
theorem Ev.orfL {β δ:Type} {Y:Nat→Option δ} {Z:Nat→Option β} {v:δ} {r:β} {u:Nat→δ→Option β} (hy:Ev Y v) (h:Ev (fun k=>u k v) r):Ev (fun k=>orf_ ((Y k).bind (u k)) (Z k)) r:=by
  obtain⟨n1,h1⟩:=hy
  obtain⟨n2,h2⟩:=h
  refine⟨max n1 n2,fun k hk=>?_⟩
  show orf_ ((Y k).bind (u k)) (Z k)=_
  rw[h1 k (by omega),Option.bind_some,show u k v=some r from h2 k (by omega)]
  rfl
theorem want_ex:∀k a0 a1 a2 a3 a4 a5 a6 a7 a8 a9,Ex (rule_reader_want.f k a0 a1 a2 a3 a4 a5 a6 a7 a8 a9) (rule_reader_want_g.f k a0 a1 a2 a3 a4 a5 a6 a7 a8 a9):=by
  intro k a0 a1 a2 a3 a4 a5 a6 a7 a8 a9
  unfold rule_reader_want.f rule_reader_want_g.f
  repeat' first|(with_reducible exact Ex.l _)|(with_reducible exact Ex.r _)|(with_reducible refine Ex.ite ?_ ?_)|(with_reducible refine Ex.bind (fun t=>?_))
theorem value_exl:∀k,(∀a0 a1 a2 a3 a4 a5 a6 a7 a8 a9 a10 a11 a12,Ex (rule_reader_value.j0 k a0 a1 a2 a3 a4 a5 a6 a7 a8 a9 a10 a11 a12) (rule_reader_value_g.j0 k a0 a1 a3)):=by
  intro k
  induction k with
  | zero=>exact fun _ _ _ _ _ _ _ _ _ _ _ _ _=> .inl rfl
  | succ k ih =>
    · intro a0 a1 a2 a3 a4 a5 a6 a7 a8 a9 a10 a11 a12
      rw[rule_reader_value.j0,rule_reader_value_g.j0]
      repeat' first|(with_reducible exact Ex.l _)|(with_reducible exact Ex.r _)|(with_reducible exact ih _ _ _ _ _ _ _ _ _ _ _ _ _)|(with_reducible refine Ex.orf (by first|exact want_ex _ _ _ _ _ _ _ _ _ _ _) (fun t=>?_))|(with_reducible refine Ex.one (by first|exact want_ex _ _ _ _ _ _ _ _ _ _ _))|(with_reducible refine Ex.ite ?_ ?_)|(with_reducible refine Ex.bind (fun t=>?_))
theorem value_ex:∀k a0 a1 a2 a3 a4 a5 a6 a7 a8,Ex (rule_reader_value.f k a0 a1 a2 a3 a4 a5 a6 a7 a8) (rule_reader_value_g.f k a0 a1 a2 a3 a4 a5 a6 a7 a8):=by
  intro k a0 a1 a2 a3 a4 a5 a6 a7 a8
  unfold rule_reader_value.f rule_reader_value_g.f
  repeat' first|(with_reducible exact Ex.l _)|(with_reducible exact Ex.r _)|(with_reducible exact(value_exl _) _ _ _ _ _ _ _ _ _ _ _ _ _)|(with_reducible refine Ex.orf (by first|exact want_ex _ _ _ _ _ _ _ _ _ _ _) (fun t=>?_))|(with_reducible refine Ex.one (by first|exact want_ex _ _ _ _ _ _ _ _ _ _ _))|(with_reducible refine Ex.ite ?_ ?_)|(with_reducible refine Ex.bind (fun t=>?_))
theorem span_ex:∀k a0 a1 a2 a3 a4 a5 a6 a7 a8,Ex (rule_reader_span.f k a0 a1 a2 a3 a4 a5 a6 a7 a8) (rule_reader_span_g.f k a0 a1 a2 a3 a4 a5 a6 a7 a8):=by
  intro k a0 a1 a2 a3 a4 a5 a6 a7 a8
  unfold rule_reader_span.f rule_reader_span_g.f
  repeat' first|(with_reducible exact Ex.l _)|(with_reducible exact Ex.r _)|(with_reducible refine Ex.orf (by first|exact want_ex _ _ _ _ _ _ _ _ _ _ _|exact value_ex _ _ _ _ _ _ _ _ _ _) (fun t=>?_))|(with_reducible refine Ex.one (by first|exact want_ex _ _ _ _ _ _ _ _ _ _ _|exact value_ex _ _ _ _ _ _ _ _ _ _))|(with_reducible refine Ex.ite ?_ ?_)|(with_reducible refine Ex.bind (fun t=>?_))
theorem rel_exl:∀k,(∀a0 a1 a2 a3 a4 a5 a6 a7 a8 a9 a10,Ex (rule_reader_rel.j0 k a0 a1 a2 a3 a4 a5 a6 a7 a8 a9 a10) (rule_reader_rel_g.j0 k a0 a1 a2 a3 a4 a5 a6 a7 a8 a9 a10))∧(∀a0 a1 a2 a3 a4 a5 a6 a7 a8 a9 a10 a11,Ex (rule_reader_rel.j1 k a0 a1 a2 a3 a4 a5 a6 a7 a8 a9 a10 a11) (rule_reader_rel_g.j1 k a0 a1 a2 a3 a4 a5 a6 a7 a8 a9 a10 a11))∧(∀a0 a1 a2 a3 a4 a5 a6 a7 a8 a9 a10 a11,Ex (rule_reader_rel.j2 k a0 a1 a2 a3 a4 a5 a6 a7 a8 a9 a10 a11) (rule_reader_rel_g.j2 k a0 a1 a2 a3 a4 a5 a6 a7 a8 a9 a10 a11))∧(∀a0 a1 a2 a3 a4 a5 a6 a7 a8 a9 a10 a11 a12,Ex (rule_reader_rel.l0 k a0 a1 a2 a3 a4 a5 a6 a7 a8 a9 a10 a11 a12) (rule_reader_rel_g.l0 k a0 a1 a2 a3 a4 a5 a6 a7 a8 a9 a10 a11 a12)):=by
  intro k
  induction k with
  | zero=>exact⟨fun _ _ _ _ _ _ _ _ _ _ _=> .inl rfl,fun _ _ _ _ _ _ _ _ _ _ _ _=> .inl rfl,fun _ _ _ _ _ _ _ _ _ _ _ _=> .inl rfl,fun _ _ _ _ _ _ _ _ _ _ _ _ _=> .inl rfl⟩
  | succ k ih =>
    refine⟨?_,?_,?_,?_⟩
    · intro a0 a1 a2 a3 a4 a5 a6 a7 a8 a9 a10
      rw[rule_reader_rel.j0,rule_reader_rel_g.j0]
      repeat' first|(with_reducible exact Ex.l _)|(with_reducible exact Ex.r _)|(with_reducible exact ih.1 _ _ _ _ _ _ _ _ _ _ _)|(with_reducible exact ih.2.1 _ _ _ _ _ _ _ _ _ _ _ _)|(with_reducible exact ih.2.2.1 _ _ _ _ _ _ _ _ _ _ _ _)|(with_reducible exact ih.2.2.2 _ _ _ _ _ _ _ _ _ _ _ _ _)|(with_reducible refine Ex.orf (by first|exact want_ex _ _ _ _ _ _ _ _ _ _ _|exact value_ex _ _ _ _ _ _ _ _ _ _|exact span_ex _ _ _ _ _ _ _ _ _ _) (fun t=>?_))|(with_reducible refine Ex.one (by first|exact want_ex _ _ _ _ _ _ _ _ _ _ _|exact value_ex _ _ _ _ _ _ _ _ _ _|exact span_ex _ _ _ _ _ _ _ _ _ _))|(with_reducible refine Ex.ite ?_ ?_)|(with_reducible refine Ex.bind (fun t=>?_))
    · intro a0 a1 a2 a3 a4 a5 a6 a7 a8 a9 a10 a11
      rw[rule_reader_rel.j1,rule_reader_rel_g.j1]
      repeat' first|(with_reducible exact Ex.l _)|(with_reducible exact Ex.r _)|(with_reducible exact ih.1 _ _ _ _ _ _ _ _ _ _ _)|(with_reducible exact ih.2.1 _ _ _ _ _ _ _ _ _ _ _ _)|(with_reducible exact ih.2.2.1 _ _ _ _ _ _ _ _ _ _ _ _)|(with_reducible exact ih.2.2.2 _ _ _ _ _ _ _ _ _ _ _ _ _)|(with_reducible refine Ex.orf (by first|exact want_ex _ _ _ _ _ _ _ _ _ _ _|exact value_ex _ _ _ _ _ _ _ _ _ _|exact span_ex _ _ _ _ _ _ _ _ _ _) (fun t=>?_))|(with_reducible refine Ex.one (by first|exact want_ex _ _ _ _ _ _ _ _ _ _ _|exact value_ex _ _ _ _ _ _ _ _ _ _|exact span_ex _ _ _ _ _ _ _ _ _ _))|(with_reducible refine Ex.ite ?_ ?_)|(with_reducible refine Ex.bind (fun t=>?_))
    · intro a0 a1 a2 a3 a4 a5 a6 a7 a8 a9 a10 a11
      rw[rule_reader_rel.j2,rule_reader_rel_g.j2]
      repeat' first|(with_reducible exact Ex.l _)|(with_reducible exact Ex.r _)|(with_reducible exact ih.1 _ _ _ _ _ _ _ _ _ _ _)|(with_reducible exact ih.2.1 _ _ _ _ _ _ _ _ _ _ _ _)|(with_reducible exact ih.2.2.1 _ _ _ _ _ _ _ _ _ _ _ _)|(with_reducible exact ih.2.2.2 _ _ _ _ _ _ _ _ _ _ _ _ _)|(with_reducible refine Ex.orf (by first|exact want_ex _ _ _ _ _ _ _ _ _ _ _|exact value_ex _ _ _ _ _ _ _ _ _ _|exact span_ex _ _ _ _ _ _ _ _ _ _) (fun t=>?_))|(with_reducible refine Ex.one (by first|exact want_ex _ _ _ _ _ _ _ _ _ _ _|exact value_ex _ _ _ _ _ _ _ _ _ _|exact span_ex _ _ _ _ _ _ _ _ _ _))|(with_reducible refine Ex.ite ?_ ?_)|(with_reducible refine Ex.bind (fun t=>?_))
    · intro a0 a1 a2 a3 a4 a5 a6 a7 a8 a9 a10 a11 a12
      rw[rule_reader_rel.l0,rule_reader_rel_g.l0]
      repeat' first|(with_reducible exact Ex.l _)|(with_reducible exact Ex.r _)|(with_reducible exact ih.1 _ _ _ _ _ _ _ _ _ _ _)|(with_reducible exact ih.2.1 _ _ _ _ _ _ _ _ _ _ _ _)|(with_reducible exact ih.2.2.1 _ _ _ _ _ _ _ _ _ _ _ _)|(with_reducible exact ih.2.2.2 _ _ _ _ _ _ _ _ _ _ _ _ _)|(with_reducible refine Ex.orf (by first|exact want_ex _ _ _ _ _ _ _ _ _ _ _|exact value_ex _ _ _ _ _ _ _ _ _ _|exact span_ex _ _ _ _ _ _ _ _ _ _) (fun t=>?_))|(with_reducible refine Ex.one (by first|exact want_ex _ _ _ _ _ _ _ _ _ _ _|exact value_ex _ _ _ _ _ _ _ _ _ _|exact span_ex _ _ _ _ _ _ _ _ _ _))|(with_reducible refine Ex.ite ?_ ?_)|(with_reducible refine Ex.bind (fun t=>?_))
theorem rel_ex:∀k a0 a1 a2 a3 a4 a5 a6 a7 a8,Ex (rule_reader_rel.f k a0 a1 a2 a3 a4 a5 a6 a7 a8) (rule_reader_rel_g.f k a0 a1 a2 a3 a4 a5 a6 a7 a8):=by
  intro k a0 a1 a2 a3 a4 a5 a6 a7 a8
  unfold rule_reader_rel.f rule_reader_rel_g.f
  repeat' first|(with_reducible exact Ex.l _)|(with_reducible exact Ex.r _)|(with_reducible exact(rel_exl _).1 _ _ _ _ _ _ _ _ _ _ _)|(with_reducible exact(rel_exl _).2.1 _ _ _ _ _ _ _ _ _ _ _ _)|(with_reducible exact(rel_exl _).2.2.1 _ _ _ _ _ _ _ _ _ _ _ _)|(with_reducible exact(rel_exl _).2.2.2 _ _ _ _ _ _ _ _ _ _ _ _ _)|(with_reducible refine Ex.orf (by first|exact want_ex _ _ _ _ _ _ _ _ _ _ _|exact value_ex _ _ _ _ _ _ _ _ _ _|exact span_ex _ _ _ _ _ _ _ _ _ _) (fun t=>?_))|(with_reducible refine Ex.one (by first|exact want_ex _ _ _ _ _ _ _ _ _ _ _|exact value_ex _ _ _ _ _ _ _ _ _ _|exact span_ex _ _ _ _ _ _ _ _ _ _))|(with_reducible refine Ex.ite ?_ ?_)|(with_reducible refine Ex.bind (fun t=>?_))
theorem all_exl:∀k,(∀a0 a1 a2 a3 a4 a5 a6 a7 a8 a9,Ex (rule_reader_all.l0 k a0 a1 a2 a3 a4 a5 a6 a7 a8 a9) (rule_reader_all_g.l0 k a0 a1 a2 a3 a4 a5 a6 a7 a8 a9)):=by
  intro k
  induction k with
  | zero=>exact fun _ _ _ _ _ _ _ _ _ _=> .inl rfl
  | succ k ih =>
    · intro a0 a1 a2 a3 a4 a5 a6 a7 a8 a9
      rw[rule_reader_all.l0,rule_reader_all_g.l0]
      repeat' first|(with_reducible exact Ex.l _)|(with_reducible exact Ex.r _)|(with_reducible exact ih _ _ _ _ _ _ _ _ _ _)|(with_reducible refine Ex.orf (by first|exact want_ex _ _ _ _ _ _ _ _ _ _ _|exact value_ex _ _ _ _ _ _ _ _ _ _|exact span_ex _ _ _ _ _ _ _ _ _ _|exact rel_ex _ _ _ _ _ _ _ _ _ _) (fun t=>?_))|(with_reducible refine Ex.one (by first|exact want_ex _ _ _ _ _ _ _ _ _ _ _|exact value_ex _ _ _ _ _ _ _ _ _ _|exact span_ex _ _ _ _ _ _ _ _ _ _|exact rel_ex _ _ _ _ _ _ _ _ _ _))|(with_reducible refine Ex.ite ?_ ?_)|(with_reducible refine Ex.bind (fun t=>?_))
theorem all_ex:∀k a0 a1 a2 a3 a4 a5 a6 a7 a8,Ex (rule_reader_all.f k a0 a1 a2 a3 a4 a5 a6 a7 a8) (rule_reader_all_g.f k a0 a1 a2 a3 a4 a5 a6 a7 a8):=by
  intro k a0 a1 a2 a3 a4 a5 a6 a7 a8
  unfold rule_reader_all.f rule_reader_all_g.f
  repeat' first|(with_reducible exact Ex.l _)|(with_reducible exact Ex.r _)|(with_reducible exact(all_exl _) _ _ _ _ _ _ _ _ _ _)|(with_reducible refine Ex.orf (by first|exact want_ex _ _ _ _ _ _ _ _ _ _ _|exact value_ex _ _ _ _ _ _ _ _ _ _|exact span_ex _ _ _ _ _ _ _ _ _ _|exact rel_ex _ _ _ _ _ _ _ _ _ _) (fun t=>?_))|(with_reducible refine Ex.one (by first|exact want_ex _ _ _ _ _ _ _ _ _ _ _|exact value_ex _ _ _ _ _ _ _ _ _ _|exact span_ex _ _ _ _ _ _ _ _ _ _|exact rel_ex _ _ _ _ _ _ _ _ _ _))|(with_reducible refine Ex.ite ?_ ?_)|(with_reducible refine Ex.bind (fun t=>?_))
theorem rule_exl:∀k,(∀a0 a1 a2 a3 a4 a5 a6 a7 a8 a9,Ex (rule_reader_rule.j0 k a0 a1 a2 a3 a4 a5 a6 a7 a8 a9) (rule_reader_rule_g.j0 k a0 a1 a2 a3 a4 a5 a6 a7 a8 a9))∧(∀a0 a1 a2 a3 a4 a5 a6 a7 a8 a9 a10 a11,Ex (rule_reader_rule.l0 k a0 a1 a2 a3 a4 a5 a6 a7 a8 a9 a10 a11) (rule_reader_rule_g.l0 k a0 a1 a2 a3 a4 a5 a6 a7 a8 a9 a10 a11)):=by
  intro k
  induction k with
  | zero=>exact⟨fun _ _ _ _ _ _ _ _ _ _=> .inl rfl,fun _ _ _ _ _ _ _ _ _ _ _ _=> .inl rfl⟩
  | succ k ih =>
    refine⟨?_,?_⟩
    · intro a0 a1 a2 a3 a4 a5 a6 a7 a8 a9
      rw[rule_reader_rule.j0,rule_reader_rule_g.j0]
      repeat' first|(with_reducible exact Ex.l _)|(with_reducible exact Ex.r _)|(with_reducible exact ih.1 _ _ _ _ _ _ _ _ _ _)|(with_reducible exact ih.2 _ _ _ _ _ _ _ _ _ _ _ _)|(with_reducible refine Ex.orf (by first|exact want_ex _ _ _ _ _ _ _ _ _ _ _|exact value_ex _ _ _ _ _ _ _ _ _ _|exact span_ex _ _ _ _ _ _ _ _ _ _|exact rel_ex _ _ _ _ _ _ _ _ _ _|exact all_ex _ _ _ _ _ _ _ _ _ _) (fun t=>?_))|(with_reducible refine Ex.one (by first|exact want_ex _ _ _ _ _ _ _ _ _ _ _|exact value_ex _ _ _ _ _ _ _ _ _ _|exact span_ex _ _ _ _ _ _ _ _ _ _|exact rel_ex _ _ _ _ _ _ _ _ _ _|exact all_ex _ _ _ _ _ _ _ _ _ _))|(with_reducible refine Ex.ite ?_ ?_)|(with_reducible refine Ex.bind (fun t=>?_))
    · intro a0 a1 a2 a3 a4 a5 a6 a7 a8 a9 a10 a11
      rw[rule_reader_rule.l0,rule_reader_rule_g.l0]
      repeat' first|(with_reducible exact Ex.l _)|(with_reducible exact Ex.r _)|(with_reducible exact ih.1 _ _ _ _ _ _ _ _ _ _)|(with_reducible exact ih.2 _ _ _ _ _ _ _ _ _ _ _ _)|(with_reducible refine Ex.orf (by first|exact want_ex _ _ _ _ _ _ _ _ _ _ _|exact value_ex _ _ _ _ _ _ _ _ _ _|exact span_ex _ _ _ _ _ _ _ _ _ _|exact rel_ex _ _ _ _ _ _ _ _ _ _|exact all_ex _ _ _ _ _ _ _ _ _ _) (fun t=>?_))|(with_reducible refine Ex.one (by first|exact want_ex _ _ _ _ _ _ _ _ _ _ _|exact value_ex _ _ _ _ _ _ _ _ _ _|exact span_ex _ _ _ _ _ _ _ _ _ _|exact rel_ex _ _ _ _ _ _ _ _ _ _|exact all_ex _ _ _ _ _ _ _ _ _ _))|(with_reducible refine Ex.ite ?_ ?_)|(with_reducible refine Ex.bind (fun t=>?_))
theorem rule_ex:∀k a0 a1 a2 a3 a4 a5 a6 a7 a8,Ex (rule_reader_rule.f k a0 a1 a2 a3 a4 a5 a6 a7 a8) (rule_reader_rule_g.f k a0 a1 a2 a3 a4 a5 a6 a7 a8):=by
  intro k a0 a1 a2 a3 a4 a5 a6 a7 a8
  unfold rule_reader_rule.f rule_reader_rule_g.f
  repeat' first|(with_reducible exact Ex.l _)|(with_reducible exact Ex.r _)|(with_reducible exact(rule_exl _).1 _ _ _ _ _ _ _ _ _ _)|(with_reducible exact(rule_exl _).2 _ _ _ _ _ _ _ _ _ _ _ _)|(with_reducible refine Ex.orf (by first|exact want_ex _ _ _ _ _ _ _ _ _ _ _|exact value_ex _ _ _ _ _ _ _ _ _ _|exact span_ex _ _ _ _ _ _ _ _ _ _|exact rel_ex _ _ _ _ _ _ _ _ _ _|exact all_ex _ _ _ _ _ _ _ _ _ _) (fun t=>?_))|(with_reducible refine Ex.one (by first|exact want_ex _ _ _ _ _ _ _ _ _ _ _|exact value_ex _ _ _ _ _ _ _ _ _ _|exact span_ex _ _ _ _ _ _ _ _ _ _|exact rel_ex _ _ _ _ _ _ _ _ _ _|exact all_ex _ _ _ _ _ _ _ _ _ _))|(with_reducible refine Ex.ite ?_ ?_)|(with_reducible refine Ex.bind (fun t=>?_))
theorem rules_exl:∀k,(∀a0 a1 a2 a3 a4 a5 a6 a7 a8 a9,Ex (rule_reader_rules.j2 k a0 a1 a2 a3 a4 a5 a6 a7 a8 a9) (rule_reader_rules_g.j2 k a1 a2 a3 a4 a5 a6 a7 a8 a9))∧(∀a0 a1 a2 a3 a4 a5 a6 a7 a8 a9,Ex (rule_reader_rules.l0 k a0 a1 a2 a3 a4 a5 a6 a7 a8 a9) (rule_reader_rules_g.l0 k a0 a1 a2 a3 a4 a5 a6 a7 a8 a9))∧(∀a0 a1 a2 a3 a4 a5 a6 a7 a8 a9,Ex (rule_reader_rules.j1 k a0 a1 a2 a3 a4 a5 a6 a7 a8 a9) (rule_reader_rules_g.j1 k a0 a1 a2 a3 a4 a5 a6 a7 a8 a9)):=by
  intro k
  induction k with
  | zero=>exact⟨fun _ _ _ _ _ _ _ _ _ _=> .inl rfl,fun _ _ _ _ _ _ _ _ _ _=> .inl rfl,fun _ _ _ _ _ _ _ _ _ _=> .inl rfl⟩
  | succ k ih =>
    refine⟨?_,?_,?_⟩
    · intro a0 a1 a2 a3 a4 a5 a6 a7 a8 a9
      rw[rule_reader_rules.j2,rule_reader_rules_g.j2]
      repeat' first|(with_reducible exact Ex.l _)|(with_reducible exact Ex.r _)|(with_reducible exact ih.1 _ _ _ _ _ _ _ _ _ _)|(with_reducible exact ih.2.1 _ _ _ _ _ _ _ _ _ _)|(with_reducible exact ih.2.2 _ _ _ _ _ _ _ _ _ _)|(with_reducible refine Ex.orf (by first|exact want_ex _ _ _ _ _ _ _ _ _ _ _|exact value_ex _ _ _ _ _ _ _ _ _ _|exact span_ex _ _ _ _ _ _ _ _ _ _|exact rel_ex _ _ _ _ _ _ _ _ _ _|exact all_ex _ _ _ _ _ _ _ _ _ _|exact rule_ex _ _ _ _ _ _ _ _ _ _) (fun t=>?_))|(with_reducible refine Ex.one (by first|exact want_ex _ _ _ _ _ _ _ _ _ _ _|exact value_ex _ _ _ _ _ _ _ _ _ _|exact span_ex _ _ _ _ _ _ _ _ _ _|exact rel_ex _ _ _ _ _ _ _ _ _ _|exact all_ex _ _ _ _ _ _ _ _ _ _|exact rule_ex _ _ _ _ _ _ _ _ _ _))|(with_reducible refine Ex.ite ?_ ?_)|(with_reducible refine Ex.bind (fun t=>?_))
    · intro a0 a1 a2 a3 a4 a5 a6 a7 a8 a9
      rw[rule_reader_rules.l0,rule_reader_rules_g.l0]
      repeat' first|(with_reducible exact Ex.l _)|(with_reducible exact Ex.r _)|(with_reducible exact ih.1 _ _ _ _ _ _ _ _ _ _)|(with_reducible exact ih.2.1 _ _ _ _ _ _ _ _ _ _)|(with_reducible exact ih.2.2 _ _ _ _ _ _ _ _ _ _)|(with_reducible refine Ex.orf (by first|exact want_ex _ _ _ _ _ _ _ _ _ _ _|exact value_ex _ _ _ _ _ _ _ _ _ _|exact span_ex _ _ _ _ _ _ _ _ _ _|exact rel_ex _ _ _ _ _ _ _ _ _ _|exact all_ex _ _ _ _ _ _ _ _ _ _|exact rule_ex _ _ _ _ _ _ _ _ _ _) (fun t=>?_))|(with_reducible refine Ex.one (by first|exact want_ex _ _ _ _ _ _ _ _ _ _ _|exact value_ex _ _ _ _ _ _ _ _ _ _|exact span_ex _ _ _ _ _ _ _ _ _ _|exact rel_ex _ _ _ _ _ _ _ _ _ _|exact all_ex _ _ _ _ _ _ _ _ _ _|exact rule_ex _ _ _ _ _ _ _ _ _ _))|(with_reducible refine Ex.ite ?_ ?_)|(with_reducible refine Ex.bind (fun t=>?_))
    · intro a0 a1 a2 a3 a4 a5 a6 a7 a8 a9
      rw[rule_reader_rules.j1,rule_reader_rules_g.j1]
      repeat' first|(with_reducible exact Ex.l _)|(with_reducible exact Ex.r _)|(with_reducible exact ih.1 _ _ _ _ _ _ _ _ _ _)|(with_reducible exact ih.2.1 _ _ _ _ _ _ _ _ _ _)|(with_reducible exact ih.2.2 _ _ _ _ _ _ _ _ _ _)|(with_reducible refine Ex.orf (by first|exact want_ex _ _ _ _ _ _ _ _ _ _ _|exact value_ex _ _ _ _ _ _ _ _ _ _|exact span_ex _ _ _ _ _ _ _ _ _ _|exact rel_ex _ _ _ _ _ _ _ _ _ _|exact all_ex _ _ _ _ _ _ _ _ _ _|exact rule_ex _ _ _ _ _ _ _ _ _ _) (fun t=>?_))|(with_reducible refine Ex.one (by first|exact want_ex _ _ _ _ _ _ _ _ _ _ _|exact value_ex _ _ _ _ _ _ _ _ _ _|exact span_ex _ _ _ _ _ _ _ _ _ _|exact rel_ex _ _ _ _ _ _ _ _ _ _|exact all_ex _ _ _ _ _ _ _ _ _ _|exact rule_ex _ _ _ _ _ _ _ _ _ _))|(with_reducible refine Ex.ite ?_ ?_)|(with_reducible refine Ex.bind (fun t=>?_))
theorem rules_ex:∀k a0 a1 a2 a3 a4 a5 a6 a7 a8,Ex (rule_reader_rules.f k a0 a1 a2 a3 a4 a5 a6 a7 a8) (rule_reader_rules_g.f k a0 a1 a2 a3 a4 a5 a6 a7 a8):=by
  intro k a0 a1 a2 a3 a4 a5 a6 a7 a8
  unfold rule_reader_rules.f rule_reader_rules_g.f
  repeat' first|(with_reducible exact Ex.l _)|(with_reducible exact Ex.r _)|(with_reducible exact(rules_exl _).1 _ _ _ _ _ _ _ _ _ _)|(with_reducible exact(rules_exl _).2.1 _ _ _ _ _ _ _ _ _ _)|(with_reducible exact(rules_exl _).2.2 _ _ _ _ _ _ _ _ _ _)|(with_reducible refine Ex.orf (by first|exact want_ex _ _ _ _ _ _ _ _ _ _ _|exact value_ex _ _ _ _ _ _ _ _ _ _|exact span_ex _ _ _ _ _ _ _ _ _ _|exact rel_ex _ _ _ _ _ _ _ _ _ _|exact all_ex _ _ _ _ _ _ _ _ _ _|exact rule_ex _ _ _ _ _ _ _ _ _ _) (fun t=>?_))|(with_reducible refine Ex.one (by first|exact want_ex _ _ _ _ _ _ _ _ _ _ _|exact value_ex _ _ _ _ _ _ _ _ _ _|exact span_ex _ _ _ _ _ _ _ _ _ _|exact rel_ex _ _ _ _ _ _ _ _ _ _|exact all_ex _ _ _ _ _ _ _ _ _ _|exact rule_ex _ _ _ _ _ _ _ _ _ _))|(with_reducible refine Ex.ite ?_ ?_)|(with_reducible refine Ex.bind (fun t=>?_))
end RR
end Go.Proofs.YtcokjmnkieakiaaDoor.P
namespace Go.Proofs.YtcokjmnkieakiaaDoor.P
open Go.RowKit Go.Proofs.YtcokjmnkieakiaaDoorW.PrintWords Go.Proofs.YtcokjmnkieakiaaDoorW.PrintLast Go.Proofs.YtcokjmnkieakiaaDoorW.PrintMore Go.Proofs.YtcokjmnkieakiaaDoor.FM
set_option linter.unusedVariables false
set_option linter.unusedSimpArgs false
namespace RR
section
variable {l:List UInt8}
theorem fin_ok (hl:Le l) {m:Nat} {seen:List Nat} {t:List UInt8} {acc out:List RG.Ru} (ht:t <:+ l) (h:RG.fin t acc= .ok out):∃r,Ev (fun k=>rule_reader_rules.j2 k (acc.map toU) (S l) (ps l t) (m:Int) (sn seen 0) (sn seen 1) (sn seen 2) (sn seen 3) (sn seen 4) (sn seen 5)) (out.map toU,r):=by
  unfold RG.fin at h
  split at h
  · rename_i e
    injection h with h
    subst h
    refine⟨_,Ev.step (fun k=>rule_reader_rules.j2.eq_2 ..) (Ev.bind (peek_ev hl ht) (Ev.if_pos ?_ (Ev.if_neg ?_ (Ev.now _))))⟩
    · show pk t=0
      unfold pk;rw[e]
    · show ¬ps l (RG.sk t)<((S l).size:Int)
      rw[e,S_size];unfold ps;simp
  · cases h
theorem rules_ok (hl:Le l):∀(k:Nat) {m:Nat} {seen:List Nat} {t:List UInt8} {acc out:List RG.Ru},RG.rules k m seen t acc= .ok out→t <:+ l→acc.length+k≤30000 →
    ∃r,Ev (fun q=>rule_reader_rules.l0 q (acc.map toU) (S l) (ps l t) (m:Int) (sn seen 0) (sn seen 1) (sn seen 2) (sn seen 3) (sn seen 4) (sn seen 5)) (out.map toU,r)
  | 0,m,seen,t,acc,out,h,ht,hk=>by cases h
  | k+1,m,seen,t,acc,out,h,ht,hk=>by
    have hst:=(sk_suf t).trans ht
    rw[RG.rules] at h
    split at h
    · rename_i hp
      have h':RG.fin (RG.sk t) acc= .ok out:=by
        rw[← h];unfold RG.fin;rw[RG.sk_sk]
      obtain⟨r,hr⟩:=fin_ok (m:=m) (seen:=seen) hl hst h'
      exact⟨r,Ev.step (fun k=>rule_reader_rules.l0.eq_2 ..) (Ev.bind (peek_ev hl ht) (Ev.if_pos (pk_zero.2 hp) hr))⟩
    · rename_i hp
      split at h
      · cases h
      rename_i x u e1
      have e1':RG.rule m seen (RG.sk t)= .ok (x,u):=by
        rw[← e1]
        unfold RG.rule
        have:RG.word (RG.sk t)=RG.word t:=RG.word_congr (RG.sk_sk t)
        rw[this,RG.sk_sk]
      obtain⟨a1,a2⟩:=rule_ok hl hst e1'
      split at h
      · rename_i e2
        have h':RG.fin (RG.sk u) (acc++[x])= .ok out:=by
          rw[← h];unfold RG.fin;rw[RG.sk_sk]
        obtain⟨r,hr⟩:=fin_ok (m:=m+RG.count x.any) (seen:=seen++[x.cat]) hl ((sk_suf u).trans a1) h'
        refine⟨r,Ev.step (fun k=>rule_reader_rules.l0.eq_2 ..) (Ev.bind (peek_ev hl ht) (Ev.if_neg (fun e=>hp (pk_zero.1 e)) (Ev.bind a2 (Ev.if_pos ?_ (Ev.step (fun k=>rule_reader_rules.j1.eq_2 ..) (Ev.bind (take_no hl a1 e2) (Ev.if_neg (by simp) ?_)))))))⟩
        · rw[List.length_map];omega
        · rw[List.map_append] at hr
          exact hr
      · rename_i v e2
        obtain⟨r,hr⟩:=rules_ok hl k h ((tk_suf e2).trans a1) (by rw[List.length_append,List.length_singleton];omega)
        refine⟨r,Ev.step (fun k=>rule_reader_rules.l0.eq_2 ..) (Ev.bind (peek_ev hl ht) (Ev.if_neg (fun e=>hp (pk_zero.1 e)) (Ev.bind a2 (Ev.if_pos ?_ (Ev.step (fun k=>rule_reader_rules.j1.eq_2 ..) (Ev.bind (take_yes hl a1 e2) (Ev.if_pos rfl ?_)))))))⟩
        · rw[List.length_map];omega
        · rw[List.map_append] at hr
          exact hr
/-- what is read without a fault -/
theorem parse_ok {out:List RG.Ru} (hl:l.length≤4000) (h:RG.parse l= .ok out):Ev (fun k=>rule_Parse.f k (S l)) (out.map toU,0,0):=by
  unfold rule_Parse.f
  refine Ev.if_neg (by rw[S_size];omega) ?_
  obtain⟨r,hr⟩:=rules_ok (l:=l) (by unfold Le;omega) _ h (List.suffix_refl _) (by simp;omega)
  rw[ps_len] at hr
  first
  | exact Ev.bind (f:=fun k t=>some (t.1,0,0)) (g:=fun k=>rule_reader_rules.f k (S l) 0 0 false false false false false false) hr (Ev.now _)
  | exact Ev.orfR (X:=fun k=>rule_reader_rules.f k (S l) 0 0 false false false false false false) (Y:=fun k=>rule_reader_rules_g.f k (S l) 0 0 false false false false false false) (u:=fun k t=>some ([],t.1,t.2)) (F:=fun k t=>some (t.1,0,0)) hr (fun k=>rules_ex k _ _ _ _ _ _ _ _ _) (Ev.now _)
end
end RR
end Go.Proofs.YtcokjmnkieakiaaDoor.P
namespace Go.Proofs.YtcokjmnkieakiaaDoor.P
open Go.RowKit Go.Proofs.YtcokjmnkieakiaaDoorW.PrintWords Go.Proofs.YtcokjmnkieakiaaDoorW.PrintLast Go.Proofs.YtcokjmnkieakiaaDoorW.PrintMore Go.Proofs.YtcokjmnkieakiaaDoor.FM
set_option linter.unusedVariables false
set_option linter.unusedSimpArgs false
namespace RR
theorem getD_drop {α:Type} {L:List α} {i:Nat} {z:α} {zs:List α} (d:α) (h:L.drop i=z::zs):L.getD i d=z∧i<L.length∧L.drop (i+1)=zs:=by
  have hl:i<L.length:=by
    apply Classical.byContradiction
    intro hn
    rw[List.drop_eq_nil_of_le (by omega)] at h
    cases h
  rw[List.drop_eq_getElem_cons hl] at h
  injection h with h1 h2
  refine⟨?_,hl,h2⟩
  rw[List.getD_eq_getElem?_getD,List.getElem?_eq_getElem hl]
  exact h1
theorem drop_nil_le {α:Type} {L:List α} {i:Nat} (h:L.drop i=[]):L.length≤i:=by
  have:=congrArg List.length h
  rw[List.length_drop,List.length_nil] at this
  omega
theorem w_succ {i:Nat} (h:i≤1000000000000):wrap64 ((i:Int)+1)=((i+1:Nat):Int):=by rw[w64 (by omega) (by omega)];omega
theorem dgs_len {n:Nat} (h:n<10 ^ 9):(RG.dgs n).length≤9:=(RG.Dg_dgs h).2.2.2.1
end RR
end Go.Proofs.YtcokjmnkieakiaaDoor.P
namespace Go.Proofs.YtcokjmnkieakiaaDoor.P
open Go.RowKit Go.Proofs.YtcokjmnkieakiaaDoorW.PrintWords Go.Proofs.YtcokjmnkieakiaaDoorW.PrintLast Go.Proofs.YtcokjmnkieakiaaDoorW.PrintMore Go.Proofs.YtcokjmnkieakiaaDoor.FM
set_option linter.unusedVariables false
set_option linter.unusedSimpArgs false
end Go.Proofs.YtcokjmnkieakiaaDoor.P
namespace Go.Proofs.YtcokjmnkieakiaaDoor.P
open Go.RowKit Go.Proofs.YtcokjmnkieakiaaDoorW.PrintWords Go.Proofs.YtcokjmnkieakiaaDoorW.PrintLast Go.Proofs.YtcokjmnkieakiaaDoorW.PrintMore Go.Proofs.YtcokjmnkieakiaaDoor.FM
set_option linter.unusedVariables false
set_option linter.unusedSimpArgs false
end Go.Proofs.YtcokjmnkieakiaaDoor.P
namespace Go.Proofs.YtcokjmnkieakiaaDoor.P
open Go.RowKit Go.Proofs.YtcokjmnkieakiaaDoorW.PrintWords Go.Proofs.YtcokjmnkieakiaaDoorW.PrintLast Go.Proofs.YtcokjmnkieakiaaDoorW.PrintMore Go.Proofs.YtcokjmnkieakiaaDoor.FM
set_option linter.unusedVariables false
set_option linter.unusedSimpArgs false
namespace RR
theorem rdG {L:List Rng} {i:Nat} {z:Rng} {zs:List Rng} (h:L.drop i=z::zs):rd_T38 L (i:Int)=z:=by
  unfold rd_T38
  rw[Int.toNat_natCast]
  exact(getD_drop _ h).1
theorem rdL {L:List RelT} {i:Nat} {z:RelT} {zs:List RelT} (h:L.drop i=z::zs):rd_T36 L (i:Int)=z:=by
  unfold rd_T36
  rw[Int.toNat_natCast]
  exact(getD_drop _ h).1
theorem rdU {L:List RuleT} {i:Nat} {z:RuleT} {zs:List RuleT} (h:L.drop i=z::zs):rd_T32 L (i:Int)=z:=by
  unfold rd_T32
  rw[Int.toNat_natCast]
  exact(getD_drop _ h).1
theorem rdLL {L:List (List RelT)} {i:Nat} {z:List RelT} {zs:List (List RelT)} (h:L.drop i=z::zs):rd_L7 L (i:Int)=z:=by
  unfold rd_L7
  rw[Int.toNat_natCast]
  exact(getD_drop _ h).1
end RR
namespace RR
/-! the same? -/
theorem sameRel_loop (a b:Int) (c:Bool) {L:List Rng} (hL:L.length≤1000000):∀(zs:List Rng) (i:Nat),L.drop i=zs→Ev (fun k=>florinlaw06_sameRel.l0 k (L.length:Int) (i:Int) a b c L a b c L) true
  | [],i,hd=>by
    have hle:=drop_nil_le hd
    exact Ev.step (fun k=>florinlaw06_sameRel.l0.eq_2 ..) (Ev.if_neg (by omega) (Ev.now _))
  | z::zs,i,hd=>by
    obtain⟨_,hi,hd2⟩:=getD_drop z hd
    have c1:(i:Int)<(L.length:Int):=by omega
    have c2:(0:Int)≤(i:Int):=by omega
    have hwi:=w_succ (i:=i) (by omega)
    refine Ev.step (fun k=>florinlaw06_sameRel.l0.eq_2 ..) (Ev.if_pos c1 (Ev.if_pos c2 (Ev.if_pos c1 (Ev.if_pos c1 ?_))))
    rw[rdG hd,hwi]
    exact Ev.if_neg (by simp) (sameRel_loop a b c hL zs (i+1) hd2)
theorem sameRel_ev {r:RelT} (h:r.f3.length≤1000000):Ev (fun k=>florinlaw06_sameRel.f k r.f0 r.f1 r.f2 r.f3 r.f0 r.f1 r.f2 r.f3) true:=by
  unfold florinlaw06_sameRel.f
  refine Ev.if_pos rfl (Ev.if_pos rfl (Ev.if_neg (by simp) ?_))
  have e:((r.f3.length:Int) !=(r.f3.length:Int))=false:=by simp
  rw[e]
  exact Ev.step (fun k=>florinlaw06_sameRel.j0.eq_2 ..) (Ev.if_neg (by decide) (sameRel_loop _ _ _ h r.f3 0 rfl))
def SmA (a:List RelT):Prop:=a.length≤1000000∧∀r∈a,r.f3.length≤1000000
def SmU (x:RuleT):Prop:=x.f1.length≤1000000∧∀a∈x.f1,SmA a
theorem same_l2 {L:List RuleT} {i j:Nat} {u:RuleT} {us:List RuleT} {a:List RelT} {al:List (List RelT)} {x14 x15 x62 x63:Int} (hi:L.drop i=u::us) (hj:u.f1.drop j=a::al) (ha:SmA a)
    (hk:Ev (fun k=>florinlaw06_Same.l1 k L L (i:Int) x14 x15 x62 (wrap64 (x63+1))) true):∀(zs:List RelT) (q:Nat),a.drop q=zs→Ev (fun k=>florinlaw06_Same.l2 k L L (i:Int) (j:Int) x14 x15 x62 x63 (a.length:Int) (q:Int)) true
  | [],q,hd=>by
    have hle:=drop_nil_le hd
    exact Ev.step (fun k=>florinlaw06_Same.l2.eq_2 ..) (Ev.if_neg (by omega) hk)
  | z::zs,q,hd=>by
    obtain⟨_,hq,hd2⟩:=getD_drop z hd
    obtain⟨_,hil,_⟩:=getD_drop u hi
    obtain⟨_,hjl,_⟩:=getD_drop a hj
    have hal:=ha.1
    have c1:(q:Int)<(a.length:Int):=by omega
    have c2:(0:Int)≤(q:Int):=by omega
    have c3:(i:Int)<(L.length:Int):=by omega
    have c4:(0:Int)≤(i:Int):=by omega
    have c5:(j:Int)<(u.f1.length:Int):=by omega
    have c6:(0:Int)≤(j:Int):=by omega
    have hwq:=w_succ (i:=q) (by omega)
    have hz:z.f3.length≤1000000:=ha.2 z (by
      have:z∈a.drop q:=by rw[hd];simp
      exact List.mem_of_mem_drop this)
    refine Ev.step (fun k=>florinlaw06_Same.l2.eq_2 ..) ?_
    rw[rdU hi,rdLL hj,rdL hd,hwq]
    exact Ev.if_pos c1 (Ev.if_pos c4 (Ev.if_pos c3 (Ev.if_pos c6 (Ev.if_pos c5 (Ev.if_pos c2 (Ev.if_pos c1 (Ev.if_pos c3 (Ev.if_pos c5 (Ev.if_pos c1 (Ev.bind (sameRel_ev hz) (Ev.if_pos rfl (same_l2 hi hj ha hk zs (q+1) hd2))))))))))))
theorem same_l1 {L:List RuleT} {i:Nat} {u:RuleT} {us:List RuleT} {x14 x15:Int} (hi:L.drop i=u::us) (hu:SmU u)
    (hk:Ev (fun k=>florinlaw06_Same.l0 k L L x14 (wrap64 (x15+1))) true):∀(zs:List (List RelT)) (j:Nat),u.f1.drop j=zs→Ev (fun k=>florinlaw06_Same.l1 k L L (i:Int) x14 x15 (u.f1.length:Int) (j:Int)) true
  | [],j,hd=>by
    have hle:=drop_nil_le hd
    exact Ev.step (fun k=>florinlaw06_Same.l1.eq_2 ..) (Ev.if_neg (by omega) hk)
  | a::al,j,hd=>by
    obtain⟨_,hj,hd2⟩:=getD_drop a hd
    obtain⟨_,hil,_⟩:=getD_drop u hi
    have hul:=hu.1
    have c3:(i:Int)<(L.length:Int):=by omega
    have c4:(0:Int)≤(i:Int):=by omega
    have c5:(j:Int)<(u.f1.length:Int):=by omega
    have c6:(0:Int)≤(j:Int):=by omega
    have hwj:=w_succ (i:=j) (by omega)
    have ha:SmA a:=hu.2 a (by
      have:a∈u.f1.drop j:=by rw[hd];simp
      exact List.mem_of_mem_drop this)
    have ih:=same_l1 hi hu hk al (j+1) hd2
    rw[← hwj] at ih
    have h2:=same_l2 hi hd ha ih a 0 rfl
    refine Ev.step (fun k=>florinlaw06_Same.l1.eq_2 ..) ?_
    rw[rdU hi,rdLL hd]
    exact Ev.if_pos c5 (Ev.if_pos c4 (Ev.if_pos c3 (Ev.if_pos c6 (Ev.if_pos c5 (Ev.if_pos c3 (Ev.if_pos c5 (Ev.if_pos rfl h2)))))))
theorem same_l0 {L:List RuleT} (hL:L.length≤1000000) (hu:∀x∈L,SmU x):∀(zs:List RuleT) (i:Nat),L.drop i=zs→Ev (fun k=>florinlaw06_Same.l0 k L L (L.length:Int) (i:Int)) true
  | [],i,hd=>by
    have hle:=drop_nil_le hd
    exact Ev.step (fun k=>florinlaw06_Same.l0.eq_2 ..) (Ev.if_neg (by omega) (Ev.now _))
  | z::zs,i,hd=>by
    obtain⟨_,hi,hd2⟩:=getD_drop z hd
    have c1:(i:Int)<(L.length:Int):=by omega
    have c2:(0:Int)≤(i:Int):=by omega
    have hwi:=w_succ (i:=i) (by omega)
    have hz:SmU z:=hu z (by
      have:z∈L.drop i:=by rw[hd];simp
      exact List.mem_of_mem_drop this)
    have ih:=same_l0 hL hu zs (i+1) hd2
    rw[← hwi] at ih
    have h1:=same_l1 hd hz ih z.f1 0 rfl
    refine Ev.step (fun k=>florinlaw06_Same.l0.eq_2 ..) (Ev.if_pos c1 (Ev.if_pos c2 (Ev.if_pos c1 (Ev.if_pos c1 (Ev.if_pos rfl (Ev.if_pos rfl ?_))))))
    rw[rdU hd]
    have e:((z.f1.length:Int) !=(z.f1.length:Int))=false:=by simp
    rw[e]
    refine Ev.step (fun k=>florinlaw06_Same.j1.eq_2 ..) (Ev.if_neg (by decide) (Ev.if_pos c2 (Ev.if_pos c1 ?_)))
    rw[rdU hd]
    exact h1
theorem same_ev {L:List RuleT} (hL:L.length≤1000000) (hu:∀x∈L,SmU x):Ev (fun k=>florinlaw06_Same.f k L L) true:=by
  unfold florinlaw06_Same.f
  exact Ev.if_pos rfl (same_l0 hL hu L 0 rfl)
/-- small enough for the loops -/
def SmR (x:RG.Ru):Prop:=x.any.length≤1000000∧∀a∈x.any,a.length≤1000000∧∀r∈a,r.rs.length≤1000000
theorem SmU_toU {x:RG.Ru} (h:SmR x):SmU (toU x):=by
  refine⟨by show(x.any.map _).length≤_;rw[List.length_map];exact h.1,fun a ha=>?_⟩
  obtain⟨b,hb,rfl⟩:=List.mem_map.1 ha
  obtain⟨h1,h2⟩:=h.2 b hb
  refine⟨by rw[List.length_map];exact h1,fun r hr=>?_⟩
  obtain⟨s,hs,rfl⟩:=List.mem_map.1 hr
  show(s.rs.map toG).length≤_
  rw[List.length_map]
  exact h2 s hs
end RR
end Go.Proofs.YtcokjmnkieakiaaDoor.P
namespace Go.Proofs.YtcokjmnkieakiaaDoor.P
open Go.RowKit Go.Proofs.YtcokjmnkieakiaaDoorW.PrintWords Go.Proofs.YtcokjmnkieakiaaDoorW.PrintLast Go.Proofs.YtcokjmnkieakiaaDoorW.PrintMore Go.Proofs.YtcokjmnkieakiaaDoor.FM
set_option linter.unusedVariables false
set_option linter.unusedSimpArgs false
namespace RR
/-! rules as they are written -/
theorem dec_dgs (u:Nat):Lib.decDigits u=RG.dgs u:=by
  induction u using Nat.strongRecOn with
  | _ u ih =>
    unfold RG.dgs at ih ⊢
    rw[Lib.decDigits]
    by_cases h:u<10
    · rw[dif_pos h]
      by_cases h0:u=0
      · rw[_root_.if_pos h0,h0];rfl
      · rw[_root_.if_neg h0,mkl_pos (by omega),show u/10=0 by omega,mkl_zero,List.nil_append,Nat.mod_eq_of_lt h]
    · rw[dif_neg h,ih (u/10) (by omega),_root_.if_neg (by omega),_root_.if_neg (by omega),mkl_pos (n:=u) (by omega)]
theorem itoa_ev {n:Nat} (h:n<10 ^ 9):strconv_Itoa.f (n:Int)=some (S (RG.dgs n)):=by
  unfold strconv_Itoa.f
  rw[_root_.if_pos ⟨by omega,by omega⟩]
  unfold Lib.itoa
  rw[_root_.if_neg (by omega),Int.toNat_natCast,dec_dgs]
  rfl
theorem join_ev (sep:List UInt8) (xs:List (List UInt8)) (h1:xs.length≤1000000) (h2:(RG.jn sep xs).length≤1000000000):strings_Join.f (xs.map S) (S sep)=some (S (RG.jn sep xs)):=by
  have e:Lib.join ((xs.map S).map (fun s=>s.data.toList)) (S sep).data.toList=RG.jn sep xs:=by
    rw[List.map_map]
    have:xs.map ((fun s:ByteArray=>s.data.toList) ∘ S)=xs:=by
      conv=>rhs;rw[← List.map_id xs]
      rfl
    rw[this]
    exact RG.jn_eq sep xs
  unfold strings_Join.f
  rw[e,_root_.if_pos ⟨by rw[List.length_map];exact h1,by omega⟩]
  rfl
theorem jn_len {sep:List UInt8} (hs:0<sep.length):∀(xs:List (List UInt8)),xs.length≤(RG.jn sep xs).length+1
  | []=>by simp
  | [x]=>by simp
  | x::y::l=>by
    have:=jn_len hs (y::l)
    rw[RG.jn]
    simp only[List.length_append,List.length_cons] at this ⊢
    omega
theorem jn_mem {sep x:List UInt8}:∀ {xs:List (List UInt8)},x∈xs→x.length≤(RG.jn sep xs).length
  | [],h=>by cases h
  | [y],h=>by rw[List.mem_singleton.1 h];exact Nat.le_refl _
  | y::z::l,h=>by
    rw[RG.jn]
    simp only[List.length_append]
    rcases List.mem_cons.1 h with rfl|h
    · omega
    · have:=jn_mem (sep:=sep) h
      omega
theorem span_str {x:Nat × Nat} (h:RG.WfS x):rule_Range_String.f (x.1:Int) (x.2:Int)=some (S (RG.wrSpan x)):=by
  obtain⟨h1,h2⟩:=h
  have a:=dgs_len (n:=x.1) (by omega)
  have b:=dgs_len h2
  unfold rule_Range_String.f RG.wrSpan
  rw[itoa_ev (n:=x.1) (by omega),itoa_ev h2,show(⟨#[46,46]⟩:ByteArray)=S [46,46] from rfl]
  by_cases e:x.1=x.2
  · rw[_root_.if_pos e,_root_.if_pos (by omega)];rfl
  · rw[_root_.if_neg e,_root_.if_neg (by omega),Option.bind_some,Option.bind_some,S_append,S_append,S_size,S_size,S_size]
    rw[_root_.if_pos (by omega),_root_.if_pos (by simp only[List.length_append,List.length_cons,List.length_nil];omega)]
    congr 2
    simp
theorem enc_op {c:UInt8} (h:c∈RG.ops):Utf8.encode (wrap32 (c.toNat:Int))=S [c]:=by
  unfold RG.ops at h
  simp only[List.mem_cons,List.not_mem_nil,or_false] at h
  rcases h with rfl|rfl|rfl|rfl|rfl|rfl|rfl|rfl <;> kernel_rfl
theorem rel_loop {L:List Rng} {p q:List UInt8} {tot:List UInt8} (hp:p.length≤100) (hq:q.length≤100):∀(zs:List (Nat × Nat)) (i:Nat) (acc:List (List UInt8)),L.drop i=zs.map toG→(∀x∈zs,RG.WfS x)→L.length≤1000000→acc.length+zs.length≤1000000→RG.jn [44] (acc++zs.map RG.wrSpan)=tot→tot.length≤1000000000 →
    Ev (fun k=>rule_Rel_String.l0 k (S p) (S q) (acc.map S) L (L.length:Int) (i:Int)) (S (p++(q++tot)))
  | [],i,acc,hd,hw,hL,ha,ht,hl=>by
    have hle:=drop_nil_le hd
    rw[List.map_nil,List.append_nil] at ht
    refine Ev.step (fun k=>rule_Rel_String.l0.eq_2 ..) (Ev.if_neg (by omega) ?_)
    rw[show(⟨#[44]⟩:ByteArray)=S [44] from rfl]
    simp only[S_append,S_size]
    refine Ev.if_pos (by omega) (Ev.const (join_ev [44] acc (by omega) (by rw[ht];exact hl)) ?_)
    simp only[S_append,S_size]
    rw[ht,List.append_assoc]
    exact Ev.if_pos (by rw[List.length_append];omega) (Ev.now _)
  | z::zs,i,acc,hd,hw,hL,ha,ht,hl=>by
    rw[List.map_cons] at hd
    rw[List.length_cons] at ha
    obtain⟨_,hi,hd2⟩:=getD_drop (toG z) hd
    have c1:(i:Int)<(L.length:Int):=by omega
    have c2:(0:Int)≤(i:Int):=by omega
    have c3:(acc.map S).length<8796093022208:=by rw[List.length_map];omega
    have hwi:=w_succ (i:=i) (by omega)
    have ih:=rel_loop (L:=L) (p:=p) (q:=q) (tot:=tot) hp hq zs (i+1) (acc++[RG.wrSpan z]) hd2 (fun x hx=>hw x (by simp[hx])) hL (by rw[List.length_append,List.length_singleton];omega) (by rw[← ht];simp) hl
    refine Ev.step (fun k=>rule_Rel_String.l0.eq_2 ..) (Ev.if_pos c1 (Ev.if_pos c2 (Ev.if_pos c1 ?_)))
    rw[rdG hd,hwi]
    rw[List.map_append] at ih
    exact Ev.const (span_str (hw z (by simp))) (Ev.if_pos c3 ih)
theorem rel_str {x:RG.Rl} (h:RG.WfR x) (hl:(RG.wrRel x).length≤1000000):Ev (fun k=>rule_Rel_String.f k (toL x).f0 (toL x).f1 (toL x).f2 (toL x).f3) (S (RG.wrRel x)):=by
  obtain⟨op,md,nt,rs⟩:=x
  obtain⟨h1,h2,h3,h4⟩:=h
  dsimp only at h1 h2 h3 h4
  have hd:=dgs_len h2
  have hsp:(RG.wrSpans rs).length≤1000000:=by
    unfold RG.wrRel at hl
    dsimp only at hl
    simp only[List.length_cons,List.length_append] at hl
    omega
  have hrs:rs.length≤1000001-1+1:=by
    have:=jn_len (sep:=[44]) (by decide) (rs.map RG.wrSpan)
    rw[List.length_map] at this
    have e:RG.jn [44] (rs.map RG.wrSpan)=RG.wrSpans rs:=rfl
    rw[e] at this
    omega
  have hrs2:rs.length≤1000000:=by
    -- each range is a sign at least
    unfold RG.wrRel at hl
    dsimp only at hl
    simp only[List.length_cons,List.length_append] at hl
    have:=jn_len (sep:=[44]) (by decide) (rs.map RG.wrSpan)
    rw[List.length_map] at this
    have e:RG.jn [44] (rs.map RG.wrSpan)=RG.wrSpans rs:=rfl
    rw[e] at this
    omega
  have j1:∀(p q:List UInt8),p.length≤50→q.length≤50→Ev (fun k=>rule_Rel_String.j1 k (S p) (S q) (toL ⟨op,md,nt,rs⟩).f0 (toL ⟨op,md,nt,rs⟩).f1 (toL ⟨op,md,nt,rs⟩).f2 (toL ⟨op,md,nt,rs⟩).f3) (S (p++(q++RG.wrSpans rs))):=by
    intro p q hp hq
    refine Ev.step (fun k=>rule_Rel_String.j1.eq_2 ..) ?_
    have:=rel_loop (L:=rs.map toG) (p:=p) (q:=q) (by omega) (by omega) rs 0 [] rfl h4 (by rw[List.length_map];omega) (by simp;omega) rfl (show(RG.wrSpans rs).length≤1000000000 by omega)
    exact this
  have j0:∀p:List UInt8,p.length≤50→Ev (fun k=>rule_Rel_String.j0 k (S p) (toL ⟨op,md,nt,rs⟩).f0 (toL ⟨op,md,nt,rs⟩).f1 (toL ⟨op,md,nt,rs⟩).f2 (toL ⟨op,md,nt,rs⟩).f3) (S (p++(RG.wrSgn nt++RG.wrSpans rs))):=by
    intro p hp
    refine Ev.step (fun k=>rule_Rel_String.j0.eq_2 ..) ?_
    cases nt with
    | true=>exact Ev.if_pos rfl (j1 p [32,33,61,32] hp (by decide))
    | false=>exact Ev.if_neg (by show ¬(false=true);decide) (j1 p [32,61,32] hp (by decide))
  unfold rule_Rel_String.f RG.wrRel
  have e1:(toL ⟨op,md,nt,rs⟩).f0=(op.toNat:Int):=rfl
  have e2:(toL ⟨op,md,nt,rs⟩).f1=(md:Int):=rfl
  rw[show Utf8.encode (wrap32 (toL ⟨op,md,nt,rs⟩).f0)=S [op] from enc_op h1,show strconv_Itoa.f (toL ⟨op,md,nt,rs⟩).f1=some (S (RG.dgs md)) from itoa_ev h2,show(⟨#[32,37,32]⟩:ByteArray)=S [32,37,32] from rfl]
  dsimp only
  unfold RG.wrMod
  by_cases h0:md=0
  · rw[_root_.if_pos h0]
    exact Ev.if_pos (by rw[e2,h0];rfl) (j0 [op] (by simp))
  · rw[_root_.if_neg h0]
    refine Ev.if_neg (by rw[e2];omega) (Ev.const rfl ?_)
    simp only[S_append,S_size]
    have:=j0 ([op]++([32,37,32]++RG.dgs md)) (by simp only[List.length_append,List.length_cons,List.length_nil];omega)
    have e3:op::((32::37::32::RG.dgs md)++(RG.wrSgn nt++RG.wrSpans rs))=([op]++([32,37,32]++RG.dgs md))++(RG.wrSgn nt++RG.wrSpans rs):=by simp
    rw[e3]
    exact Ev.if_pos (by omega) (Ev.if_pos (by simp only[List.length_append,List.length_cons,List.length_nil];omega) this)
section
variable {x3:List ByteArray} {x11:List (List RelT)} {x12 x13 c:Int} {X:List (List RelT)} {w r:ByteArray}
theorem and_str {L:List RelT} {tot:List UInt8} (hx3:x3.length<8796093022208):∀(zs:List RG.Rl) (i:Nat) (acc:List (List UInt8)),L.drop i=zs.map toL→(∀x∈zs,RG.WfR x∧(RG.wrRel x).length≤1000000)→L.length≤1000000→acc.length+zs.length≤1000000→RG.jn [32,97,110,100,32] (acc++zs.map RG.wrRel)=tot→tot.length≤1000000 →
    Ev (fun k=>rule_Rule_String.l0 k (x3++[S tot]) x11 x12 (wrap64 (x13+1)) c X w) r →
    Ev (fun k=>rule_Rule_String.l1 k x3 (acc.map S) x11 x12 x13 L (L.length:Int) (i:Int) c X w) r
  | [],i,acc,hd,hw,hL,ha,ht,hl,hk=>by
    have hle:=drop_nil_le hd
    rw[List.map_nil,List.append_nil] at ht
    refine Ev.step (fun k=>rule_Rule_String.l1.eq_2 ..) (Ev.if_neg (by omega) ?_)
    have hj:=join_ev [32,97,110,100,32] acc (by omega) (by rw[ht];omega)
    rw[ht] at hj
    exact Ev.const hj (Ev.if_pos hx3 hk)
  | z::zs,i,acc,hd,hw,hL,ha,ht,hl,hk=>by
    rw[List.map_cons] at hd
    rw[List.length_cons] at ha
    obtain⟨_,hi,hd2⟩:=getD_drop (toL z) hd
    have c1:(i:Int)<(L.length:Int):=by omega
    have c2:(0:Int)≤(i:Int):=by omega
    have c3:(acc.map S).length<8796093022208:=by rw[List.length_map];omega
    have hwi:=w_succ (i:=i) (by omega)
    have ih:=and_str (L:=L) (tot:=tot) hx3 zs (i+1) (acc++[RG.wrRel z]) hd2 (fun x hx=>hw x (by simp[hx])) hL (by rw[List.length_append,List.length_singleton];omega) (by rw[← ht];simp) hl hk
    obtain⟨w1,w2⟩:=hw z (by simp)
    refine Ev.step (fun k=>rule_Rule_String.l1.eq_2 ..) (Ev.if_pos c1 (Ev.if_pos c2 (Ev.if_pos c1 ?_)))
    rw[rdL hd,hwi]
    rw[List.map_append] at ih
    exact Ev.bind (rel_str w1 w2) (Ev.if_pos c3 ih)
end
theorem len_le_jn {sep:List UInt8} (hs:0<sep.length) {xs:List (List UInt8)} (hx:∀x∈xs,0<x.length):xs.length≤(RG.jn sep xs).length:=by
  cases xs with
  | nil=>simp
  | cons x l =>
    have h0:=hx x (by simp)
    cases l with
    | nil=>simp only[RG.jn,List.length_cons,List.length_nil];omega
    | cons y l =>
      have h1:=jn_len hs (y::l)
      rw[RG.jn]
      simp only[List.length_append,List.length_cons] at h1 ⊢
      omega
theorem wrRel_pos (x:RG.Rl):0<(RG.wrRel x).length:=by unfold RG.wrRel;simp
theorem wrAll_pos {a:List RG.Rl} (h:a≠[]):0<(RG.wrAll a).length:=by
  cases a with
  | nil=>exact absurd rfl h
  | cons x l =>
    have:=wrRel_pos x
    have h2:=jn_mem (sep:=[32,97,110,100,32]) (xs:=(x::l).map RG.wrRel) (x:=RG.wrRel x) (by simp)
    unfold RG.wrAll
    omega
theorem or_str {L:List (List RelT)} {c:Int} {X:List (List RelT)} {w r:ByteArray} {tot:List (List UInt8)}:∀(zs:List (List RG.Rl)) (i:Nat) (acc:List (List UInt8)),L.drop i=zs.map (fun a=>a.map toL)→(∀a∈zs,RG.WfA a∧(RG.wrAll a).length≤1000000)→L.length≤1000000→acc.length+zs.length≤1000000→acc++zs.map RG.wrAll=tot →
    Ev (fun k=>rule_Rule_String.l0 k (tot.map S) L (L.length:Int) (L.length:Int) c X w) r →
    Ev (fun k=>rule_Rule_String.l0 k (acc.map S) L (L.length:Int) (i:Int) c X w) r
  | [],i,acc,hd,hw,hL,ha,ht,hk=>by
    have hle:=drop_nil_le hd
    rw[List.map_nil,List.append_nil] at ht
    rw[ht]
    obtain⟨K,hK⟩:=hk
    refine Ev.step (fun k=>rule_Rule_String.l0.eq_2 ..) (Ev.if_neg (by omega) ?_)
    refine⟨K,fun k hkk=>?_⟩
    have:rule_Rule_String.l0 (k+1) (tot.map S) L (L.length:Int) (L.length:Int) c X w=some r:=hK (k+1) (by omega)
    rw[rule_Rule_String.l0.eq_2,_root_.if_neg (by omega)] at this
    exact this
  | z::zs,i,acc,hd,hw,hL,ha,ht,hk=>by
    rw[List.map_cons] at hd
    rw[List.length_cons] at ha
    obtain⟨_,hi,hd2⟩:=getD_drop (z.map toL) hd
    have c1:(i:Int)<(L.length:Int):=by omega
    have c2:(0:Int)≤(i:Int):=by omega
    have hwi:=w_succ (i:=i) (by omega)
    obtain⟨w1,w2⟩:=hw z (by simp)
    have hz:z.length≤1000000:=by
      have:=len_le_jn (sep:=[32,97,110,100,32]) (by decide) (xs:=z.map RG.wrRel) (fun x hx=>by obtain⟨y,_,rfl⟩:=List.mem_map.1 hx;exact wrRel_pos y)
      rw[List.length_map] at this
      exact Nat.le_trans this w2
    have ih:=or_str (L:=L) (tot:=tot) zs (i+1) (acc++[RG.wrAll z]) hd2 (fun x hx=>hw x (by simp[hx])) hL (by rw[List.length_append,List.length_singleton];omega) (by rw[← ht];simp) hk
    rw[List.map_append,List.map_cons,List.map_nil, ← hwi] at ih
    have h2:=and_str (x11:=L) (x12:=(L.length:Int)) (x3:=acc.map S) (L:=z.map toL) (tot:=RG.wrAll z) (by rw[List.length_map];omega) z 0 [] rfl (fun x hx=>⟨w1.2 x hx,Nat.le_trans (jn_mem (sep:=[32,97,110,100,32]) (List.mem_map_of_mem hx)) w2⟩) (by rw[List.length_map];omega) (by simp;omega) rfl w2 ih
    refine Ev.step (fun k=>rule_Rule_String.l0.eq_2 ..) (Ev.if_pos c1 (Ev.if_pos c2 (Ev.if_pos c1 ?_)))
    rw[rdLL hd]
    exact h2
theorem rule_str {x:RG.Ru} (h:RG.WfU x) (hl:(RG.wrRule x).length≤1000000):Ev (fun k=>rule_Rule_String.f k (toU x).f0 (toU x).f1 (toU x).f2) (S (RG.wrRule x)):=by
  obtain⟨c,any,p⟩:=x
  obtain⟨h1,h2,h3⟩:=h
  dsimp only at h1 h2 h3
  unfold RG.wrRule at hl ⊢
  dsimp only at hl ⊢
  have hA:∀a∈any,RG.WfA a:=by
    rcases h2 with ⟨_,h2⟩|⟨_,_,h2⟩
    · rw[h2];simp
    · exact h2
  generalize hcw:RG.cats.getD c []=cw at hl ⊢
  simp only[List.length_append,List.length_cons] at hl
  have hp:p=[]∨(if p=[] then [] else 32::p)=32::p:=by
    by_cases e:p=[]
    · exact .inl e
    · exact .inr (_root_.if_neg e)
  have hpl:p.length≤1000000:=by
    rcases hp with e|e
    · rw[e];simp
    · rw[e,List.length_cons] at hl;omega
  have hal:any≠[]→(RG.wrAny any).length≤1000000:=by
    intro e
    rw[_root_.if_neg e,List.length_cons] at hl
    omega
  have hlen:any.length≤1000000:=by
    by_cases e:any=[]
    · rw[e];simp
    · have:=len_le_jn (sep:=[32,111,114,32]) (by decide) (xs:=any.map RG.wrAll) (fun x hx=>by obtain⟨y,hy,rfl⟩:=List.mem_map.1 hx;exact wrAll_pos (hA y hy).1)
      rw[List.length_map] at this
      exact Nat.le_trans this (hal e)
  have hcw2:cw.length≤1000000:=by omega
  unfold rule_Rule_String.f
  refine or_str (L:=(toU ⟨c,any,p⟩).f1) (tot:=any.map RG.wrAll) any 0 [] rfl (fun a ha=>⟨hA a ha,Nat.le_trans (jn_mem (sep:=[32,111,114,32]) (List.mem_map_of_mem ha)) (hal (fun e=>by rw[e] at ha;cases ha))⟩) (by show(any.map _).length≤_;rw[List.length_map];exact hlen) (by simpa using hlen) (by simp) ?_
  refine Ev.step (fun k=>rule_Rule_String.l0.eq_2 ..) (Ev.if_neg (by omega) (Ev.const (cat_str h1) ?_))
  rw[hcw,show(⟨#[58]⟩:ByteArray)=S [58] from rfl,show(⟨#[32]⟩:ByteArray)=S [32] from rfl,show(⟨#[32,111,114,32]⟩:ByteArray)=S [32,111,114,32] from rfl,show(toU ⟨c,any,p⟩).f2=S p from rfl]
  have hfin:∀s:List UInt8,s.length≤4000000→(S p).toList=p→Ev (fun k=>if (S p).toList=([]:List UInt8) then some (S s) else (if 1+(S p).size≤9223372036854775807 then (if (S s).size+(S [32]++S p).size≤9223372036854775807 then some (S s++(S [32]++S p)) else none) else none)) (S (s++(if p=[] then [] else 32::p))):=by
    intro s hs e
    rw[e]
    simp only[S_append,S_size]
    by_cases e2:p=[]
    · have e9:(if p=[] then [] else 32::p)=([]:List UInt8):=_root_.if_pos e2
      rw[e9,List.append_nil]
      exact Ev.if_pos e2 (Ev.now _)
    · have e9:(if p=[] then [] else 32::p)=32::p:=_root_.if_neg e2
      rw[e9]
      exact Ev.if_neg e2 (Ev.if_pos (by omega) (Ev.if_pos (by simp only[List.length_append,List.length_cons,List.length_nil];omega) (Ev.now _)))
  by_cases e:any=[]
  · rw[_root_.if_pos e,List.nil_append]
    have:=hfin (cw++[58]) (by simp only[List.length_append,List.length_cons,List.length_nil];omega) (S_toList p)
    rw[← S_append] at this
    have e4:cw++(58::(if p=[] then [] else 32::p))=(cw++[58])++(if p=[] then [] else 32::p):=by simp
    rw[e4]
    refine Ev.if_pos (by rw[S_size];omega) (Ev.if_neg (by rw[e];simp) this)
  · rw[_root_.if_neg e]
    have h0:0<any.length:=List.length_pos_iff.2 e
    have hj:=join_ev [32,111,114,32] (any.map RG.wrAll) (by rw[List.length_map];exact hlen) (Nat.le_trans (hal e) (by decide))
    have hal':=hal e
    have e5:RG.jn [32,111,114,32] (any.map RG.wrAll)=RG.wrAny any:=rfl
    rw[e5] at hj
    have:=hfin ((cw++[58])++([32]++RG.wrAny any)) (by simp only[List.length_append,List.length_cons,List.length_nil];omega) (S_toList p)
    have e4:cw++(58::((32::RG.wrAny any)++(if p=[] then [] else 32::p)))=((cw++[58])++([32]++RG.wrAny any))++(if p=[] then [] else 32::p):=by simp
    rw[e4]
    rw[← S_append, ← S_append, ← S_append] at this
    refine Ev.if_pos (by rw[S_size];omega) (Ev.if_pos (by simp;omega) (Ev.const hj (Ev.if_pos (by rw[S_size];omega) (Ev.if_pos ?_ this))))
    rw[S_append,S_append,S_size,S_size]
    simp only[List.length_append,List.length_cons,List.length_nil]
    omega
theorem rules_str {tot:List UInt8} (L:List RuleT):∀(zs:List RG.Ru) (i:Nat) (acc:List (List UInt8)),L.drop i=zs.map toU→(∀x∈zs,RG.WfU x∧(RG.wrRule x).length≤1000000)→L.length≤1000000→acc.length+zs.length≤1000000→RG.jn [59,32] (acc++zs.map RG.wrRule)=tot→tot.length≤1000000 →
    Ev (fun k=>rule_Rules_String.l0 k (acc.map S) L (L.length:Int) (i:Int)) (S tot)
  | [],i,acc,hd,hw,hL,ha,ht,hl=>by
    have hle:=drop_nil_le hd
    rw[List.map_nil,List.append_nil] at ht
    have hj:=join_ev [59,32] acc (by omega) (by rw[ht];omega)
    rw[ht] at hj
    exact Ev.step (fun k=>rule_Rules_String.l0.eq_2 ..) (Ev.if_neg (by omega) (Ev.const hj (Ev.now _)))
  | z::zs,i,acc,hd,hw,hL,ha,ht,hl=>by
    rw[List.map_cons] at hd
    rw[List.length_cons] at ha
    obtain⟨_,hi,hd2⟩:=getD_drop (toU z) hd
    have c1:(i:Int)<(L.length:Int):=by omega
    have c2:(0:Int)≤(i:Int):=by omega
    have c3:(acc.map S).length<8796093022208:=by rw[List.length_map];omega
    have hwi:=w_succ (i:=i) (by omega)
    obtain⟨w1,w2⟩:=hw z (by simp)
    have ih:=rules_str (tot:=tot) L zs (i+1) (acc++[RG.wrRule z]) hd2 (fun x hx=>hw x (by simp[hx])) hL (by rw[List.length_append,List.length_singleton];omega) (by rw[← ht];simp) hl
    refine Ev.step (fun k=>rule_Rules_String.l0.eq_2 ..) (Ev.if_pos c1 (Ev.if_pos c2 (Ev.if_pos c1 ?_)))
    rw[rdU hd,hwi]
    rw[List.map_append] at ih
    exact Ev.bind (rule_str w1 w2) (Ev.if_pos c3 ih)
theorem wrRule_pos (x:RG.Ru):0<(RG.wrRule x).length:=by unfold RG.wrRule;simp only[List.length_append,List.length_cons];omega
theorem wr_str {l:List RG.Ru} (h:∀x∈l,RG.WfU x) (hl:(RG.wr l).length≤1000000):Ev (fun k=>rule_Rules_String.f k (l.map toU)) (S (RG.wr l)):=by
  have hlen:=len_le_jn (sep:=[59,32]) (by decide) (xs:=l.map RG.wrRule) (fun x hx=>by obtain⟨y,_,rfl⟩:=List.mem_map.1 hx;exact wrRule_pos y)
  rw[List.length_map] at hlen
  have e:RG.jn [59,32] (l.map RG.wrRule)=RG.wr l:=rfl
  rw[e] at hlen
  unfold rule_Rules_String.f
  exact rules_str (l.map toU) l 0 [] rfl (fun x hx=>⟨h x hx,Nat.le_trans (jn_mem (sep:=[59,32]) (List.mem_map_of_mem hx)) hl⟩) (by rw[List.length_map];omega) (by simp;omega) rfl hl
end RR
end Go.Proofs.YtcokjmnkieakiaaDoor.P
namespace Go.Proofs.YtcokjmnkieakiaaDoor.P
open Go.RowKit Go.Proofs.YtcokjmnkieakiaaDoorW.PrintWords Go.Proofs.YtcokjmnkieakiaaDoorW.PrintLast Go.Proofs.YtcokjmnkieakiaaDoorW.PrintMore Go.Proofs.YtcokjmnkieakiaaDoor.FM
set_option linter.unusedVariables false
set_option linter.unusedSimpArgs false
/-! texts that are no rules: the fault, and where it is -/
namespace RR
def cd:RG.Er→Int
  | .form=>1
  | .long=>2
  | .arg=>3
  | .cat=>7
  | .many=>4
section
variable {l:List UInt8} {n:Int} {b0 b1 b2 b3 b4 b5:Bool}
theorem value_gj (x4 x5:Int) (b:Bool) (h:b=true∨9<x5):Ev (fun k=>rule_reader_value_g.j0 k x4 x5 b) (if b=true then 1 else 2,x4):=by
  refine Ev.step (fun k=>rule_reader_value_g.j0.eq_2 ..) ?_
  cases b with
  | true=>exact Ev.if_pos rfl (Ev.now _)
  | false=>exact Ev.if_neg (by decide) (Ev.if_pos (by rcases h with h|h;cases h;omega) (Ev.now _))
theorem value_err (hl:Le l) {t r:List UInt8} {e:RG.Er} (ht:t <:+ l) (h:RG.value t= .error (e,r)):r <:+ l∧Ev (fun k=>rule_reader_value_g.f k (S l) (ps l t) n b0 b1 b2 b3 b4 b5) (cd e,ps l r):=by
  have h2:=(sk_suf t).trans ht
  have hs:=tw_split RG.dig (RG.sk t)
  have h3:(RG.sk t).drop ((RG.sk t).takeWhile RG.dig).length <:+ l:=(List.drop_suffix _ _).trans h2
  have hw:wrap64 (ps l (RG.sk t)+(((RG.sk t).takeWhile RG.dig).length:Int))=ps l ((RG.sk t).drop ((RG.sk t).takeWhile RG.dig).length):=by
    rw[ps_app hs];exact w64 (by have:=ps_nn h3;omega) (by have:=ps_le l ((RG.sk t).drop ((RG.sk t).takeWhile RG.dig).length);omega)
  have hle:ps l (RG.sk t)≤ps l ((RG.sk t).drop ((RG.sk t).takeWhile RG.dig).length):=by
    have:=List.length_drop (i:=((RG.sk t).takeWhile RG.dig).length) (l:=RG.sk t)
    unfold ps;omega
  unfold RG.value at h
  dsimp only at h
  have key:r=RG.sk t∧((e= .form∧((RG.sk t).takeWhile RG.dig=[]∨(1<((RG.sk t).takeWhile RG.dig).length∧((RG.sk t).takeWhile RG.dig).head? = some 48)))∨(e= .long∧¬((RG.sk t).takeWhile RG.dig=[]∨(1<((RG.sk t).takeWhile RG.dig).length∧((RG.sk t).takeWhile RG.dig).head? = some 48))∧9<((RG.sk t).takeWhile RG.dig).length)):=by
    split at h
    · rename_i c1
      injection h with h
      injection h with e1 e2
      exact⟨e2.symm,.inl ⟨e1.symm,c1⟩⟩
    · rename_i c1
      split at h
      · rename_i c2
        injection h with h
        injection h with e1 e2
        exact⟨e2.symm,.inr ⟨e1.symm,c1,c2⟩⟩
      · cases h
  clear h
  obtain⟨rfl,hk⟩:=key
  refine⟨h2,?_⟩
  unfold rule_reader_value_g.f
  refine Ev.bind (blanks_ev hl t ht) (Ev.bind (dig_run hl h2) ?_)
  dsimp only
  rw[hw,S_size,ext_pre h2 hs]
  refine Ev.if_pos (ps_nn h2) (Ev.if_pos hle (Ev.if_pos (ps_le _ _) ?_))
  generalize (RG.sk t).takeWhile RG.dig=d at hk ⊢
  by_cases h0:d=[]
  · subst h0
    rcases hk with ⟨rfl,_⟩|⟨_,hn,_⟩
    · refine Ev.if_pos rfl ?_
      exact value_gj _ _ true (.inl rfl)
    · exact absurd (.inl rfl) hn
  · have hd0:0<d.length:=List.length_pos_iff.2 h0
    refine Ev.if_neg (by omega) ?_
    have hh:∀(h1:1<d.length),(bt (S d) 0==48)=decide (d.head? = some 48):=by
      intro h1
      cases d with
      | nil=>exact absurd rfl h0
      | cons c u =>
        rw[bt_S]
        show((c.toNat:Int)==48)=decide (some c=some 48)
        by_cases hc:c=48
        · subst hc;rfl
        · rw[decide_eq_false (fun e=>hc (Option.some.inj e))]
          rw[beq_eq_false_iff_ne]
          intro e
          apply hc
          apply UInt8.toNat_inj.1
          show c.toNat=48
          omega
    rcases hk with ⟨rfl,hk⟩|⟨rfl,hk,h9⟩
    · rcases hk with hk|⟨h1,hk⟩
      · exact absurd hk h0
      · refine Ev.if_pos (by omega) (Ev.if_pos (by rw[S_size];omega) ?_)
        rw[hh h1,decide_eq_true hk]
        exact value_gj _ _ true (.inl rfl)
    · have h1:1<d.length:=by omega
      refine Ev.if_pos (by omega) (Ev.if_pos (by rw[S_size];omega) ?_)
      rw[hh h1,decide_eq_false (fun e=>hk (.inr ⟨h1,e⟩))]
      exact value_gj _ _ false (.inr (by omega))
theorem span_err (hl:Le l) {t r:List UInt8} {e:RG.Er} (ht:t <:+ l) (h:RG.span t= .error (e,r)):r <:+ l∧Ev (fun k=>rule_reader_span_g.f k (S l) (ps l t) n b0 b1 b2 b3 b4 b5) (cd e,ps l r):=by
  unfold RG.span at h
  unfold rule_reader_span_g.f
  split at h
  · rename_i e1
    injection h with h
    rw[h] at e1
    obtain⟨a1,a2⟩:=value_err (n:=n) (b0:=b0) (b1:=b1) (b2:=b2) (b3:=b3) (b4:=b4) (b5:=b5) hl ht e1
    exact⟨a1,Ev.orfL a2 (Ev.now _)⟩
  rename_i lo v e1
  obtain⟨a1,a2⟩:=value_ok (n:=n) (b0:=b0) (b1:=b1) (b2:=b2) (b3:=b3) (b4:=b4) (b5:=b5) hl ht e1
  split at h
  · cases h
  · rename_i v2 e2
    have hv2:=(tk_suf e2).trans a1
    split at h
    · rename_i e3
      injection h with h
      rw[h] at e3
      obtain⟨d1,d2⟩:=value_err (n:=n) (b0:=b0) (b1:=b1) (b2:=b2) (b3:=b3) (b4:=b4) (b5:=b5) hl hv2 e3
      exact⟨d1,Ev.orfR a2 (fun k=>value_ex k _ _ _ _ _ _ _ _ _) (Ev.bind (take_yes hl a1 e2) (Ev.if_pos rfl (Ev.orfL d2 (Ev.now _))))⟩
    rename_i hi y e3
    obtain⟨d1,d2⟩:=value_ok (n:=n) (b0:=b0) (b1:=b1) (b2:=b2) (b3:=b3) (b4:=b4) (b5:=b5) hl hv2 e3
    split at h
    · rename_i c3
      injection h with h
      injection h with g1 g2
      subst g1 g2
      exact⟨(sk_suf v2).trans hv2,Ev.orfR a2 (fun k=>value_ex k _ _ _ _ _ _ _ _ _) (Ev.bind (take_yes hl a1 e2) (Ev.if_pos rfl (Ev.orfR d2 (fun k=>value_ex k _ _ _ _ _ _ _ _ _) (Ev.if_pos (by dsimp only;omega) (Ev.now _)))))⟩
    · cases h
theorem spans_err (hl:Le l) (o md:Int) (nt:Bool):∀(m:Nat) {u r:List UInt8} {e:RG.Er} {acc:List (Nat × Nat)},(match RG.tk [44] u with|none=> .ok (acc,RG.sk u)|some v=>RG.spans m v acc:Except (RG.Er × List UInt8) (List (Nat × Nat) × List UInt8))= .error (e,r)→u <:+ l→acc.length+m≤30000→u.length≤m →
    r <:+ l∧Ev (fun k=>rule_reader_rel_g.l0 k (S l) (ps l u) n b0 b1 b2 b3 b4 b5 o md nt (acc.map toG)) (cd e,ps l r)
  | m,u,r,e,acc,h,hu,hm,hf=>by
    split at h
    · cases h
    · rename_i v e1
      have hlen:=RG.tk_len e1
      rw[List.length_singleton] at hlen
      cases m with
      | zero=>omega
      | succ m =>
        have hv:=(tk_suf e1).trans hu
        rw[RG.spans] at h
        split at h
        · rename_i e2
          injection h with h
          rw[h] at e2
          obtain⟨a1,a2⟩:=span_err (n:=n) (b0:=b0) (b1:=b1) (b2:=b2) (b3:=b3) (b4:=b4) (b5:=b5) hl hv e2
          exact⟨a1,Ev.step (fun k=>rule_reader_rel_g.l0.eq_2 ..) (Ev.bind (take_yes hl hu e1) (Ev.if_pos rfl (Ev.orfL a2 (Ev.now _))))⟩
        rename_i x y e2
        obtain⟨a1,a2⟩:=span_ok (n:=n) (b0:=b0) (b1:=b1) (b2:=b2) (b3:=b3) (b4:=b4) (b5:=b5) hl hv e2
        have hg:=(RG.span_good e2).2
        obtain⟨c1,c2⟩:=spans_err hl o md nt m h a1 (by rw[List.length_append,List.length_singleton];omega) (by omega)
        refine⟨c1,Ev.step (fun k=>rule_reader_rel_g.l0.eq_2 ..) (Ev.bind (take_yes hl hu e1) (Ev.if_pos rfl (Ev.orfR a2 (fun k=>span_ex k _ _ _ _ _ _ _ _ _) (Ev.if_pos ?_ ?_))))⟩
        · rw[List.length_map];omega
        · rw[List.map_append] at c2
          exact c2
theorem j2_err (hl:Le l) (o md:Int) (nt:Bool) {y r:List UInt8} {e:RG.Er} (hy:y <:+ l) (h:RG.spans (y.length+1) y []= .error (e,r)):r <:+ l∧Ev (fun k=>rule_reader_rel_g.j2 k (S l) (ps l y) n b0 b1 b2 b3 b4 b5 o md nt) (cd e,ps l r):=by
  rw[RG.spans] at h
  split at h
  · rename_i e2
    injection h with h
    rw[h] at e2
    obtain⟨a1,a2⟩:=span_err (n:=n) (b0:=b0) (b1:=b1) (b2:=b2) (b3:=b3) (b4:=b4) (b5:=b5) hl hy e2
    exact⟨a1,Ev.step (fun k=>rule_reader_rel_g.j2.eq_2 ..) (Ev.orfL a2 (Ev.now _))⟩
  rename_i x u e2
  obtain⟨a1,a2⟩:=span_ok (n:=n) (b0:=b0) (b1:=b1) (b2:=b2) (b3:=b3) (b4:=b4) (b5:=b5) hl hy e2
  have hg:=(RG.span_good e2).2
  obtain⟨c1,c2⟩:=spans_err (n:=n) (b0:=b0) (b1:=b1) (b2:=b2) (b3:=b3) (b4:=b4) (b5:=b5) hl o md nt _ h a1 (by have:=hy.length_le;simp;omega) (by omega)
  exact⟨c1,Ev.step (fun k=>rule_reader_rel_g.j2.eq_2 ..) (Ev.orfR a2 (fun k=>span_ex k _ _ _ _ _ _ _ _ _) (Ev.if_pos (by decide) c2))⟩
theorem j1_err (hl:Le l) (o md:Int) {x r:List UInt8} {e:RG.Er} (hx:x <:+ l) (h:(match RG.sgn x with
      | .error e=> .error e
      | .ok (b,y)=>match RG.spans (y.length+1) y [] with
        | .error e=> .error e
        | .ok (rs,z)=> .ok (b,rs,z):Except (RG.Er × List UInt8) (Bool × List (Nat × Nat) × List UInt8))= .error (e,r)):r <:+ l∧Ev (fun k=>rule_reader_rel_g.j1 k (S l) (ps l x) n b0 b1 b2 b3 b4 b5 o md false) (cd e,ps l r):=by
  have hsx:=(sk_suf x).trans hx
  cases e1:RG.tk [33,61] x with
  | some y =>
    have hg:RG.sgn x= .ok (true,y):=by unfold RG.sgn;rw[e1]
    rw[hg] at h
    dsimp only at h
    split at h
    · rename_i e2
      injection h with h
      rw[h] at e2
      obtain⟨a1,a2⟩:=j2_err (n:=n) (b0:=b0) (b1:=b1) (b2:=b2) (b3:=b3) (b4:=b4) (b5:=b5) hl o md true ((tk_suf e1).trans hx) e2
      exact⟨a1,Ev.step (fun k=>rule_reader_rel_g.j1.eq_2 ..) (Ev.bind (take_yes hl hx e1) (Ev.if_pos rfl a2))⟩
    · cases h
  | none =>
    cases e2:RG.tk [61] x with
    | some y =>
      have hg:RG.sgn x= .ok (false,y):=by unfold RG.sgn;rw[e1,e2]
      have e3:RG.tk [61] (RG.sk x)=some y:=by rw[← e2];exact RG.tk_congr (RG.sk_sk x)
      rw[hg] at h
      dsimp only at h
      split at h
      · rename_i e4
        injection h with h
        rw[h] at e4
        obtain⟨a1,a2⟩:=j2_err (n:=n) (b0:=b0) (b1:=b1) (b2:=b2) (b3:=b3) (b4:=b4) (b5:=b5) hl o md false ((tk_suf e2).trans hx) e4
        exact⟨a1,Ev.step (fun k=>rule_reader_rel_g.j1.eq_2 ..) (Ev.bind (take_no hl hx e1) (Ev.if_neg (by simp) (Ev.orfR (want_ev hl hsx e3) (fun k=>want_ex k _ _ _ _ _ _ _ _ _ _) a2)))⟩
      · cases h
    | none =>
      have hg:RG.sgn x= .error (.form,RG.sk x):=by unfold RG.sgn;rw[e1,e2]
      have e3:RG.tk [61] (RG.sk x)=none:=by rw[← e2];exact RG.tk_congr (RG.sk_sk x)
      rw[hg] at h
      dsimp only at h
      injection h with h
      injection h with g1 g2
      subst g1 g2
      refine⟨hsx,Ev.step (fun k=>rule_reader_rel_g.j1.eq_2 ..) (Ev.bind (take_no hl hx e1) (Ev.if_neg (by simp) (Ev.orfL (v:=(1,ps l (RG.sk x))) ?_ (Ev.now _))))⟩
      unfold rule_reader_want_g.f
      have:=take_no (n:=n) (b0:=b0) (b1:=b1) (b2:=b2) (b3:=b3) (b4:=b4) (b5:=b5) hl hsx e3
      rw[RG.sk_sk] at this
      exact Ev.bind this (Ev.if_neg (by simp) (Ev.now _))
theorem rel_err (hl:Le l) {m:Nat} {t r:List UInt8} {e:RG.Er} (ht:t <:+ l) (hm:m≤200) (h:RG.rel m t= .error (e,r)):r <:+ l∧Ev (fun k=>rule_reader_rel_g.f k (S l) (ps l t) (m:Int) b0 b1 b2 b3 b4 b5) (cd e,ps l r):=by
  have h2:=(sk_suf t).trans ht
  unfold rule_reader_rel_g.f
  have hform:∀w:ByteArray,Ev (fun k=>rule_reader_rel_g.j0 k w true (S l) (ps l (RG.sk t)) (m:Int) b0 b1 b2 b3 b4 b5) (1,ps l (RG.sk t)):=fun w=>Ev.step (fun k=>rule_reader_rel_g.j0.eq_2 ..) (Ev.if_pos rfl (Ev.now _))
  unfold RG.rel at h
  split at h
  case h_2 hw =>
    injection h with h
    injection h with g1 g2
    subst g1 g2
    refine⟨h2,Ev.bind (word_ev hl ht) (Ev.if_neg ?_ (hform _))⟩
    rw[S_size]
    intro e1
    have e1':(RG.word t).length=1:=by omega
    obtain⟨c,hc⟩:=List.length_eq_one_iff.1 e1'
    exact hw c hc
  rename_i c hw
  have hfirst:∀ {v:Int × Int},Ev (fun k=>rule_reader_rel_g.j0 k (S [c]) (!decide (c∈RG.ops)) (S l) (ps l (RG.sk t)) (m:Int) b0 b1 b2 b3 b4 b5) v→Ev (fun k=>(rule_reader_word.f k (S l) (ps l t) (m:Int) b0 b1 b2 b3 b4 b5).bind fun bt386=>if (bt386.1.size:Int)=1 then ((strings_Contains.f (⟨#[110,105,118,119,102,116,99,101]⟩:ByteArray) bt386.1).bind fun t396=>(rule_reader_rel_g.j0 k bt386.1 (!t396) bt386.2.1 bt386.2.2.1 bt386.2.2.2.1 bt386.2.2.2.2.1 bt386.2.2.2.2.2.1 bt386.2.2.2.2.2.2.1 bt386.2.2.2.2.2.2.2.1 bt386.2.2.2.2.2.2.2.2.1 bt386.2.2.2.2.2.2.2.2.2)) else (rule_reader_rel_g.j0 k bt386.1 true bt386.2.1 bt386.2.2.1 bt386.2.2.2.1 bt386.2.2.2.2.1 bt386.2.2.2.2.2.1 bt386.2.2.2.2.2.2.1 bt386.2.2.2.2.2.2.2.1 bt386.2.2.2.2.2.2.2.2.1 bt386.2.2.2.2.2.2.2.2.2)) v:=by
    intro v hv
    refine Ev.bind (word_ev hl ht) ?_
    rw[hw]
    exact Ev.if_pos (by rw[S_size];rfl) (Ev.const (contains_ev c) hv)
  split at h
  case isFalse ho =>
    injection h with h
    injection h with g1 g2
    subst g1 g2
    refine⟨h2,hfirst ?_⟩
    rw[decide_eq_false ho]
    exact hform _
  rename_i ho
  have hn:wrap64 ((m:Int)+1)=((m+1:Nat):Int):=by rw[w64 (by omega) (by omega)];omega
  rw[decide_eq_true ho] at hfirst
  split at h
  · rename_i hm2
    injection h with h
    injection h with g1 g2
    subst g1 g2
    refine⟨h2,hfirst (Ev.step (fun k=>rule_reader_rel_g.j0.eq_2 ..) (Ev.if_neg (by decide) ?_))⟩
    rw[hn]
    exact Ev.if_pos (by omega) (Ev.now _)
  rename_i hm2
  obtain⟨q,hr⟩:∃r,RG.sk t=c::r:=by
    have hs:=tw_split RG.low (RG.sk t)
    have hw':(RG.sk t).takeWhile RG.low=[c]:=hw
    rw[hw'] at hs
    exact⟨_,hs⟩
  rw[hr] at h
  have h3:q <:+ l:=by rw[hr] at h2;exact suf_tail h2
  have hp:wrap64 (ps l (RG.sk t)+1)=ps l q:=by
    rw[hr,ps_tail];exact w64 (by have:=ps_nn h3;omega) (by have:=ps_le l q;omega)
  change RG.relB c q=_ at h
  have hbt:bt (S [c]) 0=(c.toNat:Int):=by rw[bt_S];rfl
  have hj0:∀ {v:Int × Int},Ev (fun k=>(rule_reader_take.f k (S l) (ps l q) ((m+1:Nat):Int) b0 b1 b2 b3 b4 b5 (⟨#[37]⟩:ByteArray)).bind fun bt402=>(if bt402.1=true then (orf_ ((rule_reader_value_g.f k bt402.2.1 bt402.2.2.1 bt402.2.2.2.1 bt402.2.2.2.2.1 bt402.2.2.2.2.2.1 bt402.2.2.2.2.2.2.1 bt402.2.2.2.2.2.2.2.1 bt402.2.2.2.2.2.2.2.2.1 bt402.2.2.2.2.2.2.2.2.2).bind fun bt425=>(some (bt425.1,bt425.2))) ((rule_reader_value.f k bt402.2.1 bt402.2.2.1 bt402.2.2.2.1 bt402.2.2.2.2.1 bt402.2.2.2.2.2.1 bt402.2.2.2.2.2.2.1 bt402.2.2.2.2.2.2.2.1 bt402.2.2.2.2.2.2.2.2.1 bt402.2.2.2.2.2.2.2.2.2).bind fun bt412=>(if bt412.1=0 then ((rule_fail_g.f 3 bt412.2.1).bind fun bt423=>(some (bt423.1,bt423.2))) else (rule_reader_rel_g.j1 k bt412.2.2.1 bt412.2.2.2.1 bt412.2.2.2.2.1 bt412.2.2.2.2.2.1 bt412.2.2.2.2.2.2.1 bt412.2.2.2.2.2.2.2.1 bt412.2.2.2.2.2.2.2.2.1 bt412.2.2.2.2.2.2.2.2.2.1 bt412.2.2.2.2.2.2.2.2.2.2 (c.toNat:Int) bt412.1 false)))) else (rule_reader_rel_g.j1 k bt402.2.1 bt402.2.2.1 bt402.2.2.2.1 bt402.2.2.2.2.1 bt402.2.2.2.2.2.1 bt402.2.2.2.2.2.2.1 bt402.2.2.2.2.2.2.2.1 bt402.2.2.2.2.2.2.2.2.1 bt402.2.2.2.2.2.2.2.2.2 (c.toNat:Int) 0 false))) v→Ev (fun k=>rule_reader_rel_g.j0 k (S [c]) (!true) (S l) (ps l (RG.sk t)) (m:Int) b0 b1 b2 b3 b4 b5) v:=by
    intro v hv
    refine Ev.step (fun k=>rule_reader_rel_g.j0.eq_2 ..) (Ev.if_neg (by decide) ?_)
    rw[hn,hp,hbt,S_size]
    exact Ev.if_neg (by omega) (Ev.if_pos (by simp) hv)
  have hB:RG.relB c q=(match RG.modq q with
    | .error e=> .error e
    | .ok (md,x)=>match (match RG.sgn x with
      | .error e=> .error e
      | .ok (b,y)=>match RG.spans (y.length+1) y [] with
        | .error e=> .error e
        | .ok (rs,z)=> .ok (b,rs,z):Except (RG.Er × List UInt8) (Bool × List (Nat × Nat) × List UInt8)) with
      | .error e=> .error e
      | .ok (b,rs,z)=> .ok (⟨c,md,b,rs⟩,z)):=by
    unfold RG.relB
    cases RG.modq q with
    | error e=>rfl
    | ok p =>
      obtain⟨md,x⟩:=p
      dsimp only
      cases RG.sgn x with
      | error e=>rfl
      | ok p =>
        obtain⟨b,y⟩:=p
        dsimp only
        cases RG.spans (y.length+1) y [] with
        | error e=>rfl
        | ok p=>rfl
  rw[hB] at h
  unfold RG.modq at h
  cases f1:RG.tk [37] q with
  | none =>
    rw[f1] at h
    dsimp only at h
    split at h
    · rename_i e3
      injection h with h
      rw[h] at e3
      have hsq:=(sk_suf q).trans h3
      obtain⟨a1,a2⟩:=j1_err (n:=((m+1:Nat):Int)) (b0:=b0) (b1:=b1) (b2:=b2) (b3:=b3) (b4:=b4) (b5:=b5) hl (c.toNat:Int) 0 hsq e3
      exact⟨a1,hfirst (hj0 (Ev.bind (take_no hl h3 f1) (Ev.if_neg (by simp) a2)))⟩
    · cases h
  | some v =>
    rw[f1] at h
    dsimp only at h
    have hv:=(tk_suf f1).trans h3
    cases f2:RG.value v with
    | error e' =>
      rw[f2] at h
      dsimp only at h
      injection h with h
      subst h
      obtain⟨d1,d2⟩:=value_err (n:=((m+1:Nat):Int)) (b0:=b0) (b1:=b1) (b2:=b2) (b3:=b3) (b4:=b4) (b5:=b5) hl hv f2
      exact⟨d1,hfirst (hj0 (Ev.bind (take_yes hl h3 f1) (Ev.if_pos rfl (Ev.orfL d2 (Ev.now _)))))⟩
    | ok p =>
      obtain⟨mv,x2⟩:=p
      rw[f2] at h
      dsimp only at h
      obtain⟨d1,d2⟩:=value_ok (n:=((m+1:Nat):Int)) (b0:=b0) (b1:=b1) (b2:=b2) (b3:=b3) (b4:=b4) (b5:=b5) hl hv f2
      by_cases f3:mv=0
      · rw[_root_.if_pos f3] at h
        dsimp only at h
        injection h with h
        injection h with g1 g2
        subst g1 g2
        exact⟨(sk_suf v).trans hv,hfirst (hj0 (Ev.bind (take_yes hl h3 f1) (Ev.if_pos rfl (Ev.orfR d2 (fun k=>value_ex k _ _ _ _ _ _ _ _ _) (Ev.if_pos (by dsimp only;omega) (Ev.now _))))))⟩
      · rw[_root_.if_neg f3] at h
        dsimp only at h
        split at h
        · rename_i e3
          injection h with h
          rw[h] at e3
          obtain⟨a1,a2⟩:=j1_err (n:=((m+1:Nat):Int)) (b0:=b0) (b1:=b1) (b2:=b2) (b3:=b3) (b4:=b4) (b5:=b5) hl (c.toNat:Int) (mv:Int) d1 e3
          exact⟨a1,hfirst (hj0 (Ev.bind (take_yes hl h3 f1) (Ev.if_pos rfl (Ev.orfR d2 (fun k=>value_ex k _ _ _ _ _ _ _ _ _) (Ev.if_neg (by dsimp only;omega) a2)))))⟩
        · cases h
end
end RR
end Go.Proofs.YtcokjmnkieakiaaDoor.P
namespace Go.Proofs.YtcokjmnkieakiaaDoor.P
open Go.RowKit Go.Proofs.YtcokjmnkieakiaaDoorW.PrintWords Go.Proofs.YtcokjmnkieakiaaDoorW.PrintLast Go.Proofs.YtcokjmnkieakiaaDoorW.PrintMore Go.Proofs.YtcokjmnkieakiaaDoor.FM
set_option linter.unusedVariables false
set_option linter.unusedSimpArgs false
namespace RR
section
variable {l:List UInt8} {b0 b1 b2 b3 b4 b5:Bool}
theorem all_tail_err (hl:Le l):∀(k:Nat) {m:Nat} {u r:List UInt8} {e:RG.Er} {acc:List RG.Rl},(match RG.next [97,110,100] u with|none=> .ok (acc,RG.sk u)|some v=>RG.alls k m v acc:Except (RG.Er × List UInt8) (List RG.Rl × List UInt8))= .error (e,r)→u <:+ l→acc.length+k≤30000→u.length≤k→m≤200 →
    r <:+ l∧Ev (fun q=>rule_reader_all_g.l0 q (acc.map toL) (S l) (ps l u) (m:Int) b0 b1 b2 b3 b4 b5) (cd e,ps l r)
  | k,m,u,r,e,acc,h,hu,hk,hf,hm=>by
    split at h
    · cases h
    · rename_i v e1
      have hlen:=RG.next_len e1
      simp only[List.length_cons,List.length_nil] at hlen
      cases k with
      | zero=>omega
      | succ k =>
        have hv:=(next_suf e1).trans hu
        rw[RG.alls] at h
        split at h
        · rename_i e2
          injection h with h
          rw[h] at e2
          obtain⟨a1,a2⟩:=rel_err (b0:=b0) (b1:=b1) (b2:=b2) (b3:=b3) (b4:=b4) (b5:=b5) hl hv hm e2
          exact⟨a1,Ev.step (fun k=>rule_reader_all_g.l0.eq_2 ..) (Ev.bind (next_yes hl hu e1) (Ev.if_pos rfl (Ev.orfL a2 (Ev.now _))))⟩
        rename_i x y e2
        obtain⟨a1,a0,a2⟩:=rel_ok (b0:=b0) (b1:=b1) (b2:=b2) (b3:=b3) (b4:=b4) (b5:=b5) hl hv e2
        have hg:=(RG.rel_good e2).2.2.2
        obtain⟨c1,c2⟩:=all_tail_err hl k h a1 (by rw[List.length_append,List.length_singleton];omega) (by omega) a0
        refine⟨c1,Ev.step (fun k=>rule_reader_all_g.l0.eq_2 ..) (Ev.bind (next_yes hl hu e1) (Ev.if_pos rfl (Ev.orfR a2 (fun k=>rel_ex k _ _ _ _ _ _ _ _ _) (Ev.if_pos ?_ ?_))))⟩
        · rw[List.length_map];omega
        · rw[List.map_append] at c2
          exact c2
theorem all_err (hl:Le l) {m:Nat} {t r:List UInt8} {e:RG.Er} (ht:t <:+ l) (hm:m≤200) (h:RG.alls (t.length+1) m t []= .error (e,r)):r <:+ l∧Ev (fun q=>rule_reader_all_g.f q (S l) (ps l t) (m:Int) b0 b1 b2 b3 b4 b5) (cd e,ps l r):=by
  rw[RG.alls] at h
  unfold rule_reader_all_g.f
  split at h
  · rename_i e2
    injection h with h
    rw[h] at e2
    obtain⟨a1,a2⟩:=rel_err (b0:=b0) (b1:=b1) (b2:=b2) (b3:=b3) (b4:=b4) (b5:=b5) hl ht hm e2
    exact⟨a1,Ev.orfL a2 (Ev.now _)⟩
  rename_i x y e2
  obtain⟨a1,a0,a2⟩:=rel_ok (b0:=b0) (b1:=b1) (b2:=b2) (b3:=b3) (b4:=b4) (b5:=b5) hl ht e2
  have hg:=(RG.rel_good e2).2.2.2
  obtain⟨c1,c2⟩:=all_tail_err (b0:=b0) (b1:=b1) (b2:=b2) (b3:=b3) (b4:=b4) (b5:=b5) hl _ h a1 (by have:=ht.length_le;simp;omega) (by omega) a0
  exact⟨c1,Ev.orfR a2 (fun k=>rel_ex k _ _ _ _ _ _ _ _ _) c2⟩
theorem any_tail_err (hl:Le l) (c:Int):∀(k:Nat) {m:Nat} {u r:List UInt8} {e:RG.Er} {acc:List (List RG.Rl)},(match RG.next [111,114] u with|none=> .ok (acc,RG.sk u)|some v=>RG.anys k m v acc:Except (RG.Er × List UInt8) (List (List RG.Rl) × List UInt8))= .error (e,r)→u <:+ l→acc.length+k≤30000→u.length≤k→m≤200 →
    r <:+ l∧Ev (fun q=>rule_reader_rule_g.l0 q (S l) (ps l u) (m:Int) b0 b1 b2 b3 b4 b5 c (acc.map (fun a=>a.map toL)) (⟨#[]⟩:ByteArray)) (cd e,ps l r)
  | k,m,u,r,e,acc,h,hu,hk,hf,hm=>by
    split at h
    · cases h
    · rename_i v e1
      have hlen:=RG.next_len e1
      simp only[List.length_cons,List.length_nil] at hlen
      cases k with
      | zero=>omega
      | succ k =>
        have hv:=(next_suf e1).trans hu
        rw[RG.anys] at h
        split at h
        · rename_i e2
          injection h with h
          rw[h] at e2
          obtain⟨a1,a2⟩:=all_err (b0:=b0) (b1:=b1) (b2:=b2) (b3:=b3) (b4:=b4) (b5:=b5) hl hv hm e2
          exact⟨a1,Ev.step (fun k=>rule_reader_rule_g.l0.eq_2 ..) (Ev.bind (next_yes hl hu e1) (Ev.if_pos rfl (Ev.orfL a2 (Ev.now _))))⟩
        rename_i x y e2
        obtain⟨a1,a2⟩:=all_ok (b0:=b0) (b1:=b1) (b2:=b2) (b3:=b3) (b4:=b4) (b5:=b5) hl hv e2
        obtain⟨xs,_,g1,_,g3,_,g5⟩:=RG.alls_good _ e2
        rw[List.nil_append] at g1
        subst g1
        obtain⟨c1,c2⟩:=any_tail_err hl c k h a1 (by rw[List.length_append,List.length_singleton];omega) (by omega) g3
        refine⟨c1,Ev.step (fun k=>rule_reader_rule_g.l0.eq_2 ..) (Ev.bind (next_yes hl hu e1) (Ev.if_pos rfl (Ev.orfR a2 (fun k=>all_ex k _ _ _ _ _ _ _ _ _) (Ev.if_pos ?_ ?_))))⟩
        · rw[List.length_map];omega
        · rw[List.map_append] at c2
          exact c2
theorem rule_err (hl:Le l) {m:Nat} {seen:List Nat} {t r:List UInt8} {e:RG.Er} (ht:t <:+ l) (hm:m≤200) (h:RG.rule m seen t= .error (e,r)) :
    r <:+ l∧Ev (fun k=>rule_reader_rule_g.f k (S l) (ps l t) (m:Int) (sn seen 0) (sn seen 1) (sn seen 2) (sn seen 3) (sn seen 4) (sn seen 5)) (cd e,ps l r):=by
  have h2:=(sk_suf t).trans ht
  have hs:RG.sk t=RG.word t++(RG.sk t).drop (RG.word t).length:=tw_split RG.low (RG.sk t)
  unfold RG.rule at h
  dsimp only at h
  have hcat:=catOf_ev (RG.word t)
  unfold rule_reader_rule_g.f
  split at h
  · rename_i e1
    rw[e1] at hcat
    injection h with h
    injection h with g1 g2
    subst g1 g2
    exact⟨h2,Ev.bind (word_ev hl ht) (Ev.bind hcat (Ev.if_neg (by decide) (Ev.now _)))⟩
  rename_i c e1
  rw[e1] at hcat
  dsimp only at hcat
  obtain⟨_,_,hc6⟩:=RG.cats_facts e1
  have hread:=rd6 _ _ _ _ _ _ (fun i=>sn seen i) rfl rfl rfl rfl rfl rfl hc6
  split at h
  · rename_i hse
    injection h with h
    injection h with g1 g2
    subst g1 g2
    refine⟨h2,Ev.bind (word_ev hl ht) (Ev.bind hcat (Ev.if_pos rfl (Ev.if_pos (by dsimp only;omega) (Ev.if_pos (by dsimp only;omega) (Ev.if_pos ?_ (Ev.now _))))))⟩
    dsimp only
    rw[hread];simpa using hse
  rename_i hns
  have h3:(RG.sk t).drop (RG.word t).length <:+ l:=(List.drop_suffix _ _).trans h2
  have hw:wrap64 (ps l (RG.sk t)+((RG.word t).length:Int))=ps l ((RG.sk t).drop (RG.word t).length):=by
    rw[ps_app hs];exact w64 (by have:=ps_nn h3;exact Int.le_trans (by decide) this) (by have:=ps_le l ((RG.sk t).drop (RG.word t).length);exact Int.le_trans this (by omega))
  have g0:=seen_put seen c 0
  have g1:=seen_put seen c 1
  have g2:=seen_put seen c 2
  have g3:=seen_put seen c 3
  have g4:=seen_put seen c 4
  have g5:=seen_put seen c 5
  have hgo:∀ {v:Int × Int},Ev (fun k=>orf_ ((rule_reader_want_g.f k (S l) (ps l ((RG.sk t).drop (RG.word t).length)) (m:Int) (sn (seen++[c]) 0) (sn (seen++[c]) 1) (sn (seen++[c]) 2) (sn (seen++[c]) 3) (sn (seen++[c]) 4) (sn (seen++[c]) 5) (⟨#[58]⟩:ByteArray)).bind fun bt713=>(some (bt713.1,bt713.2))) ((rule_reader_want.f k (S l) (ps l ((RG.sk t).drop (RG.word t).length)) (m:Int) (sn (seen++[c]) 0) (sn (seen++[c]) 1) (sn (seen++[c]) 2) (sn (seen++[c]) 3) (sn (seen++[c]) 4) (sn (seen++[c]) 5) (⟨#[58]⟩:ByteArray)).bind fun bt704=>(rule_reader_rule_g.j0 k (c:Int) bt704.1 bt704.2.1 bt704.2.2.1 bt704.2.2.2.1 bt704.2.2.2.2.1 bt704.2.2.2.2.2.1 bt704.2.2.2.2.2.2.1 bt704.2.2.2.2.2.2.2.1 bt704.2.2.2.2.2.2.2.2))) v→Ev (fun k=>(rule_reader_word.f k (S l) (ps l t) (m:Int) (sn seen 0) (sn seen 1) (sn seen 2) (sn seen 3) (sn seen 4) (sn seen 5)).bind fun bt688=>((rule_CatOf.f k bt688.1).bind fun bt698=>(if bt698.2=true then (if 0≤bt698.1 then (if bt698.1<6 then (if rdOf false [bt688.2.2.2.2.1,bt688.2.2.2.2.2.1,bt688.2.2.2.2.2.2.1,bt688.2.2.2.2.2.2.2.1,bt688.2.2.2.2.2.2.2.2.1,bt688.2.2.2.2.2.2.2.2.2] bt698.1=true then ((rule_fail_g.f 7 bt688.2.2.1).bind fun bt700=>(some (bt700.1,bt700.2))) else (orf_ ((rule_reader_want_g.f k bt688.2.1 (wrap64 (bt688.2.2.1+(bt688.1.size:Int))) bt688.2.2.2.1 (if bt698.1=0 then true else bt688.2.2.2.2.1) (if bt698.1=1 then true else bt688.2.2.2.2.2.1) (if bt698.1=2 then true else bt688.2.2.2.2.2.2.1) (if bt698.1=3 then true else bt688.2.2.2.2.2.2.2.1) (if bt698.1=4 then true else bt688.2.2.2.2.2.2.2.2.1) (if bt698.1=5 then true else bt688.2.2.2.2.2.2.2.2.2) (⟨#[58]⟩:ByteArray)).bind fun bt713=>(some (bt713.1,bt713.2))) ((rule_reader_want.f k bt688.2.1 (wrap64 (bt688.2.2.1+(bt688.1.size:Int))) bt688.2.2.2.1 (if bt698.1=0 then true else bt688.2.2.2.2.1) (if bt698.1=1 then true else bt688.2.2.2.2.2.1) (if bt698.1=2 then true else bt688.2.2.2.2.2.2.1) (if bt698.1=3 then true else bt688.2.2.2.2.2.2.2.1) (if bt698.1=4 then true else bt688.2.2.2.2.2.2.2.2.1) (if bt698.1=5 then true else bt688.2.2.2.2.2.2.2.2.2) (⟨#[58]⟩:ByteArray)).bind fun bt704=>(rule_reader_rule_g.j0 k bt698.1 bt704.1 bt704.2.1 bt704.2.2.1 bt704.2.2.2.1 bt704.2.2.2.2.1 bt704.2.2.2.2.2.1 bt704.2.2.2.2.2.2.1 bt704.2.2.2.2.2.2.2.1 bt704.2.2.2.2.2.2.2.2)))) else (none)) else (none)) else ((rule_fail_g.f 1 bt688.2.2.1).bind fun bt702=>(some (bt702.1,bt702.2)))))) v:=by
    intro v hv
    refine Ev.bind (word_ev hl ht) (Ev.bind hcat (Ev.if_pos rfl (Ev.if_pos (by dsimp only;omega) (Ev.if_pos (by dsimp only;omega) (Ev.if_neg ?_ ?_)))))
    · dsimp only
      rw[hread];simpa using hns
    · dsimp only
      rw[S_size,hw,show(0:Int)=((0:Nat):Int) from rfl,show(1:Int)=((1:Nat):Int) from rfl,show(2:Int)=((2:Nat):Int) from rfl,show(3:Int)=((3:Nat):Int) from rfl,show(4:Int)=((4:Nat):Int) from rfl,show(5:Int)=((5:Nat):Int) from rfl,g0,g1,g2,g3,g4,g5]
      exact hv
  split at h
  · rename_i e2
    injection h with h
    injection h with k1 k2
    subst k1 k2
    refine⟨(sk_suf _).trans h3,hgo (Ev.orfL (v:=(1,ps l (RG.sk ((RG.sk t).drop (RG.word t).length)))) ?_ (Ev.now _))⟩
    unfold rule_reader_want_g.f
    exact Ev.bind (take_no hl h3 e2) (Ev.if_neg (by simp) (Ev.now _))
  rename_i v e2
  have hv:v <:+ l:=(tk_suf e2).trans h3
  split at h
  · rename_i e3
    injection h with h
    subst h
    split at e3
    · cases e3
    rename_i h5
    rw[RG.anys] at e3
    have hwant:=want_ev (n:=(m:Int)) (b0:=sn (seen++[c]) 0) (b1:=sn (seen++[c]) 1) (b2:=sn (seen++[c]) 2) (b3:=sn (seen++[c]) 3) (b4:=sn (seen++[c]) 4) (b5:=sn (seen++[c]) 5) hl h3 e2
    split at e3
    · rename_i e4
      injection e3 with e3
      rw[e3] at e4
      obtain⟨a1,a2⟩:=all_err (b0:=sn (seen++[c]) 0) (b1:=sn (seen++[c]) 1) (b2:=sn (seen++[c]) 2) (b3:=sn (seen++[c]) 3) (b4:=sn (seen++[c]) 4) (b5:=sn (seen++[c]) 5) hl hv hm e4
      exact⟨a1,hgo (Ev.orfR hwant (fun k=>want_ex k _ _ _ _ _ _ _ _ _ _) (Ev.step (fun k=>rule_reader_rule_g.j0.eq_2 ..) (Ev.if_neg (by omega) (Ev.orfL a2 (Ev.now _)))))⟩
    rename_i y z e4
    obtain⟨a1,a2⟩:=all_ok (b0:=sn (seen++[c]) 0) (b1:=sn (seen++[c]) 1) (b2:=sn (seen++[c]) 2) (b3:=sn (seen++[c]) 3) (b4:=sn (seen++[c]) 4) (b5:=sn (seen++[c]) 5) hl hv e4
    obtain⟨xs,_,q1,_,q3,_,q5⟩:=RG.alls_good _ e4
    rw[List.nil_append] at q1
    subst q1
    obtain⟨d1,d2⟩:=any_tail_err (b0:=sn (seen++[c]) 0) (b1:=sn (seen++[c]) 1) (b2:=sn (seen++[c]) 2) (b3:=sn (seen++[c]) 3) (b4:=sn (seen++[c]) 4) (b5:=sn (seen++[c]) 5) hl (c:Int) _ e3 a1 (by have:=hv.length_le;simp;omega) (by omega) q3
    exact⟨d1,hgo (Ev.orfR hwant (fun k=>want_ex k _ _ _ _ _ _ _ _ _ _) (Ev.step (fun k=>rule_reader_rule_g.j0.eq_2 ..) (Ev.if_neg (by omega) (Ev.orfR a2 (fun k=>all_ex k _ _ _ _ _ _ _ _ _) (Ev.if_pos (by decide) d2)))))⟩
  · cases h
theorem fin_err (hl:Le l) {m:Int} {t r:List UInt8} {e:RG.Er} {acc:List RG.Ru} (ht:t <:+ l) (h:RG.fin t acc= .error (e,r)):r <:+ l∧Ev (fun k=>rule_reader_rules_g.j2 k (S l) (ps l t) m b0 b1 b2 b3 b4 b5) (cd e,ps l r):=by
  have h2:=(sk_suf t).trans ht
  unfold RG.fin at h
  split at h
  · cases h
  · rename_i hne
    injection h with h
    injection h with g1 g2
    subst g1 g2
    refine⟨h2,Ev.step (fun k=>rule_reader_rules_g.j2.eq_2 ..) (Ev.bind (peek_ev hl ht) ?_)⟩
    dsimp only
    have hpos:0<(RG.sk t).length:=List.length_pos_iff.2 hne
    by_cases hp:pk t=0
    · refine Ev.if_pos hp (Ev.if_pos ?_ (Ev.now _))
      rw[S_size];unfold ps;omega
    · exact Ev.if_neg hp (Ev.now _)
theorem rules_err (hl:Le l):∀(k:Nat) {m:Nat} {seen:List Nat} {t r:List UInt8} {e:RG.Er} {acc:List RG.Ru},RG.rules k m seen t acc= .error (e,r)→t <:+ l→acc.length+k≤30000→t.length<k→m≤200 →
    r <:+ l∧Ev (fun q=>rule_reader_rules_g.l0 q (acc.map toU) (S l) (ps l t) (m:Int) (sn seen 0) (sn seen 1) (sn seen 2) (sn seen 3) (sn seen 4) (sn seen 5)) (cd e,ps l r)
  | 0,m,seen,t,r,e,acc,h,ht,hk,hf,hm=>by omega
  | k+1,m,seen,t,r,e,acc,h,ht,hk,hf,hm=>by
    have hst:=(sk_suf t).trans ht
    have hsl:=RG.sk_len t
    rw[RG.rules] at h
    split at h
    · rename_i hp
      have h':RG.fin (RG.sk t) acc= .error (e,r):=by
        rw[← h];unfold RG.fin;rw[RG.sk_sk]
      obtain⟨a1,a2⟩:=fin_err (m:=(m:Int)) (b0:=sn seen 0) (b1:=sn seen 1) (b2:=sn seen 2) (b3:=sn seen 3) (b4:=sn seen 4) (b5:=sn seen 5) hl hst h'
      exact⟨a1,Ev.step (fun k=>rule_reader_rules_g.l0.eq_2 ..) (Ev.bind (peek_ev hl ht) (Ev.if_pos (pk_zero.2 hp) a2))⟩
    · rename_i hp
      have hrs:RG.rule m seen (RG.sk t)=RG.rule m seen t:=by
        unfold RG.rule
        have:RG.word (RG.sk t)=RG.word t:=RG.word_congr (RG.sk_sk t)
        rw[this,RG.sk_sk]
      split at h
      · rename_i e1
        injection h with h
        rw[h, ← hrs] at e1
        obtain⟨a1,a2⟩:=rule_err hl hst hm e1
        exact⟨a1,Ev.step (fun k=>rule_reader_rules_g.l0.eq_2 ..) (Ev.bind (peek_ev hl ht) (Ev.if_neg (fun e=>hp (pk_zero.1 e)) (Ev.orfL a2 (Ev.now _))))⟩
      rename_i x u e1
      rw[← hrs] at e1
      obtain⟨a1,a2⟩:=rule_ok hl hst e1
      obtain⟨_,_,q3,_,q5⟩:=RG.rule_good e1 hm
      split at h
      · rename_i e2
        have h':RG.fin (RG.sk u) (acc++[x])= .error (e,r):=by
          rw[← h];unfold RG.fin;rw[RG.sk_sk]
        obtain⟨d1,d2⟩:=fin_err (m:=((m+RG.count x.any:Nat):Int)) (b0:=sn (seen++[x.cat]) 0) (b1:=sn (seen++[x.cat]) 1) (b2:=sn (seen++[x.cat]) 2) (b3:=sn (seen++[x.cat]) 3) (b4:=sn (seen++[x.cat]) 4) (b5:=sn (seen++[x.cat]) 5) hl ((sk_suf u).trans a1) h'
        refine⟨d1,Ev.step (fun k=>rule_reader_rules_g.l0.eq_2 ..) (Ev.bind (peek_ev hl ht) (Ev.if_neg (fun e=>hp (pk_zero.1 e)) (Ev.orfR a2 (fun k=>rule_ex k _ _ _ _ _ _ _ _ _) (Ev.if_pos ?_ (Ev.step (fun k=>rule_reader_rules_g.j1.eq_2 ..) (Ev.bind (take_no hl a1 e2) (Ev.if_neg (by simp) d2)))))))⟩
        rw[List.length_map];omega
      · rename_i v e2
        have hlen:=RG.tk_len e2
        rw[List.length_singleton] at hlen
        obtain⟨d1,d2⟩:=rules_err hl k h ((tk_suf e2).trans a1) (by rw[List.length_append,List.length_singleton];omega) (by omega) q3
        refine⟨d1,Ev.step (fun k=>rule_reader_rules_g.l0.eq_2 ..) (Ev.bind (peek_ev hl ht) (Ev.if_neg (fun e=>hp (pk_zero.1 e)) (Ev.orfR a2 (fun k=>rule_ex k _ _ _ _ _ _ _ _ _) (Ev.if_pos ?_ (Ev.step (fun k=>rule_reader_rules_g.j1.eq_2 ..) (Ev.bind (take_yes hl a1 e2) (Ev.if_pos rfl ?_)))))))⟩
        · rw[List.length_map];omega
        · rw[List.map_append] at d2
          exact d2
/-- a text that is no rules -/
theorem parse_err {e:RG.Er} {r:List UInt8} (hl:l.length≤4000) (h:RG.parse l= .error (e,r)):r <:+ l∧Ev (fun k=>rule_Parse.f k (S l)) ([],cd e,ps l r):=by
  obtain⟨a1,a2⟩:=rules_err (l:=l) (by unfold Le;omega) _ h (List.suffix_refl _) (by simp;omega) (by omega) (by decide)
  refine⟨a1,?_⟩
  unfold rule_Parse.f
  refine Ev.if_neg (by rw[S_size];omega) ?_
  rw[ps_len] at a2
  exact Ev.orfL (Y:=fun k=>rule_reader_rules_g.f k (S l) 0 0 false false false false false false) (u:=fun k t=>some ([],t.1,t.2)) a2 (Ev.now _)
end
end RR
end Go.Proofs.YtcokjmnkieakiaaDoor.P
