import Derived.Test.YtbhhfpjiacfofaaDoorWWords
import Derived.Test.YtbhhfpjiacfofaaDoorWMore
import Derived.Test.YtbhhfpjiacfofaaDoorWFoot
import Derived.Test.YtbhhfpjiacfofaaDoorWShare
import Derived.Deep.Slices
import Derived.Deep.Fields
import Derived.ChangeSame
import Derived.ChangeArms
/-! An argument's cells, as the printed kinds read them: for whatever type is put together of numbers, bools, texts, structs and rows of these. -/
namespace Go.Proofs.YtbhhfpjiacfofaaDoor.Rdr
open Go.RowKit Go.Proofs.YtbhhfpjiacfofaaDoorW.PrintWords Go.Proofs.YtbhhfpjiacfofaaDoorW.PrintMore
section
variable {H:Type} {enc:TypeId × Value→H} {P:Program} {W:World}
/-- whatever cells read as data of type t are the cells of some value of the kind d -/
def Rdr (enc:TypeId × Value→H) (P:Program) (W:World) {α:Type} (d:Kd α) (t:TypeId):Prop:=P.cellsOf t=d.sz∧∀fuel cs r,DataW.trod enc P W 0 (fun _=>true) true fuel t cs=some r→∃x:α,d.K W x cs
theorem int {k:IntKind} {t:TypeId} (ht:P.underlying t=some (.int k)) (hc:P.cellsOf t=1):Rdr enc P W (Kd.int k) t:=⟨hc,fun fuel cs r h=>by
  obtain⟨n,rfl,_⟩:=DataW.trod_int ht h
  exact⟨n,rfl⟩⟩
theorem bool {t:TypeId} (ht:P.underlying t=some .bool) (hc:P.cellsOf t=1):Rdr enc P W Kd.bool t:=⟨hc,fun fuel cs r h=>by
  obtain⟨b,rfl,_⟩:=DataW.trod_bool ht h
  exact⟨b,rfl⟩⟩
theorem string {t:TypeId} (ht:P.underlying t=some .string) (hc:P.cellsOf t=1):Rdr enc P W Kd.string t:=⟨hc,fun fuel cs r h=>by
  obtain⟨s,rfl,_⟩:=DataW.trod_string ht h
  exact⟨s,rfl⟩⟩
theorem row {α:Type} {d:Kd α} {t e:TypeId} (ht:P.underlying t=some (.slice e)) (he:Rdr enc P W d e) {fuel:Nat} {cs:List Value} {r:DataW H × List MemPlace} (h:DataW.trod enc P W 0 (fun _=>true) true fuel t cs=some r) :
    ∃(A:Option Addr) (c:Nat) (l:List α),cs=[.slice A l.length c]∧l.length≤c∧d.C W A l.length l:=by
  rcases DataW.trod_slice ht h with ⟨rfl,_⟩|⟨a,len,cap,elems,rest,n,rfl,rfl,_,_,hl,hm,hel,hi,_⟩
  · exact⟨none,0,[],rfl,Nat.le_refl _,Kd.C_nil d W⟩
  · have key:∀i,i<len→∃(x:α) (c:List Value),d.K W x c∧∀j u,c[j]? = some u→W.cell? (a.add (i*d.sz+j))=some u:=by
      intro i hlt
      have h1:=hi i hlt
      have h2:elems[i]? = some (elems[i]'(by omega)):=List.getElem?_eq_getElem (by omega)
      rw[h2,he.1] at h1
      obtain⟨cs',hc,ht'⟩:=Option.bind_eq_some_iff.1 h1
      obtain⟨x,hx⟩:=he.2 _ _ _ ht'
      refine⟨x,cs',hx,fun j u hj=>?_⟩
      obtain⟨_,hcl,hat⟩:=World.cells?_some hc
      have hjl:j<d.sz:=by
        rcases Nat.lt_or_ge j cs'.length with h'|h'
        · omega
        · rw[List.getElem?_eq_none h'] at hj;cases hj
      have h3:=hat j hjl
      rw[← Go.Deep.add_add,h3,hj]
    refine⟨some a,cap,(List.range len).attach.map (fun i=>Classical.choose (key i.1 (List.mem_range.1 i.2))),by simp,by simpa using hl,?_⟩
    refine⟨rfl,by simp;simp only[maxLen] at hm;omega,fun _=>⟨a,rfl,fun j p hj=>?_⟩⟩
    have hjl:j<len:=by
      rcases Nat.lt_or_ge j len with h'|h'
      · exact h'
      · rw[List.getElem?_eq_none (by simpa using h')] at hj;cases hj
    rw[List.getElem?_map] at hj
    obtain⟨i,hii,rfl⟩:=Option.map_eq_some_iff.1 hj
    have hij:i.1=j:=by
      have:=List.getElem?_eq_some_iff.1 hii
      obtain⟨hlt,he2⟩:=this
      have h4:((List.range len).attach[j]'hlt).1=j:=by simp
      rw[← he2];exact h4
    obtain⟨c,hK,hc⟩:=Classical.choose_spec (key i.1 (List.mem_range.1 i.2))
    exact⟨c,d.K_len hK,hK,fun q u hu=>by rw[← hij];exact hc q u hu⟩
theorem slice {α:Type} {d:Kd α} {t e:TypeId} (ht:P.underlying t=some (.slice e)) (hc:P.cellsOf t=1) (he:Rdr enc P W d e):Rdr enc P W (Kd.slice e d) t:=⟨hc,fun fuel cs r h=>by
  obtain⟨A,c,l,rfl,h1,h2⟩:=row ht he h
  exact⟨l,A,c,rfl,h1,h2⟩⟩
/-- a struct's fields from one on: what lies behind the first o cells -/
def Flds (enc:TypeId × Value→H) (P:Program) (W:World) {α:Type} (d:Kd α) (fs:List Field) (o:Nat):Prop :=
  ∀cs:List Value,cs.length=o+d.sz→(∀(j:Nat) (f:Field),fs[j]? = some f→∃n y,DataW.trod enc P W 0 (fun _=>true) true n f.type ((cs.drop f.offset).take (P.cellsOf f.type))=some y)→∃x:α,d.K W x (cs.drop o)
theorem last {α:Type} {d:Kd α} {f:Field} {o:Nat} (ho:f.offset=o) (h:Rdr enc P W d f.type):Flds enc P W d [f] o:=fun cs hl hf=>by
  obtain⟨n,y,hy⟩:=hf 0 f rfl
  obtain⟨x,hx⟩:=h.2 _ _ _ hy
  rw[ho,h.1,List.take_of_length_le (by rw[List.length_drop];omega)] at hx
  exact⟨x,hx⟩
theorem cons {α β:Type} {a:Kd α} {b:Kd β} {f:Field} {fs:List Field} {o:Nat} (ho:f.offset=o) (h:Rdr enc P W a f.type) (hs:Flds enc P W b fs (o+a.sz)):Flds enc P W (Kd.pair a b) (f::fs) o:=fun cs hl hf=>by
  have hsz:(Kd.pair a b).sz=a.sz+b.sz:=rfl
  rw[hsz] at hl
  obtain⟨n,y,hy⟩:=hf 0 f rfl
  obtain⟨x,hx⟩:=h.2 _ _ _ hy
  rw[ho,h.1] at hx
  obtain⟨z,hz⟩:=hs cs (by omega) (fun j g hj=>hf (j+1) g hj)
  refine⟨(x,z),(cs.drop o).take a.sz,cs.drop (o+a.sz),?_,hx,hz⟩
  rw[← List.drop_drop,List.take_append_drop]
theorem struct {α β:Type} {d:Kd β} {f:α→β} (g:β→α) (hg:∀y,f (g y)=y) {t:TypeId} {fs:Array Field} (ht:P.underlying t=some (.struct fs)) (hc:P.cellsOf t=d.sz) (h:Flds enc P W d fs.toList 0):Rdr enc P W (Kd.iso d f) t:=⟨hc,fun fuel cs r hr=>by
  obtain⟨ys,n,hn,hy,hlen,hyl,hf⟩:=DataW.trod_struct ht hr
  obtain⟨x,hx⟩:=h cs (by rw[Nat.zero_add, ← hc];exact hlen) (fun j q hj=>by
    have hj':fs[j]? = some q:=by rw[← Array.getElem?_toList];exact hj
    have h1:=hf j q hj'
    have hjl:j<fs.size:=(Array.getElem?_eq_some_iff.1 hj').1
    have hys:ys[j]? = some (ys[j]'(by omega)):=List.getElem?_eq_getElem (by omega)
    exact⟨n,_,h1.trans hys⟩)
  rw[List.drop_zero] at hx
  exact⟨g x,by show d.K W (f (g x)) cs;rw[hg];exact hx⟩⟩
/-- a row that came in, as one that may be shared -/
theorem shared {α:Type} {d:Kd α} (hd:Kd.Heap d) {e:TypeId} {A:Option Addr} {c:Nat} {l:List α} (hl:l.length≤c) (h:d.C W A l.length l):Kd.V d e W W.heap.size (fun k_=>k_<W.heap.size) (.slice A l.length c) l:=Kd.V_mk hl (Kd.C_F hd h)
theorem heap_names:True:=by
  have:= @Kd.heap_int;have:= @Kd.heap_bool;have:= @Kd.heap_string;have:= @Kd.heap_slice;have:= @Kd.heap_pair;have:= @Kd.heap_iso
  trivial
end
end Go.Proofs.YtbhhfpjiacfofaaDoor.Rdr
