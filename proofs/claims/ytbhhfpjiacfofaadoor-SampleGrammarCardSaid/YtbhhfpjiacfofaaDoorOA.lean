import Derived.SizedLaws
import Derived.ChangeArms
import Derived.Lib.LaidU8
import Derived.Lib.LaidTab
namespace Go.Proofs.YtbhhfpjiacfofaaDoor.Agg
open Go

/-- the parts of a struct weigh no more than the whole -/
theorem sized_agg {H:Type} {P:Program} {ts:List TypeId} {ds:List (DataW H)} {j:Nat} {t:TypeId} {parts:List (DataW H)} {fs:Array Field} (h:(DataW.weightsEach P ts ds).all (· ≤ reachBytes)=true)
    (ht:ts[j]? = some t) (hd:ds[j]? = some (.agg parts)) (hu:P.underlying t=some (.struct fs)):(DataW.weightsEach P (fs.toList.map (·.type)) parts).all (· ≤ reachBytes)=true:=by
  rw[List.all_eq_true] at h ⊢
  intro x hx
  exact h x (DataW.weights_mem_each ht hd x (by unfold DataW.weights;rw[hu];exact hx))
theorem arr3 {α:Type} {a:Array α} (h:a.size=3):∃x y z,a= #[x,y,z]:=by
  obtain⟨l⟩:=a
  match l,h with
  | [x,y,z],_=>exact⟨x,y,z,rfl⟩
theorem arr8 {α:Type} {a:Array α} (h:a.size=8):∃a0 a1 a2 a3 a4 a5 a6 a7,a= #[a0,a1,a2,a3,a4,a5,a6,a7]:=by
  obtain⟨l⟩:=a
  match l,h with
  | [a0,a1,a2,a3,a4,a5,a6,a7],_=>exact⟨a0,a1,a2,a3,a4,a5,a6,a7,rfl⟩
theorem list3 {α:Type} {a:List α} (h:a.length=3):∃x y z,a=[x,y,z]:=by
  match a,h with
  | [x,y,z],_=>exact⟨x,y,z,rfl⟩
theorem list8 {α:Type} {a:List α} (h:a.length=8):∃a0 a1 a2 a3 a4 a5 a6 a7,a=[a0,a1,a2,a3,a4,a5,a6,a7]:=by
  match a,h with
  | [a0,a1,a2,a3,a4,a5,a6,a7],_=>exact⟨a0,a1,a2,a3,a4,a5,a6,a7,rfl⟩
theorem arr4 {α:Type} {a:Array α} (h:a.size=4):∃a0 a1 a2 a3,a= #[a0,a1,a2,a3]:=by
  obtain⟨l⟩:=a
  match l,h with
  | [a0,a1,a2,a3],_=>exact⟨a0,a1,a2,a3,rfl⟩
theorem list4 {α:Type} {a:List α} (h:a.length=4):∃a0 a1 a2 a3,a=[a0,a1,a2,a3]:=by
  match a,h with
  | [a0,a1,a2,a3],_=>exact⟨a0,a1,a2,a3,rfl⟩
theorem arr7 {α:Type} {a:Array α} (h:a.size=7):∃a0 a1 a2 a3 a4 a5 a6,a= #[a0,a1,a2,a3,a4,a5,a6]:=by
  obtain⟨l⟩:=a
  match l,h with
  | [a0,a1,a2,a3,a4,a5,a6],_=>exact⟨a0,a1,a2,a3,a4,a5,a6,rfl⟩
theorem list7 {α:Type} {a:List α} (h:a.length=7):∃a0 a1 a2 a3 a4 a5 a6,a=[a0,a1,a2,a3,a4,a5,a6]:=by
  match a,h with
  | [a0,a1,a2,a3,a4,a5,a6],_=>exact⟨a0,a1,a2,a3,a4,a5,a6,rfl⟩
theorem arr5 {α:Type} {a:Array α} (h:a.size=5):∃a0 a1 a2 a3 a4,a= #[a0,a1,a2,a3,a4]:=by
  obtain⟨l⟩:=a
  match l,h with
  | [a0,a1,a2,a3,a4],_=>exact⟨a0,a1,a2,a3,a4,rfl⟩
theorem list5 {α:Type} {a:List α} (h:a.length=5):∃a0 a1 a2 a3 a4,a=[a0,a1,a2,a3,a4]:=by
  match a,h with
  | [a0,a1,a2,a3,a4],_=>exact⟨a0,a1,a2,a3,a4,rfl⟩
/-- a laid table, read in a row's condition, holds its numbers -/
theorem tab_of_reads {P:Program} {W:World} {name:String} {k:IntKind} {zs:List Int} {g:Nat} {t e:TypeId} {n:Nat} (hg:P.globalNamed name=some g) (hty:(P.globals[g]?).map (·.type)=some t)
    (ht:P.underlying t=some (.array n e)) (he:P.underlying e=some (.int k)) (hce:P.cellsOf e=1) (hct:P.cellsOf t=n) (h:Lib.VarReads P W name (Lib.tabData k zs)):Lib.TabIs P W name k zs:=by
  obtain⟨g',t',cs,fuel,p,hg',ht',hvar,hd⟩:=h
  obtain rfl:=Option.some.inj (hg.symm.trans hg')
  obtain rfl:=Option.some.inj (hty.symm.trans ht')
  unfold Lib.TabIs
  rw[hvar, ← Lib.cells_of_tab ht he hce hct hd]
end Go.Proofs.YtbhhfpjiacfofaaDoor.Agg
