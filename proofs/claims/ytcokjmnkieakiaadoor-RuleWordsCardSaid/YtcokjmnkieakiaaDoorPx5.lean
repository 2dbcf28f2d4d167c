-- written by a program of this session (wip/p2)
import Derived.Test.YtcokjmnkieakiaaDoorPx0
import Derived.Test.YtcokjmnkieakiaaDoorPx1
import Derived.Test.YtcokjmnkieakiaaDoorPx4
namespace Go.Proofs.YtcokjmnkieakiaaDoor.P
open Go.RowKit Go.Proofs.YtcokjmnkieakiaaDoorW.PrintWords Go.Proofs.YtcokjmnkieakiaaDoorW.PrintLast Go.Proofs.YtcokjmnkieakiaaDoorW.PrintMore
attribute [local go_sem] max2_int min2_int max_two min_two max_three min_three max_four min_four   -- for this text's walks alone
set_option linter.unusedVariables false
set_option linter.unusedSimpArgs false

/-! ### florinlaw06_RuleWords: function 6 -/
mutual
def florinlaw06_RuleWords.j0:Nat→Int→ByteArray→List ByteArray→ByteArray→Bool→Option (Bool)
 | 0,_,_,_,_,_=>none
 | k+1,x0,x1,x5,x6,x22=>if x22=true then (if 0≤x0 then (if x0<(x5.length:Int) then (florinlaw06_RuleWords.j1 k x0 x1 x5 (rdOf ByteArray.empty x5 x0)) else (none)) else (none)) else (florinlaw06_RuleWords.j1 k x0 x1 x5 x6)
def florinlaw06_RuleWords.j1:Nat→Int→ByteArray→List ByteArray→ByteArray→Option (Bool)
 | 0,_,_,_,_=>none
 | k+1,x0,x1,x5,x6=>(rule_CatOf.f k x1).bind fun bt554=>(florinlaw06_RuleWords.l0 k x0 x1 x6 bt554.1 bt554.2 false x5 (x5.length:Int) 0)
def florinlaw06_RuleWords.l0:Nat→Int→ByteArray→ByteArray→Int→Bool→Bool→List ByteArray→Int→Int→Option (Bool)
 | 0,_,_,_,_,_,_,_,_,_=>none
 | k+1,x0,x1,x6,x7,x8,x9,x32,x33,x34=>if x34<x33 then (if 0≤x34 then (if x34<(x32.length:Int) then (if (rdOf ByteArray.empty x32 x34).toList=x1.toList then ((rule_CatOf.f k (rdOf ByteArray.empty x32 x34)).bind fun bt558=>(if bt558.2=true then (if bt558.1=x34 then (florinlaw06_RuleWords.l0 k x0 x1 x6 x7 x8 (x7==x34) x32 x33 (wrap64 (x34+1))) else (none)) else (none))) else ((rule_CatOf.f k (rdOf ByteArray.empty x32 x34)).bind fun bt560=>(if bt560.2=true then (if bt560.1=x34 then (florinlaw06_RuleWords.l0 k x0 x1 x6 x7 x8 x9 x32 x33 (wrap64 (x34+1))) else (none)) else (none)))) else (none)) else (none)) else ((rule_Cat_String.f x0).bind fun t556=>(if t556.toList=x6.toList then (if (x8==x9)=true then (if x8=true then (some true) else (some (x7==0))) else (none)) else (none)))
end
def florinlaw06_RuleWords.f (k:Nat) (a0:Int) (a1:ByteArray):Option (Bool):=(florinlaw06_head.f k).bind fun t549=>(if t549=true then ((some (([(⟨#[122,101,114,111]⟩:ByteArray),(⟨#[111,110,101]⟩:ByteArray),(⟨#[116,119,111]⟩:ByteArray),(⟨#[102,101,119]⟩:ByteArray),(⟨#[109,97,110,121]⟩:ByteArray),(⟨#[111,116,104,101,114]⟩:ByteArray)]:List ByteArray):List ByteArray)).bind fun y550=>(if a0≥0 then (florinlaw06_RuleWords.j0 k a0 a1 y550 (⟨#[]⟩:ByteArray) (decide (a0<6))) else (florinlaw06_RuleWords.j0 k a0 a1 y550 (⟨#[]⟩:ByteArray) false))) else (none))
set_option maxHeartbeats 64000000 in
set_option maxRecDepth 100000 in
theorem florinlaw06_RuleWords.calls (k:Nat) (a0:Int) (a1:ByteArray) (r:Bool) (w:World) (h:florinlaw06_RuleWords.f k a0 a1=some r) (ht:Lib.TabIs Tryd.prog w "internal/strconv.uint64pow10" .u64 Lib.pow10Tab:=by first|assumption|exact tb_ (by assumption) (bl_ (by assumption)).out) :
  Calls Tryd.prog 6 #[.int .i64 a0,.string a1] w fun e w'=>e= .returned (.bool r)∧Below w.heap.size w w':=by
 have HB:=Aside0.mk (Below.refl w.heap.size w)
 have H:((florinlaw06_head.f k).bind fun t549=>(if t549=true then ((some (([(⟨#[122,101,114,111]⟩:ByteArray),(⟨#[111,110,101]⟩:ByteArray),(⟨#[116,119,111]⟩:ByteArray),(⟨#[102,101,119]⟩:ByteArray),(⟨#[109,97,110,121]⟩:ByteArray),(⟨#[111,116,104,101,114]⟩:ByteArray)]:List ByteArray):List ByteArray)).bind fun y550=>(if a0≥0 then (florinlaw06_RuleWords.j0 k a0 a1 y550 (⟨#[]⟩:ByteArray) (decide (a0<6))) else (florinlaw06_RuleWords.j0 k a0 a1 y550 (⟨#[]⟩:ByteArray) false))) else (none)))=some r:=h
 clear h
 replace H:=Option.bind_eq_some_iff.mp H
 obtain⟨t549,A30,H⟩:=H
 have A3:=Aside0.mk A30
 clear A30
 by_cases c4:t549=true
 ·subst c4
  have H1:((some (([(⟨#[122,101,114,111]⟩:ByteArray),(⟨#[111,110,101]⟩:ByteArray),(⟨#[116,119,111]⟩:ByteArray),(⟨#[102,101,119]⟩:ByteArray),(⟨#[109,97,110,121]⟩:ByteArray),(⟨#[111,116,104,101,114]⟩:ByteArray)]:List ByteArray):List ByteArray)).bind fun y550=>(if a0≥0 then (florinlaw06_RuleWords.j0 k a0 a1 y550 (⟨#[]⟩:ByteArray) (decide (a0<6))) else (florinlaw06_RuleWords.j0 k a0 a1 y550 (⟨#[]⟩:ByteArray) false)))=some r:=by rw[if_pos rfl] at H;exact H
  clear H
  have H:=H1
  clear H1
  obtain⟨y550,hy550⟩:∃y_:List ByteArray,y_=(([(⟨#[122,101,114,111]⟩:ByteArray),(⟨#[111,110,101]⟩:ByteArray),(⟨#[116,119,111]⟩:ByteArray),(⟨#[102,101,119]⟩:ByteArray),(⟨#[109,97,110,121]⟩:ByteArray),(⟨#[111,116,104,101,114]⟩:ByteArray)]:List ByteArray)):=⟨_,rfl⟩
  replace H:(if a0≥0 then (florinlaw06_RuleWords.j0 k a0 a1 y550 (⟨#[]⟩:ByteArray) (decide (a0<6))) else (florinlaw06_RuleWords.j0 k a0 a1 y550 (⟨#[]⟩:ByteArray) false))=some r:=by first|(rw[hy550];with_reducible exact H)|(have H2_:=(Option.bind_some _ _).symm.trans H;rw[hy550];with_reducible exact H2_)|(have H2_:=(Option.bind_some _ _).symm.trans H;with_reducible exact H2_)|with_reducible exact H|(rw[hy550];exact H)|exact H
  have Ny550:=Aside0.mk hy550
  clear hy550
  have HC5:=Aside0.mk H
  clear H
  go_enter Tryd.func6,Tryd.ntmps6
  go_upto_region 5 with (first|((with_reducible refine gate_callee (f:=7) rfl ?_);refine gl_ (some 14) Tryd.func7 #[] ?_;(with_reducible refine(florinlaw06_head.calls _ _ _ A3.out).mono ?_);rintro e w6 ⟨rfl,hb⟩;refine⟨_,rfl,?_⟩;replace HB:=Aside0.mk (below_step (bl_ HB).out hb);(try clear hb);(try clear hi))|((with_reducible refine gate_dst (N:=16) rfl ?_);refine Kd.R_lit Kd.string _ 9 ?hg (N:=16) ?hd (xs:=([(⟨#[122,101,114,111]⟩:ByteArray),(⟨#[111,110,101]⟩:ByteArray),(⟨#[116,119,111]⟩:ByteArray),(⟨#[102,101,119]⟩:ByteArray),(⟨#[109,97,110,121]⟩:ByteArray),(⟨#[111,116,104,101,114]⟩:ByteArray)]:List ByteArray)) (inner:=[.string (⟨#[122,101,114,111]⟩:ByteArray),.string (⟨#[111,110,101]⟩:ByteArray),.string (⟨#[116,119,111]⟩:ByteArray),.string (⟨#[102,101,119]⟩:ByteArray),.string (⟨#[109,97,110,121]⟩:ByteArray),.string (⟨#[111,116,104,101,114]⟩:ByteArray)]) (ok:=fun _=>True) (okp:=fun _=>True) ?hr ?hp (fun _ hk=>hk) trivial (Below.refl _ _) (Nat.le_refl _) (by simp) ?_;(case hd=>rfl);(case hg=>rfl);(case hr=>first|(go_simp;done)|(go_simp;rfl));(case hp=>exact(Reps.one (show Kd.M Kd.string _ _ _ (⟨#[122,101,114,111]⟩:ByteArray) [.string (⟨#[122,101,114,111]⟩:ByteArray)] from rfl) (Reps.one (show Kd.M Kd.string _ _ _ (⟨#[111,110,101]⟩:ByteArray) [.string (⟨#[111,110,101]⟩:ByteArray)] from rfl) (Reps.one (show Kd.M Kd.string _ _ _ (⟨#[116,119,111]⟩:ByteArray) [.string (⟨#[116,119,111]⟩:ByteArray)] from rfl) (Reps.one (show Kd.M Kd.string _ _ _ (⟨#[102,101,119]⟩:ByteArray) [.string (⟨#[102,101,119]⟩:ByteArray)] from rfl) (Reps.one (show Kd.M Kd.string _ _ _ (⟨#[109,97,110,121]⟩:ByteArray) [.string (⟨#[109,97,110,121]⟩:ByteArray)] from rfl) (Reps.one (show Kd.M Kd.string _ _ _ (⟨#[111,116,104,101,114]⟩:ByteArray) [.string (⟨#[111,116,104,101,114]⟩:ByteArray)] from rfl) (Reps.none _ _))))))));intro v551 w7 ho8 hb hg_ hnew_;clear hg_ hnew_;(first|rw[← Ny550.out] at ho8|(simp only[Int.reduceToNat] at ho8;rw[← Ny550.out] at ho8));have HO552:=Aside0.mk (Kd.R_lower ho8 (below_size (bl_ HB).out));replace HB:=Aside0.mk (below_step (bl_ HB).out hb);clear hb ho8))
  (try simp only[Act.put,List.setIfInBounds_toArray,List.set_cons_zero,List.set_cons_succ])
  go_cut [22] (fun v22 wc=>∃(kq:Nat) (x22_4:Bool),v22= .bool x22_4∧Aside0 (florinlaw06_RuleWords.j0 kq a0 a1 y550 (⟨#[]⟩:ByteArray) x22_4=some r)∧Aside0 (kq≤k)∧Aside0 (Kd.R Kd.string 9 wc w.heap.size (fun _=>True) v551 y550)∧Aside0 (Below w.heap.size w wc))
  case first =>
   have H:=HC5.out
   clear HC5
   by_cases c9:a0≥0
   ·rw[if_pos c9] at H
    have c9b0:decide (0≤a0)=true:=decide_eq_true c9
    clear c9
    (first|rw[c9b0]|(simp only[i64_w,i32_w];rw[c9b0])|skip)
    have H':=Aside0.mk H
    clear H
    go_wp2
    go_meet
    case rel=>exact⟨_,(decide (a0<6)),eq_,H',⟨by first|omega|exact Nat.le_refl _⟩,⟨kdR_ HO552.out⟩,(bl_ HB)⟩
   ·rw[if_neg c9] at H
    have c9b0:decide (0≤a0)=false:=decide_eq_false c9
    clear c9
    (first|rw[c9b0]|(simp only[i64_w,i32_w];rw[c9b0])|skip)
    have H':=Aside0.mk H
    clear H
    go_wp2
    go_meet
    case rel=>exact⟨_,(false),eq_,H',⟨by first|omega|exact Nat.le_refl _⟩,⟨kdR_ HO552.out⟩,(bl_ HB)⟩
  case rest =>
   clear HC5
   obtain⟨kq,x22_4,rfl,HA,HJ4,HO_5,HB⟩:=hcut
   cases kq with
   | zero=>exact absurd HA.out (by simp[florinlaw06_RuleWords.j0])
   | succ kj4 =>
    have H:=HA.out
    clear HA
    simp only[florinlaw06_RuleWords.j0] at H
    have HC10:=Aside0.mk H
    clear H
    go_upto_if 22 with (fail)
    go_cut [6] (fun v6 wc=>∃(kq:Nat) (x6_9:ByteArray),v6= .string x6_9∧Aside0 (florinlaw06_RuleWords.j1 kq a0 a1 y550 x6_9=some r)∧Aside0 (kq≤kj4)∧Aside0 (Kd.R Kd.string 9 wc w.heap.size (fun _=>True) v551 y550)∧Aside0 (Below w.heap.size w wc))
    case first =>
     have H:=HC10.out
     clear HC10
     by_cases c11:x22_4=true
     ·subst c11
      have H1:(if 0≤a0 then (if a0<(y550.length:Int) then (florinlaw06_RuleWords.j1 kj4 a0 a1 y550 (rdOf ByteArray.empty y550 a0)) else (none)) else (none))=some r:=by rw[if_pos rfl] at H;exact H
      clear H
      have H:=H1
      clear H1
      replace H:=ifn_ H
      obtain⟨c12,H⟩:=H
      have c12b0:decide (0≤a0)=true:=decide_eq_true c12
      clear c12
      (first|rw[c12b0]|(simp only[i64_w,i32_w];rw[c12b0])|skip)
      replace H:=ifn_ H
      obtain⟨c13,H⟩:=H
      have c13b0:decide (a0<(y550.length:Int))=true:=decide_eq_true c13
      clear c13
      have H':=Aside0.mk H
      clear H
      obtain⟨Ao14,co14,eo14⟩:=Kd.R_slice HO_5.out
      subst eo14
      have p553:0≤(a0:Int):=od_
      have q553:a0<(y550.length:Int):=od_
      obtain⟨ad553,e553,hx553_0⟩:=Kd.at_string (Kd.R_reads' HO_5.out).2.2 a0 p553 q553
      cases e553
      replace p553:=eq_true p553
      replace q553:=eq_true q553
      go_wp2
      go_meet
      case rel=>exact⟨_,(rdOf ByteArray.empty y550 a0),eq_,H',⟨by have:=HJ4.out;first|omega|exact Nat.le_refl _⟩,⟨kdR_ HO_5.out⟩,(bl_ HB)⟩
     ·replace c11:=Bool.eq_false_iff.mpr c11
      subst c11
      have H1:(florinlaw06_RuleWords.j1 kj4 a0 a1 y550 (⟨#[]⟩:ByteArray))=some r:=by rw[if_neg (show ¬(false=true) by decide)] at H;exact H
      clear H
      have H:=H1
      clear H1
      have H':=Aside0.mk H
      clear H
      go_wp2
      go_meet
      case rel=>exact⟨_,((⟨#[]⟩:ByteArray)),eq_,H',⟨by have:=HJ4.out;first|omega|exact Nat.le_refl _⟩,⟨kdR_ HO_5.out⟩,(bl_ HB)⟩
    case rest =>
     clear HC10
     obtain⟨kq,x6_9,rfl,HA,HJ9,HO_5,HB⟩:=hcut
     cases kq with
     | zero=>exact absurd HA.out (by simp[florinlaw06_RuleWords.j1])
     | succ kj9 =>
      have H:=HA.out
      clear HA
      simp only[florinlaw06_RuleWords.j1] at H
      replace H:=Option.bind_eq_some_iff.mp H
      obtain⟨⟨t554,t555⟩,A150,H⟩:=H
      dsimp only at H
      have A15:=Aside0.mk A150
      clear A150
      have H':=Aside0.mk H
      clear H
      go_wp2_with (first|((with_reducible refine gate_callee (f:=11) rfl ?_);refine gl_ (some 29) Tryd.func11 #[.string a1] ?_;(with_reducible refine(rule_CatOf.calls _ _ _ _ _ A15.out).mono ?_);rintro e w16 ⟨rfl,hb⟩;refine⟨_,rfl,?_⟩;replace HO_5:=kb_ HO_5 hb;replace HB:=Aside0.mk (below_step (bl_ HB).out hb);(try clear hb);obtain⟨Ao17,co17,eo17⟩:=Kd.R_slice HO_5.out;subst eo17))
      go_loopg [9,34] kj9 (fun kq v9 v34 w'=>∃(x9_3:Bool) (x34_3:Int),v9= .bool x9_3∧v34= .int .i64 x34_3∧Aside0 (florinlaw06_RuleWords.l0 kq a0 a1 x6_9 t554 t555 x9_3 y550 (y550.length:Int) x34_3=some r)∧Aside0 (kq≤kj9)∧Aside0 (Kd.R Kd.string 9 w' w.heap.size (fun _=>True) (.slice Ao17 y550.length co17) y550)∧Aside0 (Below w.heap.size w w'))
      case atStart=>exact⟨(false),(0),eq_,eq_,H',⟨Nat.le_refl _⟩,⟨kdR_ HO_5.out⟩,(bl_ HB)⟩
      case round =>
       clear H'
       obtain⟨x9_3,x34_3,rfl,rfl,HA,HK3,HO_32,HB⟩:=hrel
       cases gk with
       | zero=>exact absurd HA.out (by simp[florinlaw06_RuleWords.l0])
       | succ k3 =>
        have H:=HA.out
        clear HA
        simp only[florinlaw06_RuleWords.l0] at H
        by_cases c18:x34_3<(y550.length:Int)
        ·rw[if_pos c18] at H
         have c18b0:=decide_eq_true c18
         clear c18
         replace H:=ifn_ H
         obtain⟨c19,H⟩:=H
         have c19b0:decide (0≤x34_3)=true:=decide_eq_true c19
         clear c19
         replace H:=ifn_ H
         obtain⟨c20,H⟩:=H
         have c20b0:decide (x34_3<(y550.length:Int))=true:=decide_eq_true c20
         clear c20
         by_cases c21:(rdOf ByteArray.empty y550 x34_3).toList=a1.toList
         ·rw[if_pos c21] at H
          have c21b0:((rdOf ByteArray.empty y550 x34_3).toList==a1.toList)=true:=beq_iff_eq.mpr c21
          have c21b1:((rdOf ByteArray.empty y550 x34_3).toList !=a1.toList)=false:=bne_eq_false_iff_eq.mpr c21
          clear c21
          replace H:=Option.bind_eq_some_iff.mp H
          obtain⟨⟨t558,t559⟩,A220,H⟩:=H
          dsimp only at H
          have A22:=Aside0.mk A220
          clear A220
          by_cases c23:t559=true
          ·subst c23
           have H1:(if t558=x34_3 then (florinlaw06_RuleWords.l0 k3 a0 a1 x6_9 t554 t555 (t554==x34_3) y550 (y550.length:Int) (wrap64 (x34_3+1))) else (none))=some r:=by rw[if_pos rfl] at H;exact H
           clear H
           have H:=H1
           clear H1
           replace H:=ifn_ H
           obtain⟨c24,H⟩:=H
           have c24b0:(t558==x34_3)=true:=beq_iff_eq.mpr c24
           have c24b1:(t558 !=x34_3)=false:=bne_eq_false_iff_eq.mpr c24
           clear c24
           have H':=Aside0.mk H
           clear H
           have p557:0≤(x34_3:Int):=od_
           have q557:x34_3<(y550.length:Int):=od_
           obtain⟨ad557,e557,hx557_0⟩:=Kd.at_string (Kd.R_reads' HO_32.out).2.2 x34_3 p557 q557
           cases e557
           replace p557:=eq_true p557
           replace q557:=eq_true q557
           go_wp2_with (first|((with_reducible refine gate_callee (f:=11) rfl ?_);refine gl_ (some 47) Tryd.func11 #[.string (rdOf ByteArray.empty y550 x34_3)] ?_;(with_reducible refine(rule_CatOf.calls _ _ _ _ _ A22.out).mono ?_);rintro e w25 ⟨rfl,hb⟩;refine⟨_,rfl,?_⟩;replace HO_32:=kb_ HO_32 hb;replace HB:=Aside0.mk (below_step (bl_ HB).out hb);(try clear hb);(try clear hi)))
           go_roundg k3
           case measure=>have:=HJ4.out;have:=HJ9.out;have:=HK3.out;omega
           case rel=>exact⟨((t554==x34_3)),(wrap64 (x34_3+1)),eq_,eq_,H',⟨by have:=HJ4.out;have:=HJ9.out;have:=HK3.out;omega⟩,⟨kdR_ HO_32.out⟩,(bl_ HB)⟩
          ·replace c23:=Bool.eq_false_iff.mpr c23
           subst c23
           have H1:(none)=some r:=by rw[if_neg (show ¬(false=true) by decide)] at H;exact H
           clear H
           have H:=H1
           clear H1
           exact absurd H (by simp)
         ·rw[if_neg c21] at H
          have c21b0:((rdOf ByteArray.empty y550 x34_3).toList==a1.toList)=false:=beq_eq_false_iff_ne.mpr c21
          have c21b1:((rdOf ByteArray.empty y550 x34_3).toList !=a1.toList)=true:=bne_iff_ne.mpr c21
          replace H:=Option.bind_eq_some_iff.mp H
          obtain⟨⟨t560,t561⟩,A260,H⟩:=H
          dsimp only at H
          have A26:=Aside0.mk A260
          clear A260
          by_cases c27:t561=true
          ·subst c27
           have H1:(if t560=x34_3 then (florinlaw06_RuleWords.l0 k3 a0 a1 x6_9 t554 t555 x9_3 y550 (y550.length:Int) (wrap64 (x34_3+1))) else (none))=some r:=by rw[if_pos rfl] at H;exact H
           clear H
           have H:=H1
           clear H1
           replace H:=ifn_ H
           obtain⟨c28,H⟩:=H
           have c28b0:(t560==x34_3)=true:=beq_iff_eq.mpr c28
           have c28b1:(t560 !=x34_3)=false:=bne_eq_false_iff_eq.mpr c28
           clear c28
           have H':=Aside0.mk H
           clear H
           have p557:0≤(x34_3:Int):=od_
           have q557:x34_3<(y550.length:Int):=od_
           obtain⟨ad557,e557,hx557_0⟩:=Kd.at_string (Kd.R_reads' HO_32.out).2.2 x34_3 p557 q557
           cases e557
           replace p557:=eq_true p557
           replace q557:=eq_true q557
           go_wp2_with (first|((with_reducible refine gate_callee (f:=11) rfl ?_);refine gl_ (some 47) Tryd.func11 #[.string (rdOf ByteArray.empty y550 x34_3)] ?_;(with_reducible refine(rule_CatOf.calls _ _ _ _ _ A26.out).mono ?_);rintro e w29 ⟨rfl,hb⟩;refine⟨_,rfl,?_⟩;replace HO_32:=kb_ HO_32 hb;replace HB:=Aside0.mk (below_step (bl_ HB).out hb);(try clear hb);(try clear hi)))
           go_roundg k3
           case measure=>have:=HJ4.out;have:=HJ9.out;have:=HK3.out;omega
           case rel=>exact⟨(x9_3),(wrap64 (x34_3+1)),eq_,eq_,H',⟨by have:=HJ4.out;have:=HJ9.out;have:=HK3.out;omega⟩,⟨kdR_ HO_32.out⟩,(bl_ HB)⟩
          ·replace c27:=Bool.eq_false_iff.mpr c27
           subst c27
           have H1:(none)=some r:=by rw[if_neg (show ¬(false=true) by decide)] at H;exact H
           clear H
           have H:=H1
           clear H1
           exact absurd H (by simp)
        ·rw[if_neg c18] at H
         have c18b0:=decide_eq_false c18
         clear c18
         replace H:=Option.bind_eq_some_iff.mp H
         obtain⟨t556,A300,H⟩:=H
         have A30:=Aside0.mk A300
         clear A300
         replace H:=ifn_ H
         obtain⟨c31,H⟩:=H
         have c31b0:(t556.toList==x6_9.toList)=true:=beq_iff_eq.mpr c31
         have c31b1:(t556.toList !=x6_9.toList)=false:=bne_eq_false_iff_eq.mpr c31
         clear c31
         replace H:=ifn_ H
         obtain⟨c32,H⟩:=H
         have c32b0:(t555==x9_3)=true:=c32
         (try (have c32b1:decide (t555=x9_3)=true:=by simpa using c32))
         (try (have c32b2:(t555==x9_3)=true:=by simpa using c32))
         (try (have c32b3:(t555=x9_3)=True:=eq_true (by simpa using c32)))
         clear c32
         by_cases c33:t555=true
         ·subst c33
          have H1:(some true)=some r:=by rw[if_pos rfl] at H;exact H
          clear H
          have H:=H1
          clear H1
          obtain rfl:=Option.some.inj H
          go_wp2_with (first|((with_reducible refine gate_callee (f:=12) rfl ?_);refine gl_ (some 59) Tryd.func12 #[.int .i64 a0] ?_;(with_reducible refine(rule_Cat_String.calls _ _ _ A30.out).mono ?_);rintro e w34 ⟨rfl,hb⟩;refine⟨_,rfl,?_⟩;replace HO_32:=kb_ HO_32 hb;replace HB:=Aside0.mk (below_step (bl_ HB).out hb);(try clear hb);(try clear hi)))
          go_ret
          exact⟨ew_,(bl_ HB).out⟩
         ·replace c33:=Bool.eq_false_iff.mpr c33
          subst c33
          have H1:(some (t554==0))=some r:=by rw[if_neg (show ¬(false=true) by decide)] at H;exact H
          clear H
          have H:=H1
          clear H1
          obtain rfl:=Option.some.inj H
          go_wp2_with (first|((with_reducible refine gate_callee (f:=12) rfl ?_);refine gl_ (some 59) Tryd.func12 #[.int .i64 a0] ?_;(with_reducible refine(rule_Cat_String.calls _ _ _ A30.out).mono ?_);rintro e w35 ⟨rfl,hb⟩;refine⟨_,rfl,?_⟩;replace HO_32:=kb_ HO_32 hb;replace HB:=Aside0.mk (below_step (bl_ HB).out hb);(try clear hb);(try clear hi)))
          go_ret
          exact⟨ew_,(bl_ HB).out⟩
 ·replace c4:=Bool.eq_false_iff.mpr c4
  subst c4
  have H1:(none)=some r:=by rw[if_neg (show ¬(false=true) by decide)] at H;exact H
  clear H
  have H:=H1
  clear H1
  exact absurd H (by simp)

/-- THE ONE PURE STATEMENT of florinlaw06_RuleWords: yours. -/
def florinlaw06_RuleWords.Pure:Prop:=∀(a0:Int) (a1:ByteArray),(Lit.int .i64 a0).wf=true→a1.size≤140737488351232→∃k,florinlaw06_RuleWords.f k a0 a1=some true
theorem florinlaw06_RuleWords.walk (P:florinlaw06_RuleWords.Pure) (a0:Int) (a1:ByteArray) (w:World) (w0:(Lit.int .i64 a0).wf=true) (w1:a1.size≤140737488351232) (ht:Lib.TabIs Tryd.prog w "internal/strconv.uint64pow10" .u64 Lib.pow10Tab) :
  Calls Tryd.prog 6 #[.int .i64 a0,.string a1] w fun e w'=>e= .returned (.bool true)∧Below w.heap.size w w':=by
 obtain⟨k,h⟩:=P a0 a1 w0 w1
 refine(florinlaw06_RuleWords.calls _ _ _ _ _ h).mono ?_
 rintro e w' ⟨rfl,hd⟩
 exact⟨rfl,hd⟩

end Go.Proofs.YtcokjmnkieakiaaDoor.P
