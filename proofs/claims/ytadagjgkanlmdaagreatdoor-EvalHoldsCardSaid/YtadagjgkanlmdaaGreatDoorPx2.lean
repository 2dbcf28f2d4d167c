import Derived.Test.YtadagjgkanlmdaaGreatDoorPx0
import Derived.Test.YtadagjgkanlmdaaGreatDoorPx1
namespace Go.Proofs.YtadagjgkanlmdaaGreatDoor.P
open Go.RowKit Go.Proofs.YtadagjgkanlmdaaGreatDoorW.PrintWords Go.Proofs.YtadagjgkanlmdaaGreatDoorW.PrintLast Go.Proofs.YtadagjgkanlmdaaGreatDoorW.PrintMore
attribute [local go_sem] max2_int min2_int max_two min_two max_three min_three max_four min_four
set_option maxHeartbeats 64000000
set_option maxRecDepth 100000
set_option linter.unusedVariables false
set_option linter.unusedSimpArgs false

def eval_within.l0:Nat→Int→List (S57)→Int→Int→Option (Bool)
 | 0,_,_,_,_=>none
 | k+1,x0,x7,x8,x9=>if x9<x8 then (if 0≤x9 then (if x9<(x7.length:Int) then (if x0≥((rd_T57 x7 x9).f0) then (if x0≤((rd_T57 x7 x9).f1) then (some true) else (eval_within.l0 k x0 x7 x8 (wrap64 (x9+1)))) else (eval_within.l0 k x0 x7 x8 (wrap64 (x9+1)))) else (none)) else (none)) else (some false)
def eval_within.f (k:Nat) (a0:Int) (l1:List (S57)):Option (Bool):=eval_within.l0 k a0 l1 (l1.length:Int) 0
theorem eval_within.calls (k:Nat) (a0:Int) (A1:Option Addr) (c1:Nat) (l1:List (S57)) (r:Bool) (w:World) (hr1:Kd.C k57 w A1 l1.length l1) (hc1:l1.length≤c1) (h:eval_within.f k a0 l1=some r) :
  Calls Tryz.prog 33 #[.int .i64 a0,.slice A1 l1.length c1] w fun e w'=>e= .returned (.bool r)∧Below w.heap.size w w':=by
 have hu57:=Tryz.underlying57
 have HR1:=am_ hr1
 have HC1:=am_ hc1
 clear hr1 hc1
 have HB:=am_ (Below.refl w.heap.size w)
 have H:=h
 clear h
 unfold eval_within.f at H
 have H':=am_ H
 clear H
 go_enter Tryz.func33,Tryz.ntmps33
 go_wp2
 go_loopg [9] k (fun kq v9 w'=>∃(x9_1:Int),v9= .int .i64 x9_1∧Aside0 (eval_within.l0 kq a0 l1 (l1.length:Int) x9_1=some r)∧Aside0 (kq≤k)∧Aside0 (Below w.heap.size w w'))
 case atStart=>exact⟨(0),eq_,H',⟨Nat.le_refl _⟩,(bl_ HB)⟩
 clear H'
 obtain⟨x9_1,rfl,HA,HK1,HB⟩:=hrel
 cases gk with
 | zero=>exact absurd HA.out (by simp[eval_within.l0])
 | succ k1=>?_
 have H:=HA.out
 clear HA
 simp only[eval_within.l0] at H
 by_cases c3:x9_1<(l1.length:Int)
 ·rw[if_pos c3] at H
  have c3b0:=decide_eq_true c3
  clear c3
  replace H:=ifn_ H
  obtain⟨c4,H⟩:=H
  have c4b0:decide (0≤x9_1)=true:=decide_eq_true c4
  clear c4
  replace H:=ifn_ H
  obtain⟨c5,H⟩:=H
  have c5b0:decide (x9_1<(l1.length:Int))=true:=decide_eq_true c5
  clear c5
  by_cases c6:a0≥((rd_T57 l1 x9_1).f0)
  ·rw[if_pos c6] at H
   have c6b0:decide (((rd_T57 l1 x9_1).f0)≤a0)=true:=decide_eq_true c6
   clear c6
   by_cases c7:a0≤((rd_T57 l1 x9_1).f1)
   ·rw[if_pos c7] at H
    have c7b0:=decide_eq_true c7
    clear c7
    obtain rfl:=Option.some.inj H
    have p138:0≤(x9_1:Int):=od_
    have q138:x9_1<(l1.length:Int):=od_
    obtain⟨ad138,e138,hx138_0,hx138_1⟩:=at_T57 HR1.out x9_1 p138 q138
    cases e138
    replace hx138_0:=hbc_ HB hx138_0
    replace hx138_1:=hbc_ HB hx138_1
    replace p138:=eq_true p138
    replace q138:=eq_true q138
    go_wp2_with (first|((with_reducible refine gate_dst (N:=6) rfl ?_);refine be_ 6 #[.int .i64 0,.int .i64 0] 57 ?_;intro gb139 hg w8 hbox hb;have BK139:=am_ (hbox);have GW139:=sz_ HB hg;have GE139:=sz_ HB hg;replace HB:=am_ (below_step (bl_ HB).out hb);clear hb hbox hg;obtain⟨hcz9_0,hcz9_1,hfz9_0,hfz9_1⟩:=bo2_ BK139))
    go_ret
    exact⟨ew_,(bl_ HB).out⟩
   rw[if_neg c7] at H
   have c7b0:=decide_eq_false c7
   clear c7
   have H':=am_ H
   clear H
   have p138:0≤(x9_1:Int):=od_
   have q138:x9_1<(l1.length:Int):=od_
   obtain⟨ad138,e138,hx138_0,hx138_1⟩:=at_T57 HR1.out x9_1 p138 q138
   cases e138
   replace hx138_0:=hbc_ HB hx138_0
   replace hx138_1:=hbc_ HB hx138_1
   replace p138:=eq_true p138
   replace q138:=eq_true q138
   go_wp2_with (first|((with_reducible refine gate_dst (N:=6) rfl ?_);refine be_ 6 #[.int .i64 0,.int .i64 0] 57 ?_;intro gb139 hg w10 hbox hb;have BK139:=am_ (hbox);have GW139:=sz_ HB hg;have GE139:=sz_ HB hg;replace HB:=am_ (below_step (bl_ HB).out hb);clear hb hbox hg;obtain⟨hcz11_0,hcz11_1,hfz11_0,hfz11_1⟩:=bo2_ BK139))
   go_roundg k1
   case measure=>have:=HK1.out;omega
   case rel=>exact⟨(wrap64 (x9_1+1)),eq_,H',⟨by have:=HK1.out;omega⟩,(bl_ HB)⟩
  rw[if_neg c6] at H
  have c6b0:decide (((rd_T57 l1 x9_1).f0)≤a0)=false:=decide_eq_false c6
  clear c6
  have H':=am_ H
  clear H
  have p138:0≤(x9_1:Int):=od_
  have q138:x9_1<(l1.length:Int):=od_
  obtain⟨ad138,e138,hx138_0,hx138_1⟩:=at_T57 HR1.out x9_1 p138 q138
  cases e138
  replace hx138_0:=hbc_ HB hx138_0
  replace hx138_1:=hbc_ HB hx138_1
  replace p138:=eq_true p138
  replace q138:=eq_true q138
  go_wp2_with (first|((with_reducible refine gate_dst (N:=6) rfl ?_);refine be_ 6 #[.int .i64 0,.int .i64 0] 57 ?_;intro gb139 hg w12 hbox hb;have BK139:=am_ (hbox);have GW139:=sz_ HB hg;have GE139:=sz_ HB hg;replace HB:=am_ (below_step (bl_ HB).out hb);clear hb hbox hg;obtain⟨hcz13_0,hcz13_1,hfz13_0,hfz13_1⟩:=bo2_ BK139))
  go_roundg k1
  case measure=>have:=HK1.out;omega
  case rel=>exact⟨(wrap64 (x9_1+1)),eq_,H',⟨by have:=HK1.out;omega⟩,(bl_ HB)⟩
 rw[if_neg c3] at H
 have c3b0:=decide_eq_false c3
 clear c3
 obtain rfl:=Option.some.inj H
 go_wp2
 go_ret
 exact⟨ew_,(bl_ HB).out⟩

theorem num_Int.below_bytes (B:Nat) (w W:World) (u:ByteArray) (h:Below B w W) (hB:B≤W.heap.size):Below B w (Lib.bytesWorld W 5 u) :=
  h.trans ⟨rfl,rfl,rfl,by rw[Lib.bytesWorld_size];omega,fun k hk=>Lib.bytesWorld_at_old _ _ _ k (by omega)⟩
theorem num_Int.ret_ {k:IntKind} {a b:Int} (h:a=b):Value.int k a= .int k b:=by rw[h]
def num_Int.step (n:Int) (c:UInt8):Int:=wrap64 (wrap64 (10*n)+((c.toNat:Int)-48)%256)
def num_Int.go (l:List UInt8):Int:=l.foldl num_Int.step 0
theorem num_Int.go_take (s:ByteArray) (k:Nat) (h:k<s.size):num_Int.go (s.data.toList.take (k+1))=num_Int.step (num_Int.go (s.data.toList.take k)) (s.data.toList.getD k 0):=by
  unfold num_Int.go
  have h':k<s.data.toList.length:=by simpa using h
  rw[List.take_succ_eq_append_getElem h',List.foldl_append]
  simp only[List.foldl_cons,List.foldl_nil,List.getD_eq_getElem?_getD,List.getElem?_eq_getElem h',Option.getD_some]
def num_Int.f (k:Nat) (a0:ByteArray):Option (Int × Bool):=(num_Is.f k a0).bind fun t=>if t=true then (num_Trim.f k a0).bind fun u=>(if 18<u.size then some (0,false) else some (num_Int.go u.data.toList,true)) else some (0,false)
set_option maxHeartbeats 1000000 in
theorem num_Int.calls (k:Nat) (a0:ByteArray) (r1:Int) (r2:Bool) (w:World) (h:num_Int.f k a0=some (r1,r2)) :
    Calls Tryz.prog 34 #[.string a0] w fun e w'=>e= .returned (.tuple #[.int .i64 r1,.bool r2])∧Below w.heap.size w w':=by
  unfold num_Int.f at h
  replace h:=Option.bind_eq_some_iff.mp h
  obtain⟨t,h1,h⟩:=h
  have h1':=am_ h1
  clear h1
  cases t with
  | false =>
    rw[if_neg (by decide)] at h
    simp only[Option.some.injEq,Prod.mk.injEq] at h
    obtain⟨rfl,rfl⟩:=h
    go_enter Tryz.func34,Tryz.ntmps34
    go_wp2_with (go_at_call 40;refine(num_Is.calls k a0 _ _ h1'.out).mono ?_;rintro e w' ⟨rfl,⟨m,rfl⟩⟩)
    go_ret2
    exact⟨rfl,pw_below_drewN (Below.refl _ _) m⟩
  | true =>
    rw[if_pos rfl] at h
    replace h:=Option.bind_eq_some_iff.mp h
    obtain⟨u,h2,h⟩:=h
    have h2':=am_ h2
    clear h2
    by_cases h18:18<u.size
    · rw[if_pos h18] at h
      simp only[Option.some.injEq,Prod.mk.injEq] at h
      obtain⟨rfl,rfl⟩:=h
      have d18:decide ((18:Int)<(u.size:Int))=true:=decide_eq_true (by omega)
      clear h18
      go_enter Tryz.func34,Tryz.ntmps34
      go_wp2_with (first|(go_at_call 40;refine(num_Is.calls k a0 _ _ h1'.out).mono ?_;rintro e w' ⟨rfl,⟨m,rfl⟩⟩)|(go_at_call 25;refine(num_Trim.calls k a0 _ _ h2'.out).mono ?_;rintro e w' ⟨rfl,⟨m,rfl⟩⟩))
      go_ret2
      exact⟨rfl,by repeat(first|exact Below.refl _ _|apply pw_below_drewN)⟩
    · rw[if_neg h18] at h
      simp only[Option.some.injEq,Prod.mk.injEq] at h
      obtain⟨rfl,rfl⟩:=h
      have d18:decide ((18:Int)<(u.size:Int))=false:=decide_eq_false (by omega)
      clear h18
      have hcv:=fun w:World=>Lib.run_convert_string_bytes (P:=Tryz.prog) w 9 23 5 u Tryz.underlying9 Tryz.underlying23 Tryz.underlying5
      go_enter Tryz.func34,Tryz.ntmps34
      go_wp2_with (first|(go_at_call 40;refine(num_Is.calls k a0 _ _ h1'.out).mono ?_;rintro e w' ⟨rfl,⟨m,rfl⟩⟩)|(go_at_call 25;refine(num_Trim.calls k a0 _ _ h2'.out).mono ?_;rintro e w' ⟨rfl,⟨m',rfl⟩⟩))
      have hu:u.size≤18:=by have:=of_decide_eq_false d18;omega
      rename_i q _ _
      obtain⟨W,hW⟩:∃W,Lib.bytesWorld (w.drewN (m+q+m')) 5 u=W:=⟨_,rfl⟩
      have hcell:∀j,j<u.size→W.cell? ⟨w.heap.size,j,none⟩=some (.int .u8 (u.data.toList.getD j 0).toNat):=by
        intro j hj
        rw[← hW]
        exact Lib.bytesWorld_cell (w.drewN _) 5 u j hj
      have hB:Below w.heap.size w W:=by
        rw[← hW]
        exact num_Int.below_bytes _ _ _ _ (pw_below_drewN (Below.refl _ _) _) (Nat.le_refl _)
      rw[hW]
      clear hW hcv d18
      go_loop [4,20] (fun n i=>∃j:Nat,j≤u.size∧i= .int .i64 j∧n= .int .i64 (num_Int.go (u.data.toList.take j))) (fun _ i=>u.size-(intOf i).toNat)
      case atStart=>exact⟨0,Nat.zero_le _,rfl,rfl⟩
      case round =>
        obtain⟨j,hj,rfl,rfl⟩:=hrel
        by_cases hlt:j<u.size
        · have hc:=hcell j hlt
          have hg:=am_ (num_Int.go_take u j hlt)
          obtain⟨c,hcc⟩:∃c:UInt8,u.data.toList.getD j 0=c:=⟨_,rfl⟩
          rw[hcc] at hc hg
          clear hcc
          have hd:decide (j<u.size)=true:=decide_eq_true hlt
          have hHB:=am_ hB
          have hlt':=am_ hlt
          clear hcell hB hd
          go_wp2
          go_round
          case rel=>exact⟨j+1,by have:=hlt'.out;omega,by have:=hlt'.out;go_num,by rw[hg.out];exact num_Int.ret_ (by unfold num_Int.step;try simp only[i64_w])⟩
          case measure=>have:=hlt'.out;simp[intOf];omega
        · have hHB:=am_ hB
          clear hcell hB
          go_wp2
          go_ret2
          exact⟨by rw[List.take_of_length_le (by simp;omega)];rfl,hHB.out⟩

def eval_Holds.f (k:Nat) (a0_0:Int) (a0_1:Int) (a0_2:Bool) (l0_3:List (S57)) (a1_0:ByteArray) (a1_1:ByteArray) (a1_2:Int):Option (Bool):=(eval_value.f k a0_0 a1_0 a1_1 a1_2).bind fun bt142=>(if a0_1>0 then ((num_Div.f k bt142.1 a0_1).bind fun bt144=>((eval_within.f k bt144.2 l0_3).bind fun t146=>(if bt142.2=true then (some (t146 !=a0_2)) else (some (false !=a0_2))))) else ((num_Int.f k bt142.1).bind fun bt147=>(if bt147.2=true then ((eval_within.f k bt147.1 l0_3).bind fun t149=>(if bt142.2=true then (some (t149 !=a0_2)) else (some (false !=a0_2)))) else (if bt142.2=true then (some (false !=a0_2)) else (some (false !=a0_2))))))
theorem eval_Holds.calls (k:Nat) (a0_0:Int) (a0_1:Int) (a0_2:Bool) (A0_3:Option Addr) (c0_3:Nat) (l0_3:List (S57)) (a1_0:ByteArray) (a1_1:ByteArray) (a1_2:Int) (r:Bool) (w:World) (hr0_3:Kd.C k57 w A0_3 l0_3.length l0_3) (hc0_3:l0_3.length≤c0_3) (h:eval_Holds.f k a0_0 a0_1 a0_2 l0_3 a1_0 a1_1 a1_2=some r) :
  Calls Tryz.prog 15 #[.agg #[.int .u8 a0_0,.int .i64 a0_1,.bool a0_2,.slice A0_3 l0_3.length c0_3],.agg #[.string a1_0,.string a1_1,.int .i64 a1_2]] w fun e w'=>e= .returned (.bool r)∧Below w.heap.size w w':=by
 have hu53:=Tryz.underlying53
 have hu27:=Tryz.underlying27
 have HR0_3:=am_ hr0_3
 have HC0_3:=am_ hc0_3
 clear hr0_3 hc0_3
 have HB:=am_ (Below.refl w.heap.size w)
 have H:=h
 clear h
 unfold eval_Holds.f at H
 replace H:=Option.bind_eq_some_iff.mp H
 obtain⟨⟨t142,t143⟩,A30,H⟩:=H
 dsimp only at H
 have A3:=am_ A30
 clear A30
 by_cases c4:a0_1>0
 ·rw[if_pos c4] at H
  have c4b0:decide (0<a0_1)=true:=decide_eq_true c4
  clear c4
  replace H:=Option.bind_eq_some_iff.mp H
  obtain⟨⟨t144,t145⟩,A50,H⟩:=H
  dsimp only at H
  have A5:=am_ A50
  clear A50
  replace H:=Option.bind_eq_some_iff.mp H
  obtain⟨t146,A60,H⟩:=H
  have A6:=am_ A60
  clear A60
  by_cases c7:t143=true
  ·subst c7
   rw[if_pos rfl] at H
   obtain rfl:=Option.some.inj H
   go_enter Tryz.func15,Tryz.ntmps15
   go_wp2_with (first|((with_reducible refine gate_dst (N:=2) rfl ?_);refine be_ 2 #[.int .u8 a0_0,.int .i64 a0_1,.bool a0_2,.slice A0_3 l0_3.length c0_3] 53 ?_;intro gb140 hg w8 hbox hb;have BK140:=am_ (hbox);have GW140:=sz_ HB hg;have GE140:=sz_ HB hg;replace HB:=am_ (below_step (bl_ HB).out hb);clear hb hbox hg)|((with_reducible refine gate_dst (N:=3) rfl ?_);refine be_ 3 #[.string a1_0,.string a1_1,.int .i64 a1_2] 27 ?_;intro gb141 hg w9 hbox hb;have BK141:=am_ (hbox);have GW141:=sz_ HB hg;have GE141:=sz_ HB hg;have NB140_141:=na_ BK140 hg;have NB141_140:=nb_ BK140 hg;replace BK140:=bb_ BK140 hb;replace HB:=am_ (below_step (bl_ HB).out hb);clear hb hbox hg;have hnb10:=NB140_141.out;have hnc10:=NB141_140.out;obtain⟨hcz11_0,hcz11_1,hcz11_2,hcz11_3,hfz11_0,hfz11_1,hfz11_2,hfz11_3⟩:=bo4_ BK140;obtain⟨hcz12_0,hcz12_1,hcz12_2,hfz12_0,hfz12_1,hfz12_2⟩:=bo3_ BK141)|((with_reducible refine gate_callee (f:=31) rfl ?_);refine gl_ (some 16) Tryz.func31 #[.int .u8 a0_0,.agg #[.string a1_0,.string a1_1,.int .i64 a1_2]] ?_;(with_reducible refine(eval_value.calls _ _ _ _ _ _ _ _ A3.out).mono ?_);rintro e w13 ⟨rfl,hb⟩;refine⟨_,rfl,?_⟩;replace BK140:=bb_ BK140 hb;replace BK141:=bb_ BK141 hb;replace HB:=am_ (below_step (bl_ HB).out hb);(try clear hb);obtain⟨hcz14_0,hcz14_1,hcz14_2,hcz14_3,hfz14_0,hfz14_1,hfz14_2,hfz14_3⟩:=bo4_ BK140)|((with_reducible refine gate_callee (f:=32) rfl ?_);refine gl_ (some 26) Tryz.func32 #[.string t142,.int .i64 a0_1] ?_;(with_reducible refine(num_Div.calls _ _ _ _ _ _ A5.out).mono ?_);rintro e w15 ⟨rfl,hb⟩;refine⟨_,rfl,?_⟩;replace BK140:=bb_ BK140 hb;replace BK141:=bb_ BK141 hb;replace HB:=am_ (below_step (bl_ HB).out hb);(try clear hb);obtain⟨hcz16_0,hcz16_1,hcz16_2,hcz16_3,hfz16_0,hfz16_1,hfz16_2,hfz16_3⟩:=bo4_ BK140)|((with_reducible refine gate_callee (f:=33) rfl ?_);refine gl_ (some 32) Tryz.func33 #[.int .i64 t145,.slice A0_3 l0_3.length c0_3] ?_;(with_reducible refine(eval_within.calls _ _ _ _ _ _ _ ?side1 ?side2 A6.out).mono ?_);(case side1=>repeat(first|exact(Kd.C_below HR0_3.out HB.out)|(with_reducible refine Kd.C_alloc ?_ _)|(with_reducible refine Kd.C_drewN ?_ _)|(with_reducible refine Kd.C_drew ?_)));(case side2=>exact HC0_3.out);rintro e w17 ⟨rfl,hb⟩;refine⟨_,rfl,?_⟩;replace BK140:=bb_ BK140 hb;replace BK141:=bb_ BK141 hb;replace HB:=am_ (below_step (bl_ HB).out hb);(try clear hb);obtain⟨hcz18_0,hcz18_1,hcz18_2,hcz18_3,hfz18_0,hfz18_1,hfz18_2,hfz18_3⟩:=bo4_ BK140))
   go_ret
   exact⟨ew_,(bl_ HB).out⟩
  replace c7:=Bool.eq_false_iff.mpr c7
  subst c7
  rw[if_neg (show ¬(false=true) by decide)] at H
  obtain rfl:=Option.some.inj H
  go_enter Tryz.func15,Tryz.ntmps15
  go_wp2_with (first|((with_reducible refine gate_dst (N:=2) rfl ?_);refine be_ 2 #[.int .u8 a0_0,.int .i64 a0_1,.bool a0_2,.slice A0_3 l0_3.length c0_3] 53 ?_;intro gb140 hg w19 hbox hb;have BK140:=am_ (hbox);have GW140:=sz_ HB hg;have GE140:=sz_ HB hg;replace HB:=am_ (below_step (bl_ HB).out hb);clear hb hbox hg)|((with_reducible refine gate_dst (N:=3) rfl ?_);refine be_ 3 #[.string a1_0,.string a1_1,.int .i64 a1_2] 27 ?_;intro gb141 hg w20 hbox hb;have BK141:=am_ (hbox);have GW141:=sz_ HB hg;have GE141:=sz_ HB hg;have NB140_141:=na_ BK140 hg;have NB141_140:=nb_ BK140 hg;replace BK140:=bb_ BK140 hb;replace HB:=am_ (below_step (bl_ HB).out hb);clear hb hbox hg;have hnb21:=NB140_141.out;have hnc21:=NB141_140.out;obtain⟨hcz22_0,hcz22_1,hcz22_2,hcz22_3,hfz22_0,hfz22_1,hfz22_2,hfz22_3⟩:=bo4_ BK140;obtain⟨hcz23_0,hcz23_1,hcz23_2,hfz23_0,hfz23_1,hfz23_2⟩:=bo3_ BK141)|((with_reducible refine gate_callee (f:=31) rfl ?_);refine gl_ (some 16) Tryz.func31 #[.int .u8 a0_0,.agg #[.string a1_0,.string a1_1,.int .i64 a1_2]] ?_;(with_reducible refine(eval_value.calls _ _ _ _ _ _ _ _ A3.out).mono ?_);rintro e w24 ⟨rfl,hb⟩;refine⟨_,rfl,?_⟩;replace BK140:=bb_ BK140 hb;replace BK141:=bb_ BK141 hb;replace HB:=am_ (below_step (bl_ HB).out hb);(try clear hb);obtain⟨hcz25_0,hcz25_1,hcz25_2,hcz25_3,hfz25_0,hfz25_1,hfz25_2,hfz25_3⟩:=bo4_ BK140)|((with_reducible refine gate_callee (f:=32) rfl ?_);refine gl_ (some 26) Tryz.func32 #[.string t142,.int .i64 a0_1] ?_;(with_reducible refine(num_Div.calls _ _ _ _ _ _ A5.out).mono ?_);rintro e w26 ⟨rfl,hb⟩;refine⟨_,rfl,?_⟩;replace BK140:=bb_ BK140 hb;replace BK141:=bb_ BK141 hb;replace HB:=am_ (below_step (bl_ HB).out hb);(try clear hb);obtain⟨hcz27_0,hcz27_1,hcz27_2,hcz27_3,hfz27_0,hfz27_1,hfz27_2,hfz27_3⟩:=bo4_ BK140)|((with_reducible refine gate_callee (f:=33) rfl ?_);refine gl_ (some 32) Tryz.func33 #[.int .i64 t145,.slice A0_3 l0_3.length c0_3] ?_;(with_reducible refine(eval_within.calls _ _ _ _ _ _ _ ?side1 ?side2 A6.out).mono ?_);(case side1=>repeat(first|exact(Kd.C_below HR0_3.out HB.out)|(with_reducible refine Kd.C_alloc ?_ _)|(with_reducible refine Kd.C_drewN ?_ _)|(with_reducible refine Kd.C_drew ?_)));(case side2=>exact HC0_3.out);rintro e w28 ⟨rfl,hb⟩;refine⟨_,rfl,?_⟩;replace BK140:=bb_ BK140 hb;replace BK141:=bb_ BK141 hb;replace HB:=am_ (below_step (bl_ HB).out hb);(try clear hb);obtain⟨hcz29_0,hcz29_1,hcz29_2,hcz29_3,hfz29_0,hfz29_1,hfz29_2,hfz29_3⟩:=bo4_ BK140))
  go_ret
  exact⟨ew_,(bl_ HB).out⟩
 rw[if_neg c4] at H
 have c4b0:decide (0<a0_1)=false:=decide_eq_false c4
 clear c4
 replace H:=Option.bind_eq_some_iff.mp H
 obtain⟨⟨t147,t148⟩,A300,H⟩:=H
 dsimp only at H
 have A30:=am_ A300
 clear A300
 by_cases c31:t148=true
 ·subst c31
  rw[if_pos rfl] at H
  replace H:=Option.bind_eq_some_iff.mp H
  obtain⟨t149,A320,H⟩:=H
  have A32:=am_ A320
  clear A320
  by_cases c33:t143=true
  ·subst c33
   rw[if_pos rfl] at H
   obtain rfl:=Option.some.inj H
   go_enter Tryz.func15,Tryz.ntmps15
   go_wp2_with (first|((with_reducible refine gate_dst (N:=2) rfl ?_);refine be_ 2 #[.int .u8 a0_0,.int .i64 a0_1,.bool a0_2,.slice A0_3 l0_3.length c0_3] 53 ?_;intro gb140 hg w34 hbox hb;have BK140:=am_ (hbox);have GW140:=sz_ HB hg;have GE140:=sz_ HB hg;replace HB:=am_ (below_step (bl_ HB).out hb);clear hb hbox hg)|((with_reducible refine gate_dst (N:=3) rfl ?_);refine be_ 3 #[.string a1_0,.string a1_1,.int .i64 a1_2] 27 ?_;intro gb141 hg w35 hbox hb;have BK141:=am_ (hbox);have GW141:=sz_ HB hg;have GE141:=sz_ HB hg;have NB140_141:=na_ BK140 hg;have NB141_140:=nb_ BK140 hg;replace BK140:=bb_ BK140 hb;replace HB:=am_ (below_step (bl_ HB).out hb);clear hb hbox hg;have hnb36:=NB140_141.out;have hnc36:=NB141_140.out;obtain⟨hcz37_0,hcz37_1,hcz37_2,hcz37_3,hfz37_0,hfz37_1,hfz37_2,hfz37_3⟩:=bo4_ BK140;obtain⟨hcz38_0,hcz38_1,hcz38_2,hfz38_0,hfz38_1,hfz38_2⟩:=bo3_ BK141)|((with_reducible refine gate_callee (f:=31) rfl ?_);refine gl_ (some 16) Tryz.func31 #[.int .u8 a0_0,.agg #[.string a1_0,.string a1_1,.int .i64 a1_2]] ?_;(with_reducible refine(eval_value.calls _ _ _ _ _ _ _ _ A3.out).mono ?_);rintro e w39 ⟨rfl,hb⟩;refine⟨_,rfl,?_⟩;replace BK140:=bb_ BK140 hb;replace BK141:=bb_ BK141 hb;replace HB:=am_ (below_step (bl_ HB).out hb);(try clear hb);obtain⟨hcz40_0,hcz40_1,hcz40_2,hcz40_3,hfz40_0,hfz40_1,hfz40_2,hfz40_3⟩:=bo4_ BK140)|((with_reducible refine gate_callee (f:=34) rfl ?_);refine gl_ (some 35) Tryz.func34 #[.string t142] ?_;(with_reducible refine(num_Int.calls _ _ _ _ _ A30.out).mono ?_);rintro e w41 ⟨rfl,hb⟩;refine⟨_,rfl,?_⟩;replace BK140:=bb_ BK140 hb;replace BK141:=bb_ BK141 hb;replace HB:=am_ (below_step (bl_ HB).out hb);(try clear hb);obtain⟨hcz42_0,hcz42_1,hcz42_2,hcz42_3,hfz42_0,hfz42_1,hfz42_2,hfz42_3⟩:=bo4_ BK140)|((with_reducible refine gate_callee (f:=33) rfl ?_);refine gl_ (some 42) Tryz.func33 #[.int .i64 t147,.slice A0_3 l0_3.length c0_3] ?_;(with_reducible refine(eval_within.calls _ _ _ _ _ _ _ ?side1 ?side2 A32.out).mono ?_);(case side1=>repeat(first|exact(Kd.C_below HR0_3.out HB.out)|(with_reducible refine Kd.C_alloc ?_ _)|(with_reducible refine Kd.C_drewN ?_ _)|(with_reducible refine Kd.C_drew ?_)));(case side2=>exact HC0_3.out);rintro e w43 ⟨rfl,hb⟩;refine⟨_,rfl,?_⟩;replace BK140:=bb_ BK140 hb;replace BK141:=bb_ BK141 hb;replace HB:=am_ (below_step (bl_ HB).out hb);(try clear hb);obtain⟨hcz44_0,hcz44_1,hcz44_2,hcz44_3,hfz44_0,hfz44_1,hfz44_2,hfz44_3⟩:=bo4_ BK140))
   go_ret
   exact⟨ew_,(bl_ HB).out⟩
  replace c33:=Bool.eq_false_iff.mpr c33
  subst c33
  rw[if_neg (show ¬(false=true) by decide)] at H
  obtain rfl:=Option.some.inj H
  go_enter Tryz.func15,Tryz.ntmps15
  go_wp2_with (first|((with_reducible refine gate_dst (N:=2) rfl ?_);refine be_ 2 #[.int .u8 a0_0,.int .i64 a0_1,.bool a0_2,.slice A0_3 l0_3.length c0_3] 53 ?_;intro gb140 hg w45 hbox hb;have BK140:=am_ (hbox);have GW140:=sz_ HB hg;have GE140:=sz_ HB hg;replace HB:=am_ (below_step (bl_ HB).out hb);clear hb hbox hg)|((with_reducible refine gate_dst (N:=3) rfl ?_);refine be_ 3 #[.string a1_0,.string a1_1,.int .i64 a1_2] 27 ?_;intro gb141 hg w46 hbox hb;have BK141:=am_ (hbox);have GW141:=sz_ HB hg;have GE141:=sz_ HB hg;have NB140_141:=na_ BK140 hg;have NB141_140:=nb_ BK140 hg;replace BK140:=bb_ BK140 hb;replace HB:=am_ (below_step (bl_ HB).out hb);clear hb hbox hg;have hnb47:=NB140_141.out;have hnc47:=NB141_140.out;obtain⟨hcz48_0,hcz48_1,hcz48_2,hcz48_3,hfz48_0,hfz48_1,hfz48_2,hfz48_3⟩:=bo4_ BK140;obtain⟨hcz49_0,hcz49_1,hcz49_2,hfz49_0,hfz49_1,hfz49_2⟩:=bo3_ BK141)|((with_reducible refine gate_callee (f:=31) rfl ?_);refine gl_ (some 16) Tryz.func31 #[.int .u8 a0_0,.agg #[.string a1_0,.string a1_1,.int .i64 a1_2]] ?_;(with_reducible refine(eval_value.calls _ _ _ _ _ _ _ _ A3.out).mono ?_);rintro e w50 ⟨rfl,hb⟩;refine⟨_,rfl,?_⟩;replace BK140:=bb_ BK140 hb;replace BK141:=bb_ BK141 hb;replace HB:=am_ (below_step (bl_ HB).out hb);(try clear hb);obtain⟨hcz51_0,hcz51_1,hcz51_2,hcz51_3,hfz51_0,hfz51_1,hfz51_2,hfz51_3⟩:=bo4_ BK140)|((with_reducible refine gate_callee (f:=34) rfl ?_);refine gl_ (some 35) Tryz.func34 #[.string t142] ?_;(with_reducible refine(num_Int.calls _ _ _ _ _ A30.out).mono ?_);rintro e w52 ⟨rfl,hb⟩;refine⟨_,rfl,?_⟩;replace BK140:=bb_ BK140 hb;replace BK141:=bb_ BK141 hb;replace HB:=am_ (below_step (bl_ HB).out hb);(try clear hb);obtain⟨hcz53_0,hcz53_1,hcz53_2,hcz53_3,hfz53_0,hfz53_1,hfz53_2,hfz53_3⟩:=bo4_ BK140)|((with_reducible refine gate_callee (f:=33) rfl ?_);refine gl_ (some 42) Tryz.func33 #[.int .i64 t147,.slice A0_3 l0_3.length c0_3] ?_;(with_reducible refine(eval_within.calls _ _ _ _ _ _ _ ?side1 ?side2 A32.out).mono ?_);(case side1=>repeat(first|exact(Kd.C_below HR0_3.out HB.out)|(with_reducible refine Kd.C_alloc ?_ _)|(with_reducible refine Kd.C_drewN ?_ _)|(with_reducible refine Kd.C_drew ?_)));(case side2=>exact HC0_3.out);rintro e w54 ⟨rfl,hb⟩;refine⟨_,rfl,?_⟩;replace BK140:=bb_ BK140 hb;replace BK141:=bb_ BK141 hb;replace HB:=am_ (below_step (bl_ HB).out hb);(try clear hb);obtain⟨hcz55_0,hcz55_1,hcz55_2,hcz55_3,hfz55_0,hfz55_1,hfz55_2,hfz55_3⟩:=bo4_ BK140))
  go_ret
  exact⟨ew_,(bl_ HB).out⟩
 replace c31:=Bool.eq_false_iff.mpr c31
 subst c31
 rw[if_neg (show ¬(false=true) by decide)] at H
 by_cases c56:t143=true
 ·subst c56
  rw[if_pos rfl] at H
  obtain rfl:=Option.some.inj H
  go_enter Tryz.func15,Tryz.ntmps15
  go_wp2_with (first|((with_reducible refine gate_dst (N:=2) rfl ?_);refine be_ 2 #[.int .u8 a0_0,.int .i64 a0_1,.bool a0_2,.slice A0_3 l0_3.length c0_3] 53 ?_;intro gb140 hg w57 hbox hb;have BK140:=am_ (hbox);have GW140:=sz_ HB hg;have GE140:=sz_ HB hg;replace HB:=am_ (below_step (bl_ HB).out hb);clear hb hbox hg)|((with_reducible refine gate_dst (N:=3) rfl ?_);refine be_ 3 #[.string a1_0,.string a1_1,.int .i64 a1_2] 27 ?_;intro gb141 hg w58 hbox hb;have BK141:=am_ (hbox);have GW141:=sz_ HB hg;have GE141:=sz_ HB hg;have NB140_141:=na_ BK140 hg;have NB141_140:=nb_ BK140 hg;replace BK140:=bb_ BK140 hb;replace HB:=am_ (below_step (bl_ HB).out hb);clear hb hbox hg;have hnb59:=NB140_141.out;have hnc59:=NB141_140.out;obtain⟨hcz60_0,hcz60_1,hcz60_2,hcz60_3,hfz60_0,hfz60_1,hfz60_2,hfz60_3⟩:=bo4_ BK140;obtain⟨hcz61_0,hcz61_1,hcz61_2,hfz61_0,hfz61_1,hfz61_2⟩:=bo3_ BK141)|((with_reducible refine gate_callee (f:=31) rfl ?_);refine gl_ (some 16) Tryz.func31 #[.int .u8 a0_0,.agg #[.string a1_0,.string a1_1,.int .i64 a1_2]] ?_;(with_reducible refine(eval_value.calls _ _ _ _ _ _ _ _ A3.out).mono ?_);rintro e w62 ⟨rfl,hb⟩;refine⟨_,rfl,?_⟩;replace BK140:=bb_ BK140 hb;replace BK141:=bb_ BK141 hb;replace HB:=am_ (below_step (bl_ HB).out hb);(try clear hb);obtain⟨hcz63_0,hcz63_1,hcz63_2,hcz63_3,hfz63_0,hfz63_1,hfz63_2,hfz63_3⟩:=bo4_ BK140)|((with_reducible refine gate_callee (f:=34) rfl ?_);refine gl_ (some 35) Tryz.func34 #[.string t142] ?_;(with_reducible refine(num_Int.calls _ _ _ _ _ A30.out).mono ?_);rintro e w64 ⟨rfl,hb⟩;refine⟨_,rfl,?_⟩;replace BK140:=bb_ BK140 hb;replace BK141:=bb_ BK141 hb;replace HB:=am_ (below_step (bl_ HB).out hb);(try clear hb);obtain⟨hcz65_0,hcz65_1,hcz65_2,hcz65_3,hfz65_0,hfz65_1,hfz65_2,hfz65_3⟩:=bo4_ BK140))
  go_ret
  exact⟨ew_,(bl_ HB).out⟩
 replace c56:=Bool.eq_false_iff.mpr c56
 subst c56
 rw[if_neg (show ¬(false=true) by decide)] at H
 obtain rfl:=Option.some.inj H
 go_enter Tryz.func15,Tryz.ntmps15
 go_wp2_with (first|((with_reducible refine gate_dst (N:=2) rfl ?_);refine be_ 2 #[.int .u8 a0_0,.int .i64 a0_1,.bool a0_2,.slice A0_3 l0_3.length c0_3] 53 ?_;intro gb140 hg w66 hbox hb;have BK140:=am_ (hbox);have GW140:=sz_ HB hg;have GE140:=sz_ HB hg;replace HB:=am_ (below_step (bl_ HB).out hb);clear hb hbox hg)|((with_reducible refine gate_dst (N:=3) rfl ?_);refine be_ 3 #[.string a1_0,.string a1_1,.int .i64 a1_2] 27 ?_;intro gb141 hg w67 hbox hb;have BK141:=am_ (hbox);have GW141:=sz_ HB hg;have GE141:=sz_ HB hg;have NB140_141:=na_ BK140 hg;have NB141_140:=nb_ BK140 hg;replace BK140:=bb_ BK140 hb;replace HB:=am_ (below_step (bl_ HB).out hb);clear hb hbox hg;have hnb68:=NB140_141.out;have hnc68:=NB141_140.out;obtain⟨hcz69_0,hcz69_1,hcz69_2,hcz69_3,hfz69_0,hfz69_1,hfz69_2,hfz69_3⟩:=bo4_ BK140;obtain⟨hcz70_0,hcz70_1,hcz70_2,hfz70_0,hfz70_1,hfz70_2⟩:=bo3_ BK141)|((with_reducible refine gate_callee (f:=31) rfl ?_);refine gl_ (some 16) Tryz.func31 #[.int .u8 a0_0,.agg #[.string a1_0,.string a1_1,.int .i64 a1_2]] ?_;(with_reducible refine(eval_value.calls _ _ _ _ _ _ _ _ A3.out).mono ?_);rintro e w71 ⟨rfl,hb⟩;refine⟨_,rfl,?_⟩;replace BK140:=bb_ BK140 hb;replace BK141:=bb_ BK141 hb;replace HB:=am_ (below_step (bl_ HB).out hb);(try clear hb);obtain⟨hcz72_0,hcz72_1,hcz72_2,hcz72_3,hfz72_0,hfz72_1,hfz72_2,hfz72_3⟩:=bo4_ BK140)|((with_reducible refine gate_callee (f:=34) rfl ?_);refine gl_ (some 35) Tryz.func34 #[.string t142] ?_;(with_reducible refine(num_Int.calls _ _ _ _ _ A30.out).mono ?_);rintro e w73 ⟨rfl,hb⟩;refine⟨_,rfl,?_⟩;replace BK140:=bb_ BK140 hb;replace BK141:=bb_ BK141 hb;replace HB:=am_ (below_step (bl_ HB).out hb);(try clear hb);obtain⟨hcz74_0,hcz74_1,hcz74_2,hcz74_3,hfz74_0,hfz74_1,hfz74_2,hfz74_3⟩:=bo4_ BK140))
 go_ret
 exact⟨ew_,(bl_ HB).out⟩

def eval_all.l0:Nat→List (S53)→Int→Int→ByteArray→ByteArray→Int→Option (Bool)
 | 0,_,_,_,_,_,_=>none
 | k+1,x7,x8,x9,x151000,x151001,x151002=>if x9<x8 then (if 0≤x9 then (if x9<(x7.length:Int) then ((eval_Holds.f k ((rd_T53 x7 x9).f0) ((rd_T53 x7 x9).f1) ((rd_T53 x7 x9).f2) ((rd_T53 x7 x9).f3) x151000 x151001 x151002).bind fun t153=>(if t153=true then (eval_all.l0 k x7 x8 (wrap64 (x9+1)) x151000 x151001 x151002) else (some false))) else (none)) else (none)) else (some true)
def eval_all.f (k:Nat) (l0:List (S53)) (a1_0:ByteArray) (a1_1:ByteArray) (a1_2:Int):Option (Bool):=eval_all.l0 k l0 (l0.length:Int) 0 a1_0 a1_1 a1_2
theorem eval_all.calls (k:Nat) (A0:Option Addr) (c0:Nat) (l0:List (S53)) (a1_0:ByteArray) (a1_1:ByteArray) (a1_2:Int) (r:Bool) (w:World) (hr0:Kd.C k53 w A0 l0.length l0) (hc0:l0.length≤c0) (h:eval_all.f k l0 a1_0 a1_1 a1_2=some r) :
  Calls Tryz.prog 30 #[.slice A0 l0.length c0,.agg #[.string a1_0,.string a1_1,.int .i64 a1_2]] w fun e w'=>e= .returned (.bool r)∧Below w.heap.size w w':=by
 have hu27:=Tryz.underlying27
 have hu53:=Tryz.underlying53
 have HR0:=am_ hr0
 have HC0:=am_ hc0
 clear hr0 hc0
 have HB:=am_ (Below.refl w.heap.size w)
 have H:=h
 clear h
 unfold eval_all.f at H
 have H':=am_ H
 clear H
 go_enter Tryz.func30,Tryz.ntmps30
 go_wp2_with (first|((with_reducible refine gate_dst (N:=3) rfl ?_);refine be_ 3 #[.string a1_0,.string a1_1,.int .i64 a1_2] 27 ?_;intro gb150 hg w3 hbox hb;have BK150:=am_ (hbox);have GW150:=sz_ HB hg;have GE150:=sz_ HB hg;replace HB:=am_ (below_step (bl_ HB).out hb);clear hb hbox hg))
 go_loopg [9] k (fun kq v9 w'=>∃(x9_1:Int),v9= .int .i64 x9_1∧Aside0 (eval_all.l0 kq l0 (l0.length:Int) x9_1 a1_0 a1_1 a1_2=some r)∧Aside0 (kq≤k)∧Aside0 (w'.heap[gb150]? = some (.cells #[.string a1_0,.string a1_1,.int .i64 a1_2] 27 (0,0)))∧Aside0 (Below w.heap.size w w'))
 case atStart=>exact⟨(0),eq_,H',⟨Nat.le_refl _⟩,(bk_ BK150),(bl_ HB)⟩
 clear H'
 obtain⟨x9_1,rfl,HA,HK1,BK150,HB⟩:=hrel
 cases gk with
 | zero=>exact absurd HA.out (by simp[eval_all.l0])
 | succ k1=>?_
 have H:=HA.out
 clear HA
 simp only[eval_all.l0] at H
 by_cases c4:x9_1<(l0.length:Int)
 ·rw[if_pos c4] at H
  have c4b0:=decide_eq_true c4
  clear c4
  replace H:=ifn_ H
  obtain⟨c5,H⟩:=H
  have c5b0:decide (0≤x9_1)=true:=decide_eq_true c5
  clear c5
  replace H:=ifn_ H
  obtain⟨c6,H⟩:=H
  have c6b0:decide (x9_1<(l0.length:Int))=true:=decide_eq_true c6
  clear c6
  replace H:=Option.bind_eq_some_iff.mp H
  obtain⟨t153,A70,H⟩:=H
  have A7:=am_ A70
  clear A70
  by_cases c8:t153=true
  ·subst c8
   rw[if_pos rfl] at H
   have H':=am_ H
   clear H
   have p151:0≤(x9_1:Int):=od_
   have q151:x9_1<(l0.length:Int):=od_
   obtain⟨ad151,A151_3,c151_3,e151,hx151_0,hx151_1,hx151_2,hx151_3,hl151_3,hi151_3⟩:=at_T53 HR0.out x9_1 p151 q151
   cases e151
   replace hx151_0:=hbc_ HB hx151_0
   replace hx151_1:=hbc_ HB hx151_1
   replace hx151_2:=hbc_ HB hx151_2
   replace hx151_3:=hbc_ HB hx151_3
   have HR151_3:=am_ hi151_3
   have HC151_3:=am_ hl151_3
   clear hi151_3 hl151_3
   replace p151:=eq_true p151
   replace q151:=eq_true q151
   go_wp2_with (first|((with_reducible refine gate_dst (N:=6) rfl ?_);refine be_ 6 #[.int .u8 0,.int .i64 0,.bool false,.slice none 0 0] 53 ?_;intro gb152 hg w9 hbox hb;have BK152:=am_ (hbox);have GW152:=sz_ HB hg;have GE152:=sz_ HB hg;have NB150_152:=na_ BK150 hg;have NB152_150:=nb_ BK150 hg;replace BK150:=bb_ BK150 hb;replace HB:=am_ (below_step (bl_ HB).out hb);clear hb hbox hg;have hnb10:=NB152_150.out;have hnc10:=NB150_152.out;obtain⟨hcz11_0,hcz11_1,hcz11_2,hcz11_3,hfz11_0,hfz11_1,hfz11_2,hfz11_3⟩:=bo4_ BK152;obtain⟨hcz12_0,hcz12_1,hcz12_2,hfz12_0,hfz12_1,hfz12_2⟩:=bo3_ BK150)|((with_reducible refine gate_callee (f:=15) rfl ?_);refine gl_ (some 15) Tryz.func15 #[.agg #[.int .u8 ((rd_T53 l0 x9_1).f0),.int .i64 ((rd_T53 l0 x9_1).f1),.bool ((rd_T53 l0 x9_1).f2),.slice A151_3 ((rd_T53 l0 x9_1).f3).length c151_3],.agg #[.string a1_0,.string a1_1,.int .i64 a1_2]] ?_;(with_reducible refine(eval_Holds.calls _ _ _ _ _ _ _ _ _ _ _ _ ?side1 ?side2 A7.out).mono ?_);(case side1=>exact Kd.C_below HR151_3.out (bl_ HB).out);(case side2=>exact HC151_3.out);rintro e w13 ⟨rfl,hb⟩;refine⟨_,rfl,?_⟩;have n0_:=bz_ BK150 hb;have n1_:=am_ (blk_below (g:=gb152) (o:= .cells #[.int .u8 ((rd_T53 l0 x9_1).f0),.int .i64 ((rd_T53 l0 x9_1).f1),.bool ((rd_T53 l0 x9_1).f2),.slice A151_3 ((rd_T53 l0 x9_1).f3).length c151_3] 53 (0,0)) ((bp_ BK152).out) hb);have n2_:=am_ (below_step (bl_ HB).out hb);clear BK150;clear BK152;clear HB;revert n0_ n1_ n2_;intro BK150 BK152 HB;(try clear hb);(try clear hi)))
   go_roundg k1
   case measure=>have:=HK1.out;omega
   case rel=>exact⟨(wrap64 (x9_1+1)),eq_,H',⟨by have:=HK1.out;omega⟩,(bk_ BK150),(bl_ HB)⟩
  replace c8:=Bool.eq_false_iff.mpr c8
  subst c8
  rw[if_neg (show ¬(false=true) by decide)] at H
  obtain rfl:=Option.some.inj H
  have p151:0≤(x9_1:Int):=od_
  have q151:x9_1<(l0.length:Int):=od_
  obtain⟨ad151,A151_3,c151_3,e151,hx151_0,hx151_1,hx151_2,hx151_3,hl151_3,hi151_3⟩:=at_T53 HR0.out x9_1 p151 q151
  cases e151
  replace hx151_0:=hbc_ HB hx151_0
  replace hx151_1:=hbc_ HB hx151_1
  replace hx151_2:=hbc_ HB hx151_2
  replace hx151_3:=hbc_ HB hx151_3
  have HR151_3:=am_ hi151_3
  have HC151_3:=am_ hl151_3
  clear hi151_3 hl151_3
  replace p151:=eq_true p151
  replace q151:=eq_true q151
  go_wp2_with (first|((with_reducible refine gate_dst (N:=6) rfl ?_);refine be_ 6 #[.int .u8 0,.int .i64 0,.bool false,.slice none 0 0] 53 ?_;intro gb152 hg w14 hbox hb;have BK152:=am_ (hbox);have GW152:=sz_ HB hg;have GE152:=sz_ HB hg;have NB150_152:=na_ BK150 hg;have NB152_150:=nb_ BK150 hg;replace BK150:=bb_ BK150 hb;replace HB:=am_ (below_step (bl_ HB).out hb);clear hb hbox hg;have hnb15:=NB152_150.out;have hnc15:=NB150_152.out;obtain⟨hcz16_0,hcz16_1,hcz16_2,hcz16_3,hfz16_0,hfz16_1,hfz16_2,hfz16_3⟩:=bo4_ BK152;obtain⟨hcz17_0,hcz17_1,hcz17_2,hfz17_0,hfz17_1,hfz17_2⟩:=bo3_ BK150)|((with_reducible refine gate_callee (f:=15) rfl ?_);refine gl_ (some 15) Tryz.func15 #[.agg #[.int .u8 ((rd_T53 l0 x9_1).f0),.int .i64 ((rd_T53 l0 x9_1).f1),.bool ((rd_T53 l0 x9_1).f2),.slice A151_3 ((rd_T53 l0 x9_1).f3).length c151_3],.agg #[.string a1_0,.string a1_1,.int .i64 a1_2]] ?_;(with_reducible refine(eval_Holds.calls _ _ _ _ _ _ _ _ _ _ _ _ ?side1 ?side2 A7.out).mono ?_);(case side1=>exact Kd.C_below HR151_3.out (bl_ HB).out);(case side2=>exact HC151_3.out);rintro e w18 ⟨rfl,hb⟩;refine⟨_,rfl,?_⟩;have n0_:=bz_ BK150 hb;have n1_:=am_ (blk_below (g:=gb152) (o:= .cells #[.int .u8 ((rd_T53 l0 x9_1).f0),.int .i64 ((rd_T53 l0 x9_1).f1),.bool ((rd_T53 l0 x9_1).f2),.slice A151_3 ((rd_T53 l0 x9_1).f3).length c151_3] 53 (0,0)) ((bp_ BK152).out) hb);have n2_:=am_ (below_step (bl_ HB).out hb);clear BK150;clear BK152;clear HB;revert n0_ n1_ n2_;intro BK150 BK152 HB;(try clear hb);(try clear hi)))
  go_ret
  exact⟨ew_,(bl_ HB).out⟩
 rw[if_neg c4] at H
 have c4b0:=decide_eq_false c4
 clear c4
 obtain rfl:=Option.some.inj H
 go_wp2
 go_ret
 exact⟨ew_,(bl_ HB).out⟩

def eval_Meets.l0:Nat→List (List (S53))→Int→Int→Int→List (List (S53))→ByteArray→ByteArray→ByteArray→Int→Option (Bool)
 | 0,_,_,_,_,_,_,_,_,_=>none
 | k+1,x8,x9,x10,x155000,x155001,x155002,x156000,x156001,x156002=>if x10<x9 then (if 0≤x10 then (if x10<(x8.length:Int) then ((eval_all.f k (rd_L7 x8 x10) x156000 x156001 x156002).bind fun t157=>(if t157=true then (some true) else (eval_Meets.l0 k x8 x9 (wrap64 (x10+1)) x155000 x155001 x155002 x156000 x156001 x156002))) else (none)) else (none)) else (some (x155000==5))
def eval_Meets.f (k:Nat) (a0_0:Int) (l0_1:List (List (S53))) (a0_2:ByteArray) (a1_0:ByteArray) (a1_1:ByteArray) (a1_2:Int):Option (Bool):=eval_Meets.l0 k l0_1 (l0_1.length:Int) 0 a0_0 l0_1 a0_2 a1_0 a1_1 a1_2
theorem eval_Meets.calls (k:Nat) (a0_0:Int) (A0_1:Option Addr) (c0_1:Nat) (l0_1:List (List (S53))) (a0_2:ByteArray) (a1_0:ByteArray) (a1_1:ByteArray) (a1_2:Int) (r:Bool) (w:World) (hr0_1:Kd.C (Kd.slice 53 k53) w A0_1 l0_1.length l0_1) (hc0_1:l0_1.length≤c0_1) (h:eval_Meets.f k a0_0 l0_1 a0_2 a1_0 a1_1 a1_2=some r) :
  Calls Tryz.prog 14 #[.agg #[.int .i64 a0_0,.slice A0_1 l0_1.length c0_1,.string a0_2],.agg #[.string a1_0,.string a1_1,.int .i64 a1_2]] w fun e w'=>e= .returned (.bool r)∧Below w.heap.size w w':=by
 have hu41:=Tryz.underlying41
 have hu27:=Tryz.underlying27
 have HR0_1:=am_ hr0_1
 have HC0_1:=am_ hc0_1
 clear hr0_1 hc0_1
 have HB:=am_ (Below.refl w.heap.size w)
 have H:=h
 clear h
 unfold eval_Meets.f at H
 have H':=am_ H
 clear H
 go_enter Tryz.func14,Tryz.ntmps14
 go_wp2_with (first|((with_reducible refine gate_dst (N:=2) rfl ?_);refine be_ 2 #[.int .i64 a0_0,.slice A0_1 l0_1.length c0_1,.string a0_2] 41 ?_;intro gb154 hg w3 hbox hb;have BK154:=am_ (hbox);have GW154:=sz_ HB hg;have GE154:=sz_ HB hg;replace HB:=am_ (below_step (bl_ HB).out hb);clear hb hbox hg)|((with_reducible refine gate_dst (N:=3) rfl ?_);refine be_ 3 #[.string a1_0,.string a1_1,.int .i64 a1_2] 27 ?_;intro gb155 hg w4 hbox hb;have BK155:=am_ (hbox);have GW155:=sz_ HB hg;have GE155:=sz_ HB hg;have NB154_155:=na_ BK154 hg;have NB155_154:=nb_ BK154 hg;replace BK154:=bb_ BK154 hb;replace HB:=am_ (below_step (bl_ HB).out hb);clear hb hbox hg;have hnb5:=NB154_155.out;have hnc5:=NB155_154.out;obtain⟨hcz6_0,hcz6_1,hcz6_2,hfz6_0,hfz6_1,hfz6_2⟩:=bo3_ BK154))
 go_loopg [10] k (fun kq v10 w'=>∃(x10_1:Int),v10= .int .i64 x10_1∧Aside0 (eval_Meets.l0 kq l0_1 (l0_1.length:Int) x10_1 a0_0 l0_1 a0_2 a1_0 a1_1 a1_2=some r)∧Aside0 (kq≤k)∧Aside0 (w'.heap[gb154]? = some (.cells #[.int .i64 a0_0,(.slice A0_1 l0_1.length c0_1),.string a0_2] 41 (0,0)))∧Aside0 (w'.heap[gb155]? = some (.cells #[.string a1_0,.string a1_1,.int .i64 a1_2] 27 (0,0)))∧Aside0 (Below w.heap.size w w'))
 case atStart=>exact⟨(0),eq_,H',⟨Nat.le_refl _⟩,(bk_ BK154),(bk_ BK155),(bl_ HB)⟩
 clear H'
 obtain⟨x10_1,rfl,HA,HK1,BK154,BK155,HB⟩:=hrel
 cases gk with
 | zero=>exact absurd HA.out (by simp[eval_Meets.l0])
 | succ k1=>?_
 have H:=HA.out
 clear HA
 simp only[eval_Meets.l0] at H
 by_cases c7:x10_1<(l0_1.length:Int)
 ·rw[if_pos c7] at H
  have c7b0:=decide_eq_true c7
  clear c7
  replace H:=ifn_ H
  obtain⟨c8,H⟩:=H
  have c8b0:decide (0≤x10_1)=true:=decide_eq_true c8
  clear c8
  replace H:=ifn_ H
  obtain⟨c9,H⟩:=H
  have c9b0:decide (x10_1<(l0_1.length:Int))=true:=decide_eq_true c9
  clear c9
  replace H:=Option.bind_eq_some_iff.mp H
  obtain⟨t157,A100,H⟩:=H
  have A10:=am_ A100
  clear A100
  by_cases c11:t157=true
  ·subst c11
   rw[if_pos rfl] at H
   obtain rfl:=Option.some.inj H
   have p156:0≤(x10_1:Int):=od_
   have q156:x10_1<(l0_1.length:Int):=od_
   obtain⟨ad156,A156_0,c156_0,e156,hx156_0,hl156_0,hi156_0⟩:=at_L7 HR0_1.out x10_1 p156 q156
   cases e156
   replace hx156_0:=hbc_ HB hx156_0
   have HR156_0:=am_ hi156_0
   have HC156_0:=am_ hl156_0
   clear hi156_0 hl156_0
   replace p156:=eq_true p156
   replace q156:=eq_true q156
   have hnb12:=NB155_154.out
   have hnc12:=NB154_155.out
   obtain⟨hcz13_0,hcz13_1,hcz13_2,hfz13_0,hfz13_1,hfz13_2⟩:=bo3_ BK155
   go_wp2_with (first|((with_reducible refine gate_callee (f:=30) rfl ?_);refine gl_ (some 16) Tryz.func30 #[.slice A156_0 (rd_L7 l0_1 x10_1).length c156_0,.agg #[.string a1_0,.string a1_1,.int .i64 a1_2]] ?_;(with_reducible refine(eval_all.calls _ _ _ _ _ _ _ _ _ ?side1 ?side2 A10.out).mono ?_);(case side1=>repeat(first|exact(Kd.C_below HR156_0.out HB.out)|(with_reducible refine Kd.C_alloc ?_ _)|(with_reducible refine Kd.C_drewN ?_ _)|(with_reducible refine Kd.C_drew ?_)));(case side2=>exact HC156_0.out);rintro e w14 ⟨rfl,hb⟩;refine⟨_,rfl,?_⟩;replace BK154:=bb_ BK154 hb;replace BK155:=bb_ BK155 hb;replace HB:=am_ (below_step (bl_ HB).out hb);(try clear hb);(try clear hi)))
   go_ret
   exact⟨ew_,(bl_ HB).out⟩
  replace c11:=Bool.eq_false_iff.mpr c11
  subst c11
  rw[if_neg (show ¬(false=true) by decide)] at H
  have H':=am_ H
  clear H
  have p156:0≤(x10_1:Int):=od_
  have q156:x10_1<(l0_1.length:Int):=od_
  obtain⟨ad156,A156_0,c156_0,e156,hx156_0,hl156_0,hi156_0⟩:=at_L7 HR0_1.out x10_1 p156 q156
  cases e156
  replace hx156_0:=hbc_ HB hx156_0
  have HR156_0:=am_ hi156_0
  have HC156_0:=am_ hl156_0
  clear hi156_0 hl156_0
  replace p156:=eq_true p156
  replace q156:=eq_true q156
  have hnb15:=NB155_154.out
  have hnc15:=NB154_155.out
  obtain⟨hcz16_0,hcz16_1,hcz16_2,hfz16_0,hfz16_1,hfz16_2⟩:=bo3_ BK155
  go_wp2_with (first|((with_reducible refine gate_callee (f:=30) rfl ?_);refine gl_ (some 16) Tryz.func30 #[.slice A156_0 (rd_L7 l0_1 x10_1).length c156_0,.agg #[.string a1_0,.string a1_1,.int .i64 a1_2]] ?_;(with_reducible refine(eval_all.calls _ _ _ _ _ _ _ _ _ ?side1 ?side2 A10.out).mono ?_);(case side1=>repeat(first|exact(Kd.C_below HR156_0.out HB.out)|(with_reducible refine Kd.C_alloc ?_ _)|(with_reducible refine Kd.C_drewN ?_ _)|(with_reducible refine Kd.C_drew ?_)));(case side2=>exact HC156_0.out);rintro e w17 ⟨rfl,hb⟩;refine⟨_,rfl,?_⟩;replace BK154:=bb_ BK154 hb;replace BK155:=bb_ BK155 hb;replace HB:=am_ (below_step (bl_ HB).out hb);(try clear hb);(try clear hi)))
  go_roundg k1
  case measure=>have:=HK1.out;omega
  case rel=>exact⟨(wrap64 (x10_1+1)),eq_,H',⟨by have:=HK1.out;omega⟩,(bk_ BK154),(bk_ BK155),(bl_ HB)⟩
 rw[if_neg c7] at H
 have c7b0:=decide_eq_false c7
 clear c7
 obtain rfl:=Option.some.inj H
 have hnb18:=NB154_155.out
 have hnc18:=NB155_154.out
 obtain⟨hcz19_0,hcz19_1,hcz19_2,hfz19_0,hfz19_1,hfz19_2⟩:=bo3_ BK154
 go_wp2
 go_ret
 exact⟨ew_,(bl_ HB).out⟩

def eval_Pick.l0:Nat→Int→List (S41)→Int→Int→ByteArray→ByteArray→Int→Option (Int)
 | 0,_,_,_,_,_,_,_=>none
 | k+1,x5,x8,x9,x10,x159000,x159001,x159002=>if x10<x9 then (if 0≤x10 then (if x10<(x8.length:Int) then (if ((rd_T41 x8 x10).f0)<x5 then ((eval_Meets.f k ((rd_T41 x8 x10).f0) ((rd_T41 x8 x10).f1) ((rd_T41 x8 x10).f2) x159000 x159001 x159002).bind fun t161=>(if t161=true then (eval_Pick.l0 k ((rd_T41 x8 x10).f0) x8 x9 (wrap64 (x10+1)) x159000 x159001 x159002) else (eval_Pick.l0 k x5 x8 x9 (wrap64 (x10+1)) x159000 x159001 x159002))) else (eval_Pick.l0 k x5 x8 x9 (wrap64 (x10+1)) x159000 x159001 x159002)) else (none)) else (none)) else (some x5)
def eval_Pick.f (k:Nat) (l0:List (S41)) (a1_0:ByteArray) (a1_1:ByteArray) (a1_2:Int):Option (Int):=eval_Pick.l0 k 5 l0 (l0.length:Int) 0 a1_0 a1_1 a1_2
theorem eval_Pick.calls (k:Nat) (A0:Option Addr) (c0:Nat) (l0:List (S41)) (a1_0:ByteArray) (a1_1:ByteArray) (a1_2:Int) (r:Int) (w:World) (hr0:Kd.C k41 w A0 l0.length l0) (hc0:l0.length≤c0) (h:eval_Pick.f k l0 a1_0 a1_1 a1_2=some r) :
  Calls Tryz.prog 13 #[.slice A0 l0.length c0,.agg #[.string a1_0,.string a1_1,.int .i64 a1_2]] w fun e w'=>e= .returned (.int .i64 r)∧Below w.heap.size w w':=by
 have hu27:=Tryz.underlying27
 have hu41:=Tryz.underlying41
 have HR0:=am_ hr0
 have HC0:=am_ hc0
 clear hr0 hc0
 have HB:=am_ (Below.refl w.heap.size w)
 have H:=h
 clear h
 unfold eval_Pick.f at H
 have H':=am_ H
 clear H
 go_enter Tryz.func13,Tryz.ntmps13
 go_wp2_with (first|((with_reducible refine gate_dst (N:=3) rfl ?_);refine be_ 3 #[.string a1_0,.string a1_1,.int .i64 a1_2] 27 ?_;intro gb158 hg w3 hbox hb;have BK158:=am_ (hbox);have GW158:=sz_ HB hg;have GE158:=sz_ HB hg;replace HB:=am_ (below_step (bl_ HB).out hb);clear hb hbox hg))
 go_loopg [5,10] k (fun kq v5 v10 w'=>∃(x5_1:Int) (x10_1:Int),v5= .int .i64 x5_1∧v10= .int .i64 x10_1∧Aside0 (eval_Pick.l0 kq x5_1 l0 (l0.length:Int) x10_1 a1_0 a1_1 a1_2=some r)∧Aside0 (kq≤k)∧Aside0 (w'.heap[gb158]? = some (.cells #[.string a1_0,.string a1_1,.int .i64 a1_2] 27 (0,0)))∧Aside0 (Below w.heap.size w w'))
 case atStart=>exact⟨(5),(0),eq_,eq_,H',⟨Nat.le_refl _⟩,(bk_ BK158),(bl_ HB)⟩
 clear H'
 obtain⟨x5_1,x10_1,rfl,rfl,HA,HK1,BK158,HB⟩:=hrel
 cases gk with
 | zero=>exact absurd HA.out (by simp[eval_Pick.l0])
 | succ k1=>?_
 have H:=HA.out
 clear HA
 simp only[eval_Pick.l0] at H
 by_cases c4:x10_1<(l0.length:Int)
 ·rw[if_pos c4] at H
  have c4b0:=decide_eq_true c4
  clear c4
  replace H:=ifn_ H
  obtain⟨c5,H⟩:=H
  have c5b0:decide (0≤x10_1)=true:=decide_eq_true c5
  clear c5
  replace H:=ifn_ H
  obtain⟨c6,H⟩:=H
  have c6b0:decide (x10_1<(l0.length:Int))=true:=decide_eq_true c6
  clear c6
  by_cases c7:((rd_T41 l0 x10_1).f0)<x5_1
  ·rw[if_pos c7] at H
   have c7b0:=decide_eq_true c7
   clear c7
   replace H:=Option.bind_eq_some_iff.mp H
   obtain⟨t161,A80,H⟩:=H
   have A8:=am_ A80
   clear A80
   by_cases c9:t161=true
   ·subst c9
    rw[if_pos rfl] at H
    have H':=am_ H
    clear H
    have p159:0≤(x10_1:Int):=od_
    have q159:x10_1<(l0.length:Int):=od_
    obtain⟨ad159,A159_1,c159_1,e159,hx159_0,hx159_1,hx159_2,hl159_1,hi159_1⟩:=at_T41 HR0.out x10_1 p159 q159
    cases e159
    replace hx159_0:=hbc_ HB hx159_0
    replace hx159_1:=hbc_ HB hx159_1
    replace hx159_2:=hbc_ HB hx159_2
    have HR159_1:=am_ hi159_1
    have HC159_1:=am_ hl159_1
    clear hi159_1 hl159_1
    replace p159:=eq_true p159
    replace q159:=eq_true q159
    go_wp2_with (first|((with_reducible refine gate_dst (N:=7) rfl ?_);refine be_ 7 #[.int .i64 0,.slice none 0 0,.string (⟨#[]⟩:ByteArray)] 41 ?_;intro gb160 hg w10 hbox hb;have BK160:=am_ (hbox);have GW160:=sz_ HB hg;have GE160:=sz_ HB hg;have NB158_160:=na_ BK158 hg;have NB160_158:=nb_ BK158 hg;replace BK158:=bb_ BK158 hb;replace HB:=am_ (below_step (bl_ HB).out hb);clear hb hbox hg;have hnb11:=NB160_158.out;have hnc11:=NB158_160.out;obtain⟨hcz12_0,hcz12_1,hcz12_2,hfz12_0,hfz12_1,hfz12_2⟩:=bo3_ BK160;obtain⟨hcz13_0,hcz13_1,hcz13_2,hfz13_0,hfz13_1,hfz13_2⟩:=bo3_ BK158)|(go_at_call 14;(with_reducible refine(eval_Meets.calls _ _ _ _ _ _ _ _ _ _ _ ?side1 ?side2 A8.out).mono ?_);(case side1=>exact Kd.C_below HR159_1.out (bl_ HB).out);(case side2=>exact HC159_1.out);rintro e w14 ⟨rfl,hb⟩;have n0_:=bz_ BK158 hb;have n1_:=am_ (blk_below (g:=gb160) (o:= .cells #[.int .i64 ((rd_T41 l0 x10_1).f0),.slice A159_1 ((rd_T41 l0 x10_1).f1).length c159_1,.string ((rd_T41 l0 x10_1).f2)] 41 (0,0)) ((bp_ BK160).out) hb);have n2_:=am_ (below_step (bl_ HB).out hb);clear BK158;clear BK160;clear HB;revert n0_ n1_ n2_;intro BK158 BK160 HB;(try clear hb);obtain⟨hcz15_0,hcz15_1,hcz15_2,hfz15_0,hfz15_1,hfz15_2⟩:=bo3_ BK160))
    go_roundg k1
    case measure=>have:=HK1.out;omega
    case rel=>exact⟨((rd_T41 l0 x10_1).f0),(wrap64 (x10_1+1)),eq_,eq_,H',⟨by have:=HK1.out;omega⟩,(bk_ BK158),(bl_ HB)⟩
   replace c9:=Bool.eq_false_iff.mpr c9
   subst c9
   rw[if_neg (show ¬(false=true) by decide)] at H
   have H':=am_ H
   clear H
   have p159:0≤(x10_1:Int):=od_
   have q159:x10_1<(l0.length:Int):=od_
   obtain⟨ad159,A159_1,c159_1,e159,hx159_0,hx159_1,hx159_2,hl159_1,hi159_1⟩:=at_T41 HR0.out x10_1 p159 q159
   cases e159
   replace hx159_0:=hbc_ HB hx159_0
   replace hx159_1:=hbc_ HB hx159_1
   replace hx159_2:=hbc_ HB hx159_2
   have HR159_1:=am_ hi159_1
   have HC159_1:=am_ hl159_1
   clear hi159_1 hl159_1
   replace p159:=eq_true p159
   replace q159:=eq_true q159
   go_wp2_with (first|((with_reducible refine gate_dst (N:=7) rfl ?_);refine be_ 7 #[.int .i64 0,.slice none 0 0,.string (⟨#[]⟩:ByteArray)] 41 ?_;intro gb160 hg w16 hbox hb;have BK160:=am_ (hbox);have GW160:=sz_ HB hg;have GE160:=sz_ HB hg;have NB158_160:=na_ BK158 hg;have NB160_158:=nb_ BK158 hg;replace BK158:=bb_ BK158 hb;replace HB:=am_ (below_step (bl_ HB).out hb);clear hb hbox hg;have hnb17:=NB160_158.out;have hnc17:=NB158_160.out;obtain⟨hcz18_0,hcz18_1,hcz18_2,hfz18_0,hfz18_1,hfz18_2⟩:=bo3_ BK160;obtain⟨hcz19_0,hcz19_1,hcz19_2,hfz19_0,hfz19_1,hfz19_2⟩:=bo3_ BK158)|(go_at_call 14;(with_reducible refine(eval_Meets.calls _ _ _ _ _ _ _ _ _ _ _ ?side1 ?side2 A8.out).mono ?_);(case side1=>exact Kd.C_below HR159_1.out (bl_ HB).out);(case side2=>exact HC159_1.out);rintro e w20 ⟨rfl,hb⟩;have n0_:=bz_ BK158 hb;have n1_:=am_ (blk_below (g:=gb160) (o:= .cells #[.int .i64 ((rd_T41 l0 x10_1).f0),.slice A159_1 ((rd_T41 l0 x10_1).f1).length c159_1,.string ((rd_T41 l0 x10_1).f2)] 41 (0,0)) ((bp_ BK160).out) hb);have n2_:=am_ (below_step (bl_ HB).out hb);clear BK158;clear BK160;clear HB;revert n0_ n1_ n2_;intro BK158 BK160 HB;(try clear hb);(try clear hi)))
   go_roundg k1
   case measure=>have:=HK1.out;omega
   case rel=>exact⟨(x5_1),(wrap64 (x10_1+1)),eq_,eq_,H',⟨by have:=HK1.out;omega⟩,(bk_ BK158),(bl_ HB)⟩
  rw[if_neg c7] at H
  have c7b0:=decide_eq_false c7
  clear c7
  have H':=am_ H
  clear H
  have p159:0≤(x10_1:Int):=od_
  have q159:x10_1<(l0.length:Int):=od_
  obtain⟨ad159,A159_1,c159_1,e159,hx159_0,hx159_1,hx159_2,hl159_1,hi159_1⟩:=at_T41 HR0.out x10_1 p159 q159
  cases e159
  replace hx159_0:=hbc_ HB hx159_0
  replace hx159_1:=hbc_ HB hx159_1
  replace hx159_2:=hbc_ HB hx159_2
  have HR159_1:=am_ hi159_1
  have HC159_1:=am_ hl159_1
  clear hi159_1 hl159_1
  replace p159:=eq_true p159
  replace q159:=eq_true q159
  go_wp2_with (first|((with_reducible refine gate_dst (N:=7) rfl ?_);refine be_ 7 #[.int .i64 0,.slice none 0 0,.string (⟨#[]⟩:ByteArray)] 41 ?_;intro gb160 hg w21 hbox hb;have BK160:=am_ (hbox);have GW160:=sz_ HB hg;have GE160:=sz_ HB hg;have NB158_160:=na_ BK158 hg;have NB160_158:=nb_ BK158 hg;replace BK158:=bb_ BK158 hb;replace HB:=am_ (below_step (bl_ HB).out hb);clear hb hbox hg;have hnb22:=NB160_158.out;have hnc22:=NB158_160.out;obtain⟨hcz23_0,hcz23_1,hcz23_2,hfz23_0,hfz23_1,hfz23_2⟩:=bo3_ BK160))
  go_roundg k1
  case measure=>have:=HK1.out;omega
  case rel=>exact⟨(x5_1),(wrap64 (x10_1+1)),eq_,eq_,H',⟨by have:=HK1.out;omega⟩,⟨(bf_ BK158).out⟩,(bl_ HB)⟩
 rw[if_neg c4] at H
 have c4b0:=decide_eq_false c4
 clear c4
 obtain rfl:=Option.some.inj H
 go_wp2
 go_ret
 exact⟨ew_,(bl_ HB).out⟩

/-- A state of type 91 at block g of W; what its slices lead to came in by w0. -/
def IsS91 (w0 W:World) (g:Nat) (f0:ByteArray) (f1:Int) (f2:Int) (f3:Bool) (f4:Bool) (f5:Bool) (f6:Bool) (f7:Bool) (f8:Bool):Prop:=W.heap[g]? = some (.cells #[.string f0,.int .i64 f1,.int .i64 f2,.bool f3,.bool f4,.bool f5,.bool f6,.bool f7,.bool f8] 91 (0,0))∧w0.heap.size≤g
theorem IsS91.grown {w0 W:World} {g:Nat} {f0:ByteArray} {f1:Int} {f2:Int} {f3:Bool} {f4:Bool} {f5:Bool} {f6:Bool} {f7:Bool} {f8:Bool} {W1:World} {row:Option Nat} (h:IsS91 w0 W g f0 f1 f2 f3 f4 f5 f6 f7 f8) (hw:W.grownBy W1 row) (hne:some g≠row):IsS91 w0 W1 g f0 f1 f2 f3 f4 f5 f6 f7 f8:=by
 obtain⟨hb,hg⟩:=h
 exact⟨blk_grown hb hw hne,hg⟩
theorem IsS91.own_neN {w0 W:World} {g:Nat} {f0:ByteArray} {f1:Int} {f2:Int} {f3:Bool} {f4:Bool} {f5:Bool} {f6:Bool} {f7:Bool} {f8:Bool} {α:Type} {d:Kd α} {e:Nat} {base:Nat} {ok:Nat→Prop} {v:Value} {xs:List α} (h:IsS91 w0 W g f0 f1 f2 f3 f4 f5 f6 f7 f8) (ho:Kd.N d e W base ok v xs) (ht:e≠91):some g≠v.ownBlock:=by
 obtain⟨hb,hg⟩:=h
 exact Kd.N_ne ho hb ht
theorem IsS91.fresh {w0 W:World} {g:Nat} {f0:ByteArray} {f1:Int} {f2:Int} {f3:Bool} {f4:Bool} {f5:Bool} {f6:Bool} {f7:Bool} {f8:Bool} (h:IsS91 w0 W g f0 f1 f2 f3 f4 f5 f6 f7 f8):∀k,W.heap.size≤k→k≠g:=by
 obtain⟨hb,hg⟩:=h
 exact Kd.freshB hb
theorem IsS91.kept {w0 W:World} {g:Nat} {f0:ByteArray} {f1:Int} {f2:Int} {f3:Bool} {f4:Bool} {f5:Bool} {f6:Bool} {f7:Bool} {f8:Bool} {W1:World} {S:Nat→Prop} (h:IsS91 w0 W g f0 f1 f2 f3 f4 f5 f6 f7 f8) (hk:Kept W W1 S) (hne:¬S g):IsS91 w0 W1 g f0 f1 f2 f3 f4 f5 f6 f7 f8:=by
 obtain⟨hb,hg⟩:=h
 exact⟨blk_kept hb hk hne,hg⟩
theorem IsS91.below {w0 W:World} {g:Nat} {f0:ByteArray} {f1:Int} {f2:Int} {f3:Bool} {f4:Bool} {f5:Bool} {f6:Bool} {f7:Bool} {f8:Bool} {W1:World} (h:IsS91 w0 W g f0 f1 f2 f3 f4 f5 f6 f7 f8) (hw:Below W.heap.size W W1):IsS91 w0 W1 g f0 f1 f2 f3 f4 f5 f6 f7 f8:=h.grown (grown_of_below hw none) (by simp)
theorem IsS91.alloc {w0 W:World} {g:Nat} {f0:ByteArray} {f1:Int} {f2:Int} {f3:Bool} {f4:Bool} {f5:Bool} {f6:Bool} {f7:Bool} {f8:Bool} (h:IsS91 w0 W g f0 f1 f2 f3 f4 f5 f6 f7 f8) (o:Obj):IsS91 w0 (W.alloc o) g f0 f1 f2 f3 f4 f5 f6 f7 f8:=h.below (below_alloc (Below.refl _ _) o)
theorem IsS91.drewN {w0 W:World} {g:Nat} {f0:ByteArray} {f1:Int} {f2:Int} {f3:Bool} {f4:Bool} {f5:Bool} {f6:Bool} {f7:Bool} {f8:Bool} (h:IsS91 w0 W g f0 f1 f2 f3 f4 f5 f6 f7 f8) (m:Nat):IsS91 w0 (W.drewN m) g f0 f1 f2 f3 f4 f5 f6 f7 f8:=h
theorem IsS91.drew {w0 W:World} {g:Nat} {f0:ByteArray} {f1:Int} {f2:Int} {f3:Bool} {f4:Bool} {f5:Bool} {f6:Bool} {f7:Bool} {f8:Bool} (h:IsS91 w0 W g f0 f1 f2 f3 f4 f5 f6 f7 f8):IsS91 w0 W.drew g f0 f1 f2 f3 f4 f5 f6 f7 f8:=h
theorem IsS91.at_ {w0 W:World} {g:Nat} {f0:ByteArray} {f1:Int} {f2:Int} {f3:Bool} {f4:Bool} {f5:Bool} {f6:Bool} {f7:Bool} {f8:Bool} {w':World} {m:Nat} (hq:W.drewN m=w') (h:IsS91 w0 W g f0 f1 f2 f3 f4 f5 f6 f7 f8):IsS91 w0 w' g f0 f1 f2 f3 f4 f5 f6 f7 f8:=by subst hq;exact IsS91.drewN h m
theorem IsS91.apart {w0 W:World} {g:Nat} {f0:ByteArray} {f1:Int} {f2:Int} {f3:Bool} {f4:Bool} {f5:Bool} {f6:Bool} {f7:Bool} {f8:Bool} {α:Type} {d:Kd α} {e:Nat} {base:Nat} {ok:Nat→Prop} {v:Value} {xs:List α} (h:IsS91 w0 W g f0 f1 f2 f3 f4 f5 f6 f7 f8) (ho:d.R e W base ok v xs) (ht:∀q,q∈e::d.E→q≠91):d.R e W base (fun k=>ok k∧k≠g) v xs:=by
 obtain⟨hb,hg⟩:=h
 exact Kd.R_types ho hb ht
theorem IsS91.own_ne {w0 W:World} {g:Nat} {f0:ByteArray} {f1:Int} {f2:Int} {f3:Bool} {f4:Bool} {f5:Bool} {f6:Bool} {f7:Bool} {f8:Bool} {α:Type} {d:Kd α} {e:Nat} {base:Nat} {ok:Nat→Prop} {v:Value} {xs:List α} (h:IsS91 w0 W g f0 f1 f2 f3 f4 f5 f6 f7 f8) (ho:d.R e W base ok v xs) (ht:e≠91):some g≠v.ownBlock:=by
 obtain⟨hb,hg⟩:=h
 exact Kd.R_ne ho hb ht
theorem IsS91.apartQ {w0 W:World} {g:Nat} {f0:ByteArray} {f1:Int} {f2:Int} {f3:Bool} {f4:Bool} {f5:Bool} {f6:Bool} {f7:Bool} {f8:Bool} {α:Type} {d:Kd α} {e:Nat} {base:Nat} {ok:Nat→Prop} {v:Value} {xs:List α} (h:IsS91 w0 W g f0 f1 f2 f3 f4 f5 f6 f7 f8) (ho:d.Q e W base ok v xs) (ht:∀q,q∈e::d.E→q≠91):d.Q e W base (fun k=>ok k∧k≠g) v xs:=by
 obtain⟨hb,hg⟩:=h
 exact Kd.Q_types ho hb ht
theorem IsS91.own_neQ {w0 W:World} {g:Nat} {f0:ByteArray} {f1:Int} {f2:Int} {f3:Bool} {f4:Bool} {f5:Bool} {f6:Bool} {f7:Bool} {f8:Bool} {α:Type} {d:Kd α} {e:Nat} {base:Nat} {ok:Nat→Prop} {v:Value} {xs:List α} (h:IsS91 w0 W g f0 f1 f2 f3 f4 f5 f6 f7 f8) (ho:d.Q e W base ok v xs) (ht:e≠91):some g≠v.ownBlock:=by
 obtain⟨hb,hg⟩:=h
 exact Kd.Q_ne ho hb ht
theorem IsS91.apartS {w0 W:World} {g:Nat} {f0:ByteArray} {f1:Int} {f2:Int} {f3:Bool} {f4:Bool} {f5:Bool} {f6:Bool} {f7:Bool} {f8:Bool} {α:Type} {d:Kd α} {e:Nat} {base:Nat} {ok:Nat→Prop} {v:Value} {xs:List α} (h:IsS91 w0 W g f0 f1 f2 f3 f4 f5 f6 f7 f8) (ho:d.S e W base ok v xs) (ht:∀q,q∈e::d.E→q≠91):d.S e W base (fun k=>ok k∧k≠g) v xs:=by
 obtain⟨hb,hg⟩:=h
 exact Kd.S_types ho hb ht
theorem IsS91.own_neS {w0 W:World} {g:Nat} {f0:ByteArray} {f1:Int} {f2:Int} {f3:Bool} {f4:Bool} {f5:Bool} {f6:Bool} {f7:Bool} {f8:Bool} {α:Type} {d:Kd α} {e:Nat} {base:Nat} {ok:Nat→Prop} {v:Value} {xs:List α} (h:IsS91 w0 W g f0 f1 f2 f3 f4 f5 f6 f7 f8) (ho:d.S e W base ok v xs) (ht:e≠91):some g≠v.ownBlock:=by
 obtain⟨hb,hg⟩:=h
 exact Kd.S_ne ho hb ht
theorem IsS91.lt {w0 W:World} {g:Nat} {f0:ByteArray} {f1:Int} {f2:Int} {f3:Bool} {f4:Bool} {f5:Bool} {f6:Bool} {f7:Bool} {f8:Bool} (h:IsS91 w0 W g f0 f1 f2 f3 f4 f5 f6 f7 f8):g<W.heap.size:=by
 obtain⟨hb,hg⟩:=h
 exact blk_lt hb
theorem IsS91.ge {w0 W:World} {g:Nat} {f0:ByteArray} {f1:Int} {f2:Int} {f3:Bool} {f4:Bool} {f5:Bool} {f6:Bool} {f7:Bool} {f8:Bool} (h:IsS91 w0 W g f0 f1 f2 f3 f4 f5 f6 f7 f8):w0.heap.size≤g:=by
 obtain⟨hb,hg⟩:=h
 exact hg
theorem IsS91.ne_blk {w0 W:World} {g:Nat} {f0:ByteArray} {f1:Int} {f2:Int} {f3:Bool} {f4:Bool} {f5:Bool} {f6:Bool} {f7:Bool} {f8:Bool} {a:Nat} {cs:Array Value} {t:TypeId} {fr:Nat × Nat} (h:IsS91 w0 W g f0 f1 f2 f3 f4 f5 f6 f7 f8) (hb2:W.heap[a]? = some (.cells cs t fr)) (ht:t≠91):g≠a:=by
 obtain⟨hb,hg⟩:=h
 rintro rfl
 rw[hb] at hb2
 injection hb2 with hb2
 injection hb2 with _ ht2
 exact ht ht2.symm
theorem IsS91.far {w0 W:World} {g:Nat} {f0:ByteArray} {f1:Int} {f2:Int} {f3:Bool} {f4:Bool} {f5:Bool} {f6:Bool} {f7:Bool} {f8:Bool} {p:Addr} (h:IsS91 w0 W g f0 f1 f2 f3 f4 f5 f6 f7 f8) (hne:g≠p.block) (u:Value):IsS91 w0 (W.setCell p u) g f0 f1 f2 f3 f4 f5 f6 f7 f8:=by
 obtain⟨hb,hg⟩:=h
 exact⟨blk_far hb hne u,hg⟩
theorem cellS91_0 {W:World} {g:Nat} {f0:ByteArray} {f1:Int} {f2:Int} {f3:Bool} {f4:Bool} {f5:Bool} {f6:Bool} {f7:Bool} {f8:Bool} (h:W.heap[g]? = some (.cells #[.string f0,.int .i64 f1,.int .i64 f2,.bool f3,.bool f4,.bool f5,.bool f6,.bool f7,.bool f8] 91 (0,0))):W.cell? ⟨g,0,none⟩=some (.string f0):=(blk_cell h 0).trans rfl
theorem IsS91.set_0 {w0 W:World} {g:Nat} {f0:ByteArray} {f1:Int} {f2:Int} {f3:Bool} {f4:Bool} {f5:Bool} {f6:Bool} {f7:Bool} {f8:Bool} (h:IsS91 w0 W g f0 f1 f2 f3 f4 f5 f6 f7 f8) (x:ByteArray):IsS91 w0 (W.setCell ⟨g,0,none⟩ (.string x)) g x f1 f2 f3 f4 f5 f6 f7 f8:=by
 obtain⟨hb,hg⟩:=h
 exact⟨by simpa using blk_set hb 0 (.string x),hg⟩
theorem cellS91_1 {W:World} {g:Nat} {f0:ByteArray} {f1:Int} {f2:Int} {f3:Bool} {f4:Bool} {f5:Bool} {f6:Bool} {f7:Bool} {f8:Bool} (h:W.heap[g]? = some (.cells #[.string f0,.int .i64 f1,.int .i64 f2,.bool f3,.bool f4,.bool f5,.bool f6,.bool f7,.bool f8] 91 (0,0))):W.cell? ⟨g,1,none⟩=some (.int .i64 f1):=(blk_cell h 1).trans rfl
theorem IsS91.set_1 {w0 W:World} {g:Nat} {f0:ByteArray} {f1:Int} {f2:Int} {f3:Bool} {f4:Bool} {f5:Bool} {f6:Bool} {f7:Bool} {f8:Bool} (h:IsS91 w0 W g f0 f1 f2 f3 f4 f5 f6 f7 f8) (x:Int):IsS91 w0 (W.setCell ⟨g,1,none⟩ (.int .i64 x)) g f0 x f2 f3 f4 f5 f6 f7 f8:=by
 obtain⟨hb,hg⟩:=h
 exact⟨by simpa using blk_set hb 1 (.int .i64 x),hg⟩
theorem cellS91_2 {W:World} {g:Nat} {f0:ByteArray} {f1:Int} {f2:Int} {f3:Bool} {f4:Bool} {f5:Bool} {f6:Bool} {f7:Bool} {f8:Bool} (h:W.heap[g]? = some (.cells #[.string f0,.int .i64 f1,.int .i64 f2,.bool f3,.bool f4,.bool f5,.bool f6,.bool f7,.bool f8] 91 (0,0))):W.cell? ⟨g,2,none⟩=some (.int .i64 f2):=(blk_cell h 2).trans rfl
theorem IsS91.set_2 {w0 W:World} {g:Nat} {f0:ByteArray} {f1:Int} {f2:Int} {f3:Bool} {f4:Bool} {f5:Bool} {f6:Bool} {f7:Bool} {f8:Bool} (h:IsS91 w0 W g f0 f1 f2 f3 f4 f5 f6 f7 f8) (x:Int):IsS91 w0 (W.setCell ⟨g,2,none⟩ (.int .i64 x)) g f0 f1 x f3 f4 f5 f6 f7 f8:=by
 obtain⟨hb,hg⟩:=h
 exact⟨by simpa using blk_set hb 2 (.int .i64 x),hg⟩
theorem cellS91_3 {W:World} {g:Nat} {f0:ByteArray} {f1:Int} {f2:Int} {f3:Bool} {f4:Bool} {f5:Bool} {f6:Bool} {f7:Bool} {f8:Bool} (h:W.heap[g]? = some (.cells #[.string f0,.int .i64 f1,.int .i64 f2,.bool f3,.bool f4,.bool f5,.bool f6,.bool f7,.bool f8] 91 (0,0))):W.cell? ⟨g,3,none⟩=some (.bool f3):=(blk_cell h 3).trans rfl
theorem IsS91.set_3 {w0 W:World} {g:Nat} {f0:ByteArray} {f1:Int} {f2:Int} {f3:Bool} {f4:Bool} {f5:Bool} {f6:Bool} {f7:Bool} {f8:Bool} (h:IsS91 w0 W g f0 f1 f2 f3 f4 f5 f6 f7 f8) (x:Bool):IsS91 w0 (W.setCell ⟨g,3,none⟩ (.bool x)) g f0 f1 f2 x f4 f5 f6 f7 f8:=by
 obtain⟨hb,hg⟩:=h
 exact⟨by simpa using blk_set hb 3 (.bool x),hg⟩
theorem cellS91_4 {W:World} {g:Nat} {f0:ByteArray} {f1:Int} {f2:Int} {f3:Bool} {f4:Bool} {f5:Bool} {f6:Bool} {f7:Bool} {f8:Bool} (h:W.heap[g]? = some (.cells #[.string f0,.int .i64 f1,.int .i64 f2,.bool f3,.bool f4,.bool f5,.bool f6,.bool f7,.bool f8] 91 (0,0))):W.cell? ⟨g,4,none⟩=some (.bool f4):=(blk_cell h 4).trans rfl
theorem IsS91.set_4 {w0 W:World} {g:Nat} {f0:ByteArray} {f1:Int} {f2:Int} {f3:Bool} {f4:Bool} {f5:Bool} {f6:Bool} {f7:Bool} {f8:Bool} (h:IsS91 w0 W g f0 f1 f2 f3 f4 f5 f6 f7 f8) (x:Bool):IsS91 w0 (W.setCell ⟨g,4,none⟩ (.bool x)) g f0 f1 f2 f3 x f5 f6 f7 f8:=by
 obtain⟨hb,hg⟩:=h
 exact⟨by simpa using blk_set hb 4 (.bool x),hg⟩
theorem cellS91_5 {W:World} {g:Nat} {f0:ByteArray} {f1:Int} {f2:Int} {f3:Bool} {f4:Bool} {f5:Bool} {f6:Bool} {f7:Bool} {f8:Bool} (h:W.heap[g]? = some (.cells #[.string f0,.int .i64 f1,.int .i64 f2,.bool f3,.bool f4,.bool f5,.bool f6,.bool f7,.bool f8] 91 (0,0))):W.cell? ⟨g,5,none⟩=some (.bool f5):=(blk_cell h 5).trans rfl
theorem IsS91.set_5 {w0 W:World} {g:Nat} {f0:ByteArray} {f1:Int} {f2:Int} {f3:Bool} {f4:Bool} {f5:Bool} {f6:Bool} {f7:Bool} {f8:Bool} (h:IsS91 w0 W g f0 f1 f2 f3 f4 f5 f6 f7 f8) (x:Bool):IsS91 w0 (W.setCell ⟨g,5,none⟩ (.bool x)) g f0 f1 f2 f3 f4 x f6 f7 f8:=by
 obtain⟨hb,hg⟩:=h
 exact⟨by simpa using blk_set hb 5 (.bool x),hg⟩
theorem cellS91_6 {W:World} {g:Nat} {f0:ByteArray} {f1:Int} {f2:Int} {f3:Bool} {f4:Bool} {f5:Bool} {f6:Bool} {f7:Bool} {f8:Bool} (h:W.heap[g]? = some (.cells #[.string f0,.int .i64 f1,.int .i64 f2,.bool f3,.bool f4,.bool f5,.bool f6,.bool f7,.bool f8] 91 (0,0))):W.cell? ⟨g,6,none⟩=some (.bool f6):=(blk_cell h 6).trans rfl
theorem IsS91.set_6 {w0 W:World} {g:Nat} {f0:ByteArray} {f1:Int} {f2:Int} {f3:Bool} {f4:Bool} {f5:Bool} {f6:Bool} {f7:Bool} {f8:Bool} (h:IsS91 w0 W g f0 f1 f2 f3 f4 f5 f6 f7 f8) (x:Bool):IsS91 w0 (W.setCell ⟨g,6,none⟩ (.bool x)) g f0 f1 f2 f3 f4 f5 x f7 f8:=by
 obtain⟨hb,hg⟩:=h
 exact⟨by simpa using blk_set hb 6 (.bool x),hg⟩
theorem cellS91_7 {W:World} {g:Nat} {f0:ByteArray} {f1:Int} {f2:Int} {f3:Bool} {f4:Bool} {f5:Bool} {f6:Bool} {f7:Bool} {f8:Bool} (h:W.heap[g]? = some (.cells #[.string f0,.int .i64 f1,.int .i64 f2,.bool f3,.bool f4,.bool f5,.bool f6,.bool f7,.bool f8] 91 (0,0))):W.cell? ⟨g,7,none⟩=some (.bool f7):=(blk_cell h 7).trans rfl
theorem IsS91.set_7 {w0 W:World} {g:Nat} {f0:ByteArray} {f1:Int} {f2:Int} {f3:Bool} {f4:Bool} {f5:Bool} {f6:Bool} {f7:Bool} {f8:Bool} (h:IsS91 w0 W g f0 f1 f2 f3 f4 f5 f6 f7 f8) (x:Bool):IsS91 w0 (W.setCell ⟨g,7,none⟩ (.bool x)) g f0 f1 f2 f3 f4 f5 f6 x f8:=by
 obtain⟨hb,hg⟩:=h
 exact⟨by simpa using blk_set hb 7 (.bool x),hg⟩
theorem cellS91_8 {W:World} {g:Nat} {f0:ByteArray} {f1:Int} {f2:Int} {f3:Bool} {f4:Bool} {f5:Bool} {f6:Bool} {f7:Bool} {f8:Bool} (h:W.heap[g]? = some (.cells #[.string f0,.int .i64 f1,.int .i64 f2,.bool f3,.bool f4,.bool f5,.bool f6,.bool f7,.bool f8] 91 (0,0))):W.cell? ⟨g,8,none⟩=some (.bool f8):=(blk_cell h 8).trans rfl
theorem IsS91.set_8 {w0 W:World} {g:Nat} {f0:ByteArray} {f1:Int} {f2:Int} {f3:Bool} {f4:Bool} {f5:Bool} {f6:Bool} {f7:Bool} {f8:Bool} (h:IsS91 w0 W g f0 f1 f2 f3 f4 f5 f6 f7 f8) (x:Bool):IsS91 w0 (W.setCell ⟨g,8,none⟩ (.bool x)) g f0 f1 f2 f3 f4 f5 f6 f7 x:=by
 obtain⟨hb,hg⟩:=h
 exact⟨by simpa using blk_set hb 8 (.bool x),hg⟩
theorem IsS91.setx_3 {w0 W:World} {g:Nat} {f0:ByteArray} {f1:Int} {f2:Int} {f3:Bool} {f4:Bool} {f5:Bool} {f6:Bool} {f7:Bool} {f8:Bool} (h:IsS91 w0 W g f0 f1 f2 f3 f4 f5 f6 f7 f8) (x:Bool) (c:Int) (h0:0≤c) (h1:c<6):IsS91 w0 (W.setCell ⟨g,3+c.toNat,none⟩ (.bool x)) g f0 f1 f2 (if c=0 then x else f3) (if c=1 then x else f4) (if c=2 then x else f5) (if c=3 then x else f6) (if c=4 then x else f7) (if c=5 then x else f8):=by
 rcases ax6_ c h0 h1 with rfl|rfl|rfl|rfl|rfl|rfl
 ·exact IsS91.set_3 h x
 ·exact IsS91.set_4 h x
 ·exact IsS91.set_5 h x
 ·exact IsS91.set_6 h x
 ·exact IsS91.set_7 h x
 exact IsS91.set_8 h x
theorem is91_ {w0 W0 W:World} {g:Nat} {f0 h0:ByteArray} {f1 h1:Int} {f2 h2:Int} {f3 h3:Bool} {f4 h4:Bool} {f5 h5:Bool} {f6 h6:Bool} {f7 h7:Bool} {f8 h8:Bool} (h:Aside0 (IsS91 w0 W0 g f0 f1 f2 f3 f4 f5 f6 f7 f8)) (hr:IsS91 w0 W0 g f0 f1 f2 f3 f4 f5 f6 f7 f8→IsS91 w0 W g h0 h1 h2 h3 h4 h5 h6 h7 h8:=by intro h_;repeat(first|(with_reducible first|exact h_|apply IsS91.alloc|apply IsS91.drewN|apply IsS91.drew|refine IsS91.setx_3 ?_ _ _ (by first|assumption|omega) (by first|assumption|omega)|apply IsS91.set_0|apply IsS91.set_1|apply IsS91.set_2|apply IsS91.set_3|apply IsS91.set_4|apply IsS91.set_5|apply IsS91.set_6|apply IsS91.set_7|apply IsS91.set_8|refine IsS91.far ?_ (Aside0.out (by assumption)) _)|exact h_)):IsS91 w0 W g h0 h1 h2 h3 h4 h5 h6 h7 h8:=hr h.out
theorem bs91_ {w0 W0 W1 W:World} {g:Nat} {f0:ByteArray} {f1:Int} {f2:Int} {f3:Bool} {f4:Bool} {f5:Bool} {f6:Bool} {f7:Bool} {f8:Bool} (h:Aside0 (Below w0.heap.size w0 W0)) (hi:Aside0 (IsS91 w0 W1 g f0 f1 f2 f3 f4 f5 f6 f7 f8)) (hr:Below w0.heap.size w0 W0→Below w0.heap.size w0 W:=by intro h_;repeat(first|(with_reducible first|exact h_|apply below_alloc|apply pw_below_drewN|apply below_drew1|refine below_set ?_ (IsS91.ge (Aside0.out (by assumption)))|refine below_set ?_ (Aside0.out (by assumption)))|exact h_)):Below w0.heap.size w0 W:=hr h.out
theorem cs91_ {w0 W:World} {g:Nat} {f0:ByteArray} {f1:Int} {f2:Int} {f3:Bool} {f4:Bool} {f5:Bool} {f6:Bool} {f7:Bool} {f8:Bool} (h:Aside0 (IsS91 w0 W g f0 f1 f2 f3 f4 f5 f6 f7 f8)):W.cell? ⟨g,0,none⟩=some (.string f0)∧W.cell? ⟨g,1,none⟩=some (.int .i64 f1)∧W.cell? ⟨g,2,none⟩=some (.int .i64 f2)∧W.cell? ⟨g,3,none⟩=some (.bool f3)∧W.cell? ⟨g,4,none⟩=some (.bool f4)∧W.cell? ⟨g,5,none⟩=some (.bool f5)∧W.cell? ⟨g,6,none⟩=some (.bool f6)∧W.cell? ⟨g,7,none⟩=some (.bool f7)∧W.cell? ⟨g,8,none⟩=some (.bool f8)∧W.frozen? ⟨g,0,none⟩=false∧W.frozen? ⟨g,1,none⟩=false∧W.frozen? ⟨g,2,none⟩=false∧W.frozen? ⟨g,3,none⟩=false∧W.frozen? ⟨g,4,none⟩=false∧W.frozen? ⟨g,5,none⟩=false∧W.frozen? ⟨g,6,none⟩=false∧W.frozen? ⟨g,7,none⟩=false∧W.frozen? ⟨g,8,none⟩=false:=⟨cellS91_0 h.out.1,cellS91_1 h.out.1,cellS91_2 h.out.1,cellS91_3 h.out.1,cellS91_4 h.out.1,cellS91_5 h.out.1,cellS91_6 h.out.1,cellS91_7 h.out.1,cellS91_8 h.out.1,blk_frozen h.out.1 0,blk_frozen h.out.1 1,blk_frozen h.out.1 2,blk_frozen h.out.1 3,blk_frozen h.out.1 4,blk_frozen h.out.1 5,blk_frozen h.out.1 6,blk_frozen h.out.1 7,blk_frozen h.out.1 8⟩
theorem IsS91.new (w0 W:World) (f0:ByteArray) (f1:Int) (f2:Int) (f3:Bool) (f4:Bool) (f5:Bool) (f6:Bool) (f7:Bool) (f8:Bool) (hB:Below w0.heap.size w0 W):IsS91 w0 (W.alloc (.cells #[.string f0,.int .i64 f1,.int .i64 f2,.bool f3,.bool f4,.bool f5,.bool f6,.bool f7,.bool f8] 91)) W.heap.size f0 f1 f2 f3 f4 f5 f6 f7 f8:=⟨by simpa using heap_alloc_new W _,hB.size⟩

def rule_reader_blanks.l0:Nat→ByteArray→Int→Int→Bool→Bool→Bool→Bool→Bool→Bool→Option (ByteArray × Int × Int × Bool × Bool × Bool × Bool × Bool × Bool)
 | 0,_,_,_,_,_,_,_,_,_=>none
 | k+1,x1000,x1001,x1002,x1003,x1004,x1005,x1006,x1007,x1008=>if x1001<(x1000.size:Int) then (if 0≤x1001 then (if (bt x1000 x1001)=32 then (rule_reader_blanks.l0 k x1000 (wrap64 (x1001+1)) x1002 x1003 x1004 x1005 x1006 x1007 x1008) else (some (x1000,x1001,x1002,x1003,x1004,x1005,x1006,x1007,x1008))) else (none)) else (some (x1000,x1001,x1002,x1003,x1004,x1005,x1006,x1007,x1008))
def rule_reader_blanks.f (k:Nat) (s0_0:ByteArray) (s0_1:Int) (s0_2:Int) (s0_3:Bool) (s0_4:Bool) (s0_5:Bool) (s0_6:Bool) (s0_7:Bool) (s0_8:Bool):Option (ByteArray × Int × Int × Bool × Bool × Bool × Bool × Bool × Bool):=rule_reader_blanks.l0 k s0_0 s0_1 s0_2 s0_3 s0_4 s0_5 s0_6 s0_7 s0_8
theorem rule_reader_blanks.calls (k:Nat) (g:Nat) (s0_0:ByteArray) (s0_1:Int) (s0_2:Int) (s0_3:Bool) (s0_4:Bool) (s0_5:Bool) (s0_6:Bool) (s0_7:Bool) (s0_8:Bool) (r1:ByteArray) (r2:Int) (r3:Int) (r4:Bool) (r5:Bool) (r6:Bool) (r7:Bool) (r8:Bool) (r9:Bool) (w0 w:World) (hI:IsS91 w0 w g s0_0 s0_1 s0_2 s0_3 s0_4 s0_5 s0_6 s0_7 s0_8) (hB:Below w0.heap.size w0 w) (h:rule_reader_blanks.f k s0_0 s0_1 s0_2 s0_3 s0_4 s0_5 s0_6 s0_7 s0_8=some (r1,r2,r3,r4,r5,r6,r7,r8,r9)) :
  Calls Tryz.prog 82 #[.pointer (some ⟨g,0,none⟩)] w fun e w'=>e= .returned (.tuple #[])∧IsS91 w0 w' g r1 r2 r3 r4 r5 r6 r7 r8 r9∧Below w0.heap.size w0 w'∧KeepBut w w' g none:=by
 have HI0:=am_ hI
 have HK:=am_ (KeepBut.refl w g none)
 have HL:=am_ hB.size
 clear hI
 have HW0:=am_ hB.size
 have HB:=am_ hB
 clear hB
 have H:=h
 clear h
 unfold rule_reader_blanks.f at H
 have H':=am_ H
 clear H
 go_enter Tryz.func82,Tryz.ntmps82
 go_wp2
 repeat(go_quiet (fail);try go_wp2)
 go_loopg [] k (fun kq w'=>∃(x1001_1:Int),Aside0 (rule_reader_blanks.l0 kq s0_0 x1001_1 s0_2 s0_3 s0_4 s0_5 s0_6 s0_7 s0_8=some (r1,r2,r3,r4,r5,r6,r7,r8,r9))∧Aside0 (kq≤k)∧Aside0 (IsS91 w0 w' g s0_0 x1001_1 s0_2 s0_3 s0_4 s0_5 s0_6 s0_7 s0_8)∧Aside0 (KeepBut w w' g none)∧Aside0 (Below w0.heap.size w0 w'))
 case atStart=>exact⟨(s0_1),H',⟨Nat.le_refl _⟩,⟨is91_ HI0⟩,⟨kp_ HK⟩,⟨bs91_ HB HI0⟩⟩
 clear H'
 obtain⟨x1001_1,HA,HK1,HI0,HK,HB⟩:=hrel
 cases gk with
 | zero=>exact absurd HA.out (by simp[rule_reader_blanks.l0])
 | succ k1=>?_
 have H:=HA.out
 clear HA
 simp only[rule_reader_blanks.l0] at H
 by_cases c2:x1001_1<(s0_0.size:Int)
 ·rw[if_pos c2] at H
  have c2b0:=decide_eq_true c2
  clear c2
  replace H:=ifn_ H
  obtain⟨c3,H⟩:=H
  have c3b0:decide (0≤x1001_1)=true:=decide_eq_true c3
  clear c3
  by_cases c5:(bt s0_0 x1001_1)=32
  ·rw[if_pos c5] at H
   have c5b0:((bt s0_0 x1001_1)==32)=true:=beq_iff_eq.mpr c5
   have c5b1:((bt s0_0 x1001_1) !=32)=false:=bne_eq_false_iff_eq.mpr c5
   clear c5
   have H':=am_ H
   clear H
   obtain⟨hcz6_0,hcz6_1,hcz6_2,hcz6_3,hcz6_4,hcz6_5,hcz6_6,hcz6_7,hcz6_8,hfz6_0,hfz6_1,hfz6_2,hfz6_3,hfz6_4,hfz6_5,hfz6_6,hfz6_7,hfz6_8⟩:=cs91_ HI0
   have p4:0≤(x1001_1:Int):=od_
   have q4:x1001_1<(s0_0.size:Int):=od_
   have hx4:=bt_at s0_0 x1001_1
   replace p4:=eq_true p4
   replace q4:=eq_true q4
   go_wp2
   repeat(go_quiet (fail);try go_wp2)
   go_roundg k1
   case measure=>have:=HK1.out;omega
   case rel=>exact⟨(wrap64 (x1001_1+1)),H',⟨by have:=HK1.out;omega⟩,⟨is91_ HI0⟩,⟨kp_ HK⟩,⟨bs91_ HB HI0⟩⟩
  rw[if_neg c5] at H
  have c5b0:((bt s0_0 x1001_1)==32)=false:=beq_eq_false_iff_ne.mpr c5
  have c5b1:((bt s0_0 x1001_1) !=32)=true:=bne_iff_ne.mpr c5
  simp only[Option.some.injEq,Prod.mk.injEq] at H
  obtain⟨rfl,rfl,rfl,rfl,rfl,rfl,rfl,rfl,rfl⟩:=H
  obtain⟨hcz7_0,hcz7_1,hcz7_2,hcz7_3,hcz7_4,hcz7_5,hcz7_6,hcz7_7,hcz7_8,hfz7_0,hfz7_1,hfz7_2,hfz7_3,hfz7_4,hfz7_5,hfz7_6,hfz7_7,hfz7_8⟩:=cs91_ HI0
  have p4:0≤(x1001_1:Int):=od_
  have q4:x1001_1<(s0_0.size:Int):=od_
  have hx4:=bt_at s0_0 x1001_1
  replace p4:=eq_true p4
  replace q4:=eq_true q4
  go_wp2
  repeat(go_quiet (fail);try go_wp2)
  first|go_end0|((try simp only[Exit.inBlock,Exit.then]);refine bodyPost_ret (results_none rfl _ _ _) rfl ?_)
  exact⟨ew_,is91_ HI0,bs91_ HB HI0,kp_ HK⟩
 rw[if_neg c2] at H
 have c2b0:=decide_eq_false c2
 clear c2
 simp only[Option.some.injEq,Prod.mk.injEq] at H
 obtain⟨rfl,rfl,rfl,rfl,rfl,rfl,rfl,rfl,rfl⟩:=H
 obtain⟨hcz8_0,hcz8_1,hcz8_2,hcz8_3,hcz8_4,hcz8_5,hcz8_6,hcz8_7,hcz8_8,hfz8_0,hfz8_1,hfz8_2,hfz8_3,hfz8_4,hfz8_5,hfz8_6,hfz8_7,hfz8_8⟩:=cs91_ HI0
 go_wp2
 repeat(go_quiet (fail);try go_wp2)
 first|go_end0|((try simp only[Exit.inBlock,Exit.then]);refine bodyPost_ret (results_none rfl _ _ _) rfl ?_)
 exact⟨ew_,is91_ HI0,bs91_ HB HI0,kp_ HK⟩

def rule_reader_peek.f (k:Nat) (s0_0:ByteArray) (s0_1:Int) (s0_2:Int) (s0_3:Bool) (s0_4:Bool) (s0_5:Bool) (s0_6:Bool) (s0_7:Bool) (s0_8:Bool):Option (Int × ByteArray × Int × Int × Bool × Bool × Bool × Bool × Bool × Bool):=(rule_reader_blanks.f k s0_0 s0_1 s0_2 s0_3 s0_4 s0_5 s0_6 s0_7 s0_8).bind fun bt162=>(if bt162.2.1=(bt162.1.size:Int) then (some (0,bt162.1,bt162.2.1,bt162.2.2.1,bt162.2.2.2.1,bt162.2.2.2.2.1,bt162.2.2.2.2.2.1,bt162.2.2.2.2.2.2.1,bt162.2.2.2.2.2.2.2.1,bt162.2.2.2.2.2.2.2.2)) else (if 0≤bt162.2.1 then (if bt162.2.1<(bt162.1.size:Int) then (some (bt bt162.1 bt162.2.1,bt162.1,bt162.2.1,bt162.2.2.1,bt162.2.2.2.1,bt162.2.2.2.2.1,bt162.2.2.2.2.2.1,bt162.2.2.2.2.2.2.1,bt162.2.2.2.2.2.2.2.1,bt162.2.2.2.2.2.2.2.2)) else (none)) else (none)))
theorem rule_reader_peek.calls (k:Nat) (g:Nat) (s0_0:ByteArray) (s0_1:Int) (s0_2:Int) (s0_3:Bool) (s0_4:Bool) (s0_5:Bool) (s0_6:Bool) (s0_7:Bool) (s0_8:Bool) (r1:Int) (r2:ByteArray) (r3:Int) (r4:Int) (r5:Bool) (r6:Bool) (r7:Bool) (r8:Bool) (r9:Bool) (r10:Bool) (w0 w:World) (hI:IsS91 w0 w g s0_0 s0_1 s0_2 s0_3 s0_4 s0_5 s0_6 s0_7 s0_8) (hB:Below w0.heap.size w0 w) (h:rule_reader_peek.f k s0_0 s0_1 s0_2 s0_3 s0_4 s0_5 s0_6 s0_7 s0_8=some (r1,r2,r3,r4,r5,r6,r7,r8,r9,r10)) :
  Calls Tryz.prog 59 #[.pointer (some ⟨g,0,none⟩)] w fun e w'=>e= .returned (.int .u8 r1)∧IsS91 w0 w' g r2 r3 r4 r5 r6 r7 r8 r9 r10∧Below w0.heap.size w0 w'∧KeepBut w w' g none:=by
 have HI0:=am_ hI
 have HK:=am_ (KeepBut.refl w g none)
 have HL:=am_ hB.size
 clear hI
 have HW0:=am_ hB.size
 have HB:=am_ hB
 clear hB
 have H:=h
 clear h
 unfold rule_reader_peek.f at H
 replace H:=Option.bind_eq_some_iff.mp H
 obtain⟨⟨t162,t163,t164,t165,t166,t167,t168,t169,t170⟩,A20,H⟩:=H
 dsimp only at H
 have A2:=am_ A20
 clear A20
 by_cases c3:t163=(t162.size:Int)
 ·rw[if_pos c3] at H
  have c3b0:(t163==(t162.size:Int))=true:=beq_iff_eq.mpr c3
  have c3b1:(t163 !=(t162.size:Int))=false:=bne_eq_false_iff_eq.mpr c3
  clear c3
  simp only[Option.some.injEq,Prod.mk.injEq] at H
  obtain⟨rfl,rfl,rfl,rfl,rfl,rfl,rfl,rfl,rfl,rfl⟩:=H
  go_enter Tryz.func59,Tryz.ntmps59
  go_wp2_with (first|(go_at_call 82;(with_reducible refine(rule_reader_blanks.calls _ _ _ _ _ _ _ _ _ _ _ _ _ _ _ _ _ _ _ _ w0 _ ?side1 ?side2 A2.out).mono ?_);(case side1=>exact is91_ HI0);(case side2=>exact bs91_ HB HI0);rintro e w4 ⟨rfl,hi,hb,hk⟩;replace HK:=am_ (KeepBut.trans (kp_ HK) hk (.inl rfl));replace HB:=am_ (hb);replace HI0:=am_ (hi);(try clear hb);(try clear hk);(try clear hi);obtain⟨hcz5_0,hcz5_1,hcz5_2,hcz5_3,hcz5_4,hcz5_5,hcz5_6,hcz5_7,hcz5_8,hfz5_0,hfz5_1,hfz5_2,hfz5_3,hfz5_4,hfz5_5,hfz5_6,hfz5_7,hfz5_8⟩:=cs91_ HI0))
  repeat(go_quiet (first|(go_at_call 82;(with_reducible refine(rule_reader_blanks.calls _ _ _ _ _ _ _ _ _ _ _ _ _ _ _ _ _ _ _ _ w0 _ ?side1 ?side2 A2.out).mono ?_);(case side1=>exact is91_ HI0);(case side2=>exact bs91_ HB HI0);rintro e w4 ⟨rfl,hi,hb,hk⟩;replace HK:=am_ (KeepBut.trans (kp_ HK) hk (.inl rfl));replace HB:=am_ (hb);replace HI0:=am_ (hi);(try clear hb);(try clear hk);(try clear hi);obtain⟨hcz5_0,hcz5_1,hcz5_2,hcz5_3,hcz5_4,hcz5_5,hcz5_6,hcz5_7,hcz5_8,hfz5_0,hfz5_1,hfz5_2,hfz5_3,hfz5_4,hfz5_5,hfz5_6,hfz5_7,hfz5_8⟩:=cs91_ HI0));try go_wp2_with (first|(go_at_call 82;(with_reducible refine(rule_reader_blanks.calls _ _ _ _ _ _ _ _ _ _ _ _ _ _ _ _ _ _ _ _ w0 _ ?side1 ?side2 A2.out).mono ?_);(case side1=>exact is91_ HI0);(case side2=>exact bs91_ HB HI0);rintro e w4 ⟨rfl,hi,hb,hk⟩;replace HK:=am_ (KeepBut.trans (kp_ HK) hk (.inl rfl));replace HB:=am_ (hb);replace HI0:=am_ (hi);(try clear hb);(try clear hk);(try clear hi);obtain⟨hcz5_0,hcz5_1,hcz5_2,hcz5_3,hcz5_4,hcz5_5,hcz5_6,hcz5_7,hcz5_8,hfz5_0,hfz5_1,hfz5_2,hfz5_3,hfz5_4,hfz5_5,hfz5_6,hfz5_7,hfz5_8⟩:=cs91_ HI0)))
  go_ret
  exact⟨ew_,is91_ HI0,bs91_ HB HI0,kp_ HK⟩
 rw[if_neg c3] at H
 have c3b0:(t163==(t162.size:Int))=false:=beq_eq_false_iff_ne.mpr c3
 have c3b1:(t163 !=(t162.size:Int))=true:=bne_iff_ne.mpr c3
 replace H:=ifn_ H
 obtain⟨c6,H⟩:=H
 have c6b0:decide (0≤t163)=true:=decide_eq_true c6
 clear c6
 replace H:=ifn_ H
 obtain⟨c7,H⟩:=H
 have c7b0:decide (t163<(t162.size:Int))=true:=decide_eq_true c7
 clear c7
 simp only[Option.some.injEq,Prod.mk.injEq] at H
 obtain⟨rfl,rfl,rfl,rfl,rfl,rfl,rfl,rfl,rfl,rfl⟩:=H
 go_enter Tryz.func59,Tryz.ntmps59
 go_wp2_with (first|(go_at_call 82;(with_reducible refine(rule_reader_blanks.calls _ _ _ _ _ _ _ _ _ _ _ _ _ _ _ _ _ _ _ _ w0 _ ?side1 ?side2 A2.out).mono ?_);(case side1=>exact is91_ HI0);(case side2=>exact bs91_ HB HI0);rintro e w9 ⟨rfl,hi,hb,hk⟩;replace HK:=am_ (KeepBut.trans (kp_ HK) hk (.inl rfl));replace HB:=am_ (hb);replace HI0:=am_ (hi);(try clear hb);(try clear hk);(try clear hi);obtain⟨hcz10_0,hcz10_1,hcz10_2,hcz10_3,hcz10_4,hcz10_5,hcz10_6,hcz10_7,hcz10_8,hfz10_0,hfz10_1,hfz10_2,hfz10_3,hfz10_4,hfz10_5,hfz10_6,hfz10_7,hfz10_8⟩:=cs91_ HI0;have p8:0≤(t163:Int):=od_;have q8:t163<(t162.size:Int):=od_;have hx8:=bt_at t162 t163;replace p8:=eq_true p8;replace q8:=eq_true q8))
 repeat(go_quiet (first|(go_at_call 82;(with_reducible refine(rule_reader_blanks.calls _ _ _ _ _ _ _ _ _ _ _ _ _ _ _ _ _ _ _ _ w0 _ ?side1 ?side2 A2.out).mono ?_);(case side1=>exact is91_ HI0);(case side2=>exact bs91_ HB HI0);rintro e w9 ⟨rfl,hi,hb,hk⟩;replace HK:=am_ (KeepBut.trans (kp_ HK) hk (.inl rfl));replace HB:=am_ (hb);replace HI0:=am_ (hi);(try clear hb);(try clear hk);(try clear hi);obtain⟨hcz10_0,hcz10_1,hcz10_2,hcz10_3,hcz10_4,hcz10_5,hcz10_6,hcz10_7,hcz10_8,hfz10_0,hfz10_1,hfz10_2,hfz10_3,hfz10_4,hfz10_5,hfz10_6,hfz10_7,hfz10_8⟩:=cs91_ HI0;have p8:0≤(t163:Int):=od_;have q8:t163<(t162.size:Int):=od_;have hx8:=bt_at t162 t163;replace p8:=eq_true p8;replace q8:=eq_true q8));try go_wp2_with (first|(go_at_call 82;(with_reducible refine(rule_reader_blanks.calls _ _ _ _ _ _ _ _ _ _ _ _ _ _ _ _ _ _ _ _ w0 _ ?side1 ?side2 A2.out).mono ?_);(case side1=>exact is91_ HI0);(case side2=>exact bs91_ HB HI0);rintro e w9 ⟨rfl,hi,hb,hk⟩;replace HK:=am_ (KeepBut.trans (kp_ HK) hk (.inl rfl));replace HB:=am_ (hb);replace HI0:=am_ (hi);(try clear hb);(try clear hk);(try clear hi);obtain⟨hcz10_0,hcz10_1,hcz10_2,hcz10_3,hcz10_4,hcz10_5,hcz10_6,hcz10_7,hcz10_8,hfz10_0,hfz10_1,hfz10_2,hfz10_3,hfz10_4,hfz10_5,hfz10_6,hfz10_7,hfz10_8⟩:=cs91_ HI0;have p8:0≤(t163:Int):=od_;have q8:t163<(t162.size:Int):=od_;have hx8:=bt_at t162 t163;replace p8:=eq_true p8;replace q8:=eq_true q8)))
 go_ret
 exact⟨ew_,is91_ HI0,bs91_ HB HI0,kp_ HK⟩

end Go.Proofs.YtadagjgkanlmdaaGreatDoor.P
