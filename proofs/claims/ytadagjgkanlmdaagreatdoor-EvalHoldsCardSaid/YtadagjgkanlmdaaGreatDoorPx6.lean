import Derived.Test.YtadagjgkanlmdaaGreatDoorPx0
import Derived.Test.YtadagjgkanlmdaaGreatDoorPx1
import Derived.Test.YtadagjgkanlmdaaGreatDoorPx2
import Derived.Test.YtadagjgkanlmdaaGreatDoorPx5
namespace Go.Proofs.YtadagjgkanlmdaaGreatDoor.P
open Go.RowKit Go.Proofs.YtadagjgkanlmdaaGreatDoorW.PrintWords Go.Proofs.YtadagjgkanlmdaaGreatDoorW.PrintLast Go.Proofs.YtadagjgkanlmdaaGreatDoorW.PrintMore
attribute [local go_sem] max2_int min2_int max_two min_two max_three min_three max_four min_four
set_option maxHeartbeats 64000000
set_option maxRecDepth 100000
set_option linter.unusedVariables false
set_option linter.unusedSimpArgs false

def operand_cut.l0:Nat→ByteArray→ByteArray→Int→Int→Option (ByteArray × ByteArray × Bool)
 | 0,_,_,_,_=>none
 | k+1,x0,x1,x9,x10=>if x10<x9 then (if 0≤x10 then (if x10<(x0.size:Int) then ((strings_IndexByte.f x1 (bt x0 x10)).bind fun t571=>(if t571≥0 then (if x10≤(x0.size:Int) then (if 0≤(wrap64 (x10+1)) then (if (wrap64 (x10+1))≤(x0.size:Int) then (some (x0.extract 0 (x10:Int).toNat,x0.extract ((wrap64 (x10+1)):Int).toNat x0.size,true)) else (none)) else (none)) else (none)) else (operand_cut.l0 k x0 x1 x9 (wrap64 (x10+1))))) else (none)) else (none)) else (some (x0,(⟨#[]⟩:ByteArray),false))
def operand_cut.f (k:Nat) (a0:ByteArray) (a1:ByteArray):Option (ByteArray × ByteArray × Bool):=operand_cut.l0 k a0 a1 (a0.size:Int) 0
theorem operand_cut.calls (k:Nat) (a0:ByteArray) (a1:ByteArray) (r1:ByteArray) (r2:ByteArray) (r3:Bool) (w:World) (h:operand_cut.f k a0 a1=some (r1,r2,r3)) :
  Calls Tryz.prog 46 #[.string a0,.string a1] w fun e w'=>e= .returned (.tuple #[.string r1,.string r2,.bool r3])∧Drawn0 w w':=by
 have H:=h
 clear h
 unfold operand_cut.f at H
 have H':=am_ H
 clear H
 go_enter Tryz.func46,Tryz.ntmps46
 go_wp2
 repeat(go_quiet (fail);try go_wp2)
 go_loopg [10] k (fun kq v10 w'=>∃(x10_1:Int),v10= .int .i64 x10_1∧Aside0 (operand_cut.l0 kq a0 a1 (a0.size:Int) x10_1=some (r1,r2,r3))∧Aside0 (kq≤k)∧Drawn0 w w')
 case atStart=>exact⟨(0),eq_,H',⟨Nat.le_refl _⟩,by repeat(first|exact Drawn0.refl _|apply Drawn0.step)⟩
 clear H'
 obtain⟨x10_1,rfl,HA,HK1,⟨m1,rfl⟩⟩:=hrel
 cases gk with
 | zero=>exact absurd HA.out (by simp[operand_cut.l0])
 | succ k1=>?_
 have H:=HA.out
 clear HA
 simp only[operand_cut.l0] at H
 by_cases c3:x10_1<(a0.size:Int)
 ·rw[if_pos c3] at H
  have c3b0:=decide_eq_true c3
  clear c3
  replace H:=ifn_ H
  obtain⟨c4,H⟩:=H
  have c4b0:decide (0≤x10_1)=true:=decide_eq_true c4
  clear c4
  replace H:=ifn_ H
  obtain⟨c5,H⟩:=H
  have c5b0:decide (x10_1<(a0.size:Int))=true:=decide_eq_true c5
  clear c5
  replace H:=Option.bind_eq_some_iff.mp H
  obtain⟨t571,A70,H⟩:=H
  have A7:=am_ A70
  clear A70
  by_cases c8:t571≥0
  ·rw[if_pos c8] at H
   have c8b0:decide (0≤t571)=true:=decide_eq_true c8
   clear c8
   have c9b0:=eq_true (od_:0≤x10_1)
   replace H:=ifn_ H
   obtain⟨c10,H⟩:=H
   have c10b0:=eq_true c10
   have c10b1:decide (x10_1≤(a0.size:Int))=true:=decide_eq_true c10
   clear c10
   obtain⟨ji11,hji11⟩:∃j_:Int,(wrap64 (x10_1+1))=j_:=⟨_,rfl⟩
   replace H:(if 0≤(ji11) then (if (ji11)≤(a0.size:Int) then (some (a0.extract 0 (x10_1:Int).toNat,a0.extract ((ji11):Int).toNat a0.size,true)) else (none)) else (none))=some (r1,r2,r3):=by first|(rw[hji11] at H;exact H)|(simp only[hji11] at H ⊢;exact H)
   (try rw[hji11] at A7)
   have hji11w:(IntKind.i64.wrap (x10_1+1))=ji11:=(i64_w _).trans hji11
   replace H:=ifn_ H
   obtain⟨c12,H⟩:=H
   have c12b0:=eq_true c12
   have c12b1:decide (0≤(ji11))=true:=decide_eq_true c12
   clear c12
   replace H:=ifn_ H
   obtain⟨c13,H⟩:=H
   have c13b0:=eq_true c13
   have c13b1:decide ((ji11)≤(a0.size:Int))=true:=decide_eq_true c13
   clear c13
   simp only[Option.some.injEq,Prod.mk.injEq] at H
   obtain⟨rfl,rfl,rfl⟩:=H
   have p6:0≤(x10_1:Int):=od_
   have q6:x10_1<(a0.size:Int):=od_
   have hx6:=bt_at a0 x10_1
   replace p6:=eq_true p6
   replace q6:=eq_true q6
   go_wp2_with (first|(go_at_call 69;(with_reducible refine(strings_IndexByte.calls _ _ _ _ A7.out).mono ?_);rintro e w' ⟨rfl,⟨nd,rfl⟩⟩;(try first|exact⟨rfl,_,World.drewN_drewN _ _ _⟩|exact⟨rfl,_,Eq.trans (World.drewN_drewN _ _ _) (congrArg (World.drewN _) (Nat.add_assoc _ _ _))⟩)))
   repeat(go_quiet (first|(go_at_call 69;(with_reducible refine(strings_IndexByte.calls _ _ _ _ A7.out).mono ?_);rintro e w' ⟨rfl,⟨nd,rfl⟩⟩;(try first|exact⟨rfl,_,World.drewN_drewN _ _ _⟩|exact⟨rfl,_,Eq.trans (World.drewN_drewN _ _ _) (congrArg (World.drewN _) (Nat.add_assoc _ _ _))⟩)));try go_wp2_with (first|(go_at_call 69;(with_reducible refine(strings_IndexByte.calls _ _ _ _ A7.out).mono ?_);rintro e w' ⟨rfl,⟨nd,rfl⟩⟩;(try first|exact⟨rfl,_,World.drewN_drewN _ _ _⟩|exact⟨rfl,_,Eq.trans (World.drewN_drewN _ _ _) (congrArg (World.drewN _) (Nat.add_assoc _ _ _))⟩))))
   go_ret3
   exact⟨by first|rfl|(simp;done)|(simp only[← hji11] <;> (first|rfl|simp))|(simp[*];done),by repeat(first|exact Drawn0.refl _|apply Drawn0.step)⟩
  rw[if_neg c8] at H
  have c8b0:decide (0≤t571)=false:=decide_eq_false c8
  clear c8
  have H':=am_ H
  clear H
  have p6:0≤(x10_1:Int):=od_
  have q6:x10_1<(a0.size:Int):=od_
  have hx6:=bt_at a0 x10_1
  replace p6:=eq_true p6
  replace q6:=eq_true q6
  go_wp2_with (first|(go_at_call 69;(with_reducible refine(strings_IndexByte.calls _ _ _ _ A7.out).mono ?_);rintro e w' ⟨rfl,⟨nd,rfl⟩⟩;(try first|exact⟨rfl,_,World.drewN_drewN _ _ _⟩|exact⟨rfl,_,Eq.trans (World.drewN_drewN _ _ _) (congrArg (World.drewN _) (Nat.add_assoc _ _ _))⟩)))
  repeat(go_quiet (first|(go_at_call 69;(with_reducible refine(strings_IndexByte.calls _ _ _ _ A7.out).mono ?_);rintro e w' ⟨rfl,⟨nd,rfl⟩⟩;(try first|exact⟨rfl,_,World.drewN_drewN _ _ _⟩|exact⟨rfl,_,Eq.trans (World.drewN_drewN _ _ _) (congrArg (World.drewN _) (Nat.add_assoc _ _ _))⟩)));try go_wp2_with (first|(go_at_call 69;(with_reducible refine(strings_IndexByte.calls _ _ _ _ A7.out).mono ?_);rintro e w' ⟨rfl,⟨nd,rfl⟩⟩;(try first|exact⟨rfl,_,World.drewN_drewN _ _ _⟩|exact⟨rfl,_,Eq.trans (World.drewN_drewN _ _ _) (congrArg (World.drewN _) (Nat.add_assoc _ _ _))⟩))))
  go_roundg k1
  case measure=>have:=HK1.out;omega
  case rel=>exact⟨(wrap64 (x10_1+1)),eq_,H',⟨by have:=HK1.out;omega⟩,by repeat(first|exact Drawn0.refl _|apply Drawn0.step)⟩
 rw[if_neg c3] at H
 have c3b0:=decide_eq_false c3
 clear c3
 simp only[Option.some.injEq,Prod.mk.injEq] at H
 obtain⟨rfl,rfl,rfl⟩:=H
 go_wp2
 repeat(go_quiet (fail);try go_wp2)
 go_ret3
 exact⟨by first|rfl|(simp;done)|(simp[*];done)|(simp;first|exact given_isEmpty _|exact(given_isEmpty _).symm)|(unfold wrap64;omega)|(congr 1;unfold wrap64;omega),by repeat(first|exact Drawn0.refl _|apply Drawn0.step)⟩

def operand_Read.j0:Nat→ByteArray→ByteArray→ByteArray→Bool→Option (ByteArray × ByteArray × Int × Int)
 | 0,_,_,_,_=>none
 | k+1,x5,x7,x8,x54=>if x54=true then (some ((⟨#[]⟩:ByteArray),(⟨#[]⟩:ByteArray),0,1)) else ((num_Int.f k x5).bind fun bt591=>(if bt591.2=true then (if bt591.1>10000 then (some ((⟨#[]⟩:ByteArray),(⟨#[]⟩:ByteArray),0,2)) else (if (wrap64 ((x7.size:Int)+(x8.size:Int)))>1000 then (some ((⟨#[]⟩:ByteArray),(⟨#[]⟩:ByteArray),0,2)) else ((operand_Of.f k false x7 x8 bt591.1).bind fun bt593=>(some (bt593.1,bt593.2.1,bt593.2.2,0))))) else (some ((⟨#[]⟩:ByteArray),(⟨#[]⟩:ByteArray),0,2))))
def operand_Read.f (k:Nat) (a0:ByteArray):Option (ByteArray × ByteArray × Int × Int):=(operand_cut.f k a0 (⟨#[99,101]⟩:ByteArray)).bind fun bt573=>((operand_cut.f k bt573.1 (⟨#[46]⟩:ByteArray)).bind fun bt576=>(if bt576.1.toList=([]:List UInt8) then (operand_Read.j0 k bt573.2.1 bt576.1 bt576.2.1 true) else (if bt576.2.2=true then (if bt576.2.1.toList=([]:List UInt8) then (operand_Read.j0 k bt573.2.1 bt576.1 bt576.2.1 true) else (if bt573.2.2=true then (if bt573.2.1.toList=([]:List UInt8) then (operand_Read.j0 k bt573.2.1 bt576.1 bt576.2.1 true) else ((num_Is.f k bt576.1).bind fun t579=>(if t579=true then ((num_Is.f k bt576.2.1).bind fun t580=>(if t580=true then ((num_Is.f k bt573.2.1).bind fun t581=>(operand_Read.j0 k bt573.2.1 bt576.1 bt576.2.1 (!t581))) else (operand_Read.j0 k bt573.2.1 bt576.1 bt576.2.1 true))) else (operand_Read.j0 k bt573.2.1 bt576.1 bt576.2.1 true)))) else ((num_Is.f k bt576.1).bind fun t582=>(if t582=true then ((num_Is.f k bt576.2.1).bind fun t583=>(if t583=true then ((num_Is.f k bt573.2.1).bind fun t584=>(operand_Read.j0 k bt573.2.1 bt576.1 bt576.2.1 (!t584))) else (operand_Read.j0 k bt573.2.1 bt576.1 bt576.2.1 true))) else (operand_Read.j0 k bt573.2.1 bt576.1 bt576.2.1 true))))) else (if bt573.2.2=true then (if bt573.2.1.toList=([]:List UInt8) then (operand_Read.j0 k bt573.2.1 bt576.1 bt576.2.1 true) else ((num_Is.f k bt576.1).bind fun t585=>(if t585=true then ((num_Is.f k bt576.2.1).bind fun t586=>(if t586=true then ((num_Is.f k bt573.2.1).bind fun t587=>(operand_Read.j0 k bt573.2.1 bt576.1 bt576.2.1 (!t587))) else (operand_Read.j0 k bt573.2.1 bt576.1 bt576.2.1 true))) else (operand_Read.j0 k bt573.2.1 bt576.1 bt576.2.1 true)))) else ((num_Is.f k bt576.1).bind fun t588=>(if t588=true then ((num_Is.f k bt576.2.1).bind fun t589=>(if t589=true then ((num_Is.f k bt573.2.1).bind fun t590=>(operand_Read.j0 k bt573.2.1 bt576.1 bt576.2.1 (!t590))) else (operand_Read.j0 k bt573.2.1 bt576.1 bt576.2.1 true))) else (operand_Read.j0 k bt573.2.1 bt576.1 bt576.2.1 true)))))))
theorem operand_Read.calls (k:Nat) (a0:ByteArray) (r1:ByteArray) (r2:ByteArray) (r3:Int) (r4:Int) (w:World) (h:operand_Read.f k a0=some (r1,r2,r3,r4)) :
  Calls Tryz.prog 23 #[.string a0] w fun e w'=>e= .returned (.tuple #[.agg #[.string r1,.string r2,.int .i64 r3],.int .i64 r4])∧Below w.heap.size w w':=by
 have hu27:=Tryz.underlying27
 have hu30:=Tryz.underlying30
 have HB:=am_ (Below.refl w.heap.size w)
 have H:=h
 clear h
 unfold operand_Read.f at H
 replace H:=Option.bind_eq_some_iff.mp H
 obtain⟨⟨t573,t574,t575⟩,A20,H⟩:=H
 dsimp only at H
 have A2:=am_ A20
 clear A20
 replace H:=Option.bind_eq_some_iff.mp H
 obtain⟨⟨t576,t577,t578⟩,A30,H⟩:=H
 dsimp only at H
 have A3:=am_ A30
 clear A30
 have HC4:=am_ H
 clear H
 go_enter Tryz.func23,Tryz.ntmps23
 go_upto_region 3 with (first|((with_reducible refine gate_dst (N:=2) rfl ?_);(try (refine gate_guard (by rfl) ?_;dsimp only));refine be_ 2 #[.string (⟨#[]⟩:ByteArray),.string (⟨#[]⟩:ByteArray),.int .i64 0] 27 ?_;intro gb572 hg w5 hbox hb;have BK572:=am_ (hbox);have GW572:=sz_ HB hg;have GE572:=sz_ HB hg;replace HB:=am_ (below_step (bl_ HB).out hb);clear hb hbox hg)|((with_reducible refine gate_callee (f:=46) rfl ?_);refine gl_ (some 14) Tryz.func46 #[.string a0,.string (⟨#[99,101]⟩:ByteArray)] ?_;(with_reducible refine(operand_cut.calls _ _ _ _ _ _ _ A2.out).mono ?_);rintro e w' ⟨rfl,⟨nd,rfl⟩⟩;refine⟨_,rfl,?_⟩)|((with_reducible refine gate_callee (f:=46) rfl ?_);refine gl_ (some 20) Tryz.func46 #[.string t573,.string (⟨#[46]⟩:ByteArray)] ?_;(with_reducible refine(operand_cut.calls _ _ _ _ _ _ _ A3.out).mono ?_);rintro e w' ⟨rfl,⟨nd,rfl⟩⟩;refine⟨_,rfl,?_⟩))
 (try simp only[Act.put,List.setIfInBounds_toArray,List.set_cons_zero,List.set_cons_succ])
 go_cut [54] (fun v54 wc=>∃(kq:Nat) (x54_3:Bool),v54= .bool x54_3∧Aside0 (operand_Read.j0 kq t574 t576 t577 x54_3=some (r1,r2,r3,r4))∧Aside0 (kq≤k)∧Aside0 (wc.heap[gb572]? = some (.cells #[.string (⟨#[]⟩:ByteArray),.string (⟨#[]⟩:ByteArray),.int .i64 0] 27 (0,0)))∧Aside0 (Below w.heap.size w wc))
 case first =>
  have H:=HC4.out
  clear HC4
  by_cases c6:t576.toList=([]:List UInt8)
  ·rw[if_pos c6] at H
   have c6b0:(t576.toList==([]:List UInt8))=true:=beq_iff_eq.mpr c6
   have c6b1:(t576.toList !=([]:List UInt8))=false:=bne_eq_false_iff_eq.mpr c6
   have c6b2:(t576.toList.isEmpty)=true:=by rw[c6];rfl
   clear c6
   (first|rw[c6b0]|(simp only[i64_w,i32_w];rw[c6b0])|rw[c6b2]|skip)
   have H':=am_ H
   clear H
   go_wp2
   go_meet
   case rel=>exact⟨_,(true),eq_,H',⟨by first|omega|exact Nat.le_refl _⟩,(bk_ BK572),(bl_ HB)⟩
  rw[if_neg c6] at H
  have c6b0:(t576.toList==([]:List UInt8))=false:=beq_eq_false_iff_ne.mpr c6
  have c6b1:(t576.toList !=([]:List UInt8))=true:=bne_iff_ne.mpr c6
  have c6b2:(t576.toList.isEmpty)=false:=by rw[given_isEmpty,bne_iff_ne.mpr c6];rfl
  (first|rw[c6b0]|(simp only[i64_w,i32_w];rw[c6b0])|rw[c6b2]|skip)
  by_cases c7:t578=true
  ·subst c7
   rw[if_pos rfl] at H
   by_cases c8:t577.toList=([]:List UInt8)
   ·rw[if_pos c8] at H
    have c8b0:(t577.toList==([]:List UInt8))=true:=beq_iff_eq.mpr c8
    have c8b1:(t577.toList !=([]:List UInt8))=false:=bne_eq_false_iff_eq.mpr c8
    have c8b2:(t577.toList.isEmpty)=true:=by rw[c8];rfl
    clear c8
    have H':=am_ H
    clear H
    go_wp2
    go_meet
    case rel=>exact⟨_,(true),eq_,H',⟨by first|omega|exact Nat.le_refl _⟩,(bk_ BK572),(bl_ HB)⟩
   rw[if_neg c8] at H
   have c8b0:(t577.toList==([]:List UInt8))=false:=beq_eq_false_iff_ne.mpr c8
   have c8b1:(t577.toList !=([]:List UInt8))=true:=bne_iff_ne.mpr c8
   have c8b2:(t577.toList.isEmpty)=false:=by rw[given_isEmpty,bne_iff_ne.mpr c8];rfl
   by_cases c9:t575=true
   ·subst c9
    rw[if_pos rfl] at H
    by_cases c10:t574.toList=([]:List UInt8)
    ·rw[if_pos c10] at H
     have c10b0:(t574.toList==([]:List UInt8))=true:=beq_iff_eq.mpr c10
     have c10b1:(t574.toList !=([]:List UInt8))=false:=bne_eq_false_iff_eq.mpr c10
     have c10b2:(t574.toList.isEmpty)=true:=by rw[c10];rfl
     clear c10
     have H':=am_ H
     clear H
     go_wp2
     go_meet
     case rel=>exact⟨_,(true),eq_,H',⟨by first|omega|exact Nat.le_refl _⟩,(bk_ BK572),(bl_ HB)⟩
    rw[if_neg c10] at H
    have c10b0:(t574.toList==([]:List UInt8))=false:=beq_eq_false_iff_ne.mpr c10
    have c10b1:(t574.toList !=([]:List UInt8))=true:=bne_iff_ne.mpr c10
    have c10b2:(t574.toList.isEmpty)=false:=by rw[given_isEmpty,bne_iff_ne.mpr c10];rfl
    replace H:=Option.bind_eq_some_iff.mp H
    obtain⟨t579,A110,H⟩:=H
    have A11:=am_ A110
    clear A110
    by_cases c12:t579=true
    ·subst c12
     rw[if_pos rfl] at H
     replace H:=Option.bind_eq_some_iff.mp H
     obtain⟨t580,A130,H⟩:=H
     have A13:=am_ A130
     clear A130
     by_cases c14:t580=true
     ·subst c14
      rw[if_pos rfl] at H
      replace H:=Option.bind_eq_some_iff.mp H
      obtain⟨t581,A150,H⟩:=H
      have A15:=am_ A150
      clear A150
      have H':=am_ H
      clear H
      go_wp2_with (first|(go_at_call 40;(with_reducible refine(num_Is.calls _ _ _ _ A11.out).mono ?_);rintro e w' ⟨rfl,⟨nd,rfl⟩⟩)|(go_at_call 40;(with_reducible refine(num_Is.calls _ _ _ _ A13.out).mono ?_);rintro e w' ⟨rfl,⟨nd,rfl⟩⟩)|(go_at_call 40;(with_reducible refine(num_Is.calls _ _ _ _ A15.out).mono ?_);rintro e w' ⟨rfl,⟨nd,rfl⟩⟩))
      go_meet
      case rel=>exact⟨_,(!t581),eq_,H',⟨by first|omega|exact Nat.le_refl _⟩,(bk_ BK572),(bl_ HB)⟩
     replace c14:=Bool.eq_false_iff.mpr c14
     subst c14
     rw[if_neg (show ¬(false=true) by decide)] at H
     have H':=am_ H
     clear H
     go_wp2_with (first|(go_at_call 40;(with_reducible refine(num_Is.calls _ _ _ _ A11.out).mono ?_);rintro e w' ⟨rfl,⟨nd,rfl⟩⟩)|(go_at_call 40;(with_reducible refine(num_Is.calls _ _ _ _ A13.out).mono ?_);rintro e w' ⟨rfl,⟨nd,rfl⟩⟩))
     go_meet
     case rel=>exact⟨_,(true),eq_,H',⟨by first|omega|exact Nat.le_refl _⟩,(bk_ BK572),(bl_ HB)⟩
    replace c12:=Bool.eq_false_iff.mpr c12
    subst c12
    rw[if_neg (show ¬(false=true) by decide)] at H
    have H':=am_ H
    clear H
    go_wp2_with (first|(go_at_call 40;(with_reducible refine(num_Is.calls _ _ _ _ A11.out).mono ?_);rintro e w' ⟨rfl,⟨nd,rfl⟩⟩))
    go_meet
    case rel=>exact⟨_,(true),eq_,H',⟨by first|omega|exact Nat.le_refl _⟩,(bk_ BK572),(bl_ HB)⟩
   replace c9:=Bool.eq_false_iff.mpr c9
   subst c9
   rw[if_neg (show ¬(false=true) by decide)] at H
   replace H:=Option.bind_eq_some_iff.mp H
   obtain⟨t582,A160,H⟩:=H
   have A16:=am_ A160
   clear A160
   by_cases c17:t582=true
   ·subst c17
    rw[if_pos rfl] at H
    replace H:=Option.bind_eq_some_iff.mp H
    obtain⟨t583,A180,H⟩:=H
    have A18:=am_ A180
    clear A180
    by_cases c19:t583=true
    ·subst c19
     rw[if_pos rfl] at H
     replace H:=Option.bind_eq_some_iff.mp H
     obtain⟨t584,A200,H⟩:=H
     have A20:=am_ A200
     clear A200
     have H':=am_ H
     clear H
     go_wp2_with (first|(go_at_call 40;(with_reducible refine(num_Is.calls _ _ _ _ A16.out).mono ?_);rintro e w' ⟨rfl,⟨nd,rfl⟩⟩)|(go_at_call 40;(with_reducible refine(num_Is.calls _ _ _ _ A18.out).mono ?_);rintro e w' ⟨rfl,⟨nd,rfl⟩⟩)|(go_at_call 40;(with_reducible refine(num_Is.calls _ _ _ _ A20.out).mono ?_);rintro e w' ⟨rfl,⟨nd,rfl⟩⟩))
     go_meet
     case rel=>exact⟨_,(!t584),eq_,H',⟨by first|omega|exact Nat.le_refl _⟩,(bk_ BK572),(bl_ HB)⟩
    replace c19:=Bool.eq_false_iff.mpr c19
    subst c19
    rw[if_neg (show ¬(false=true) by decide)] at H
    have H':=am_ H
    clear H
    go_wp2_with (first|(go_at_call 40;(with_reducible refine(num_Is.calls _ _ _ _ A16.out).mono ?_);rintro e w' ⟨rfl,⟨nd,rfl⟩⟩)|(go_at_call 40;(with_reducible refine(num_Is.calls _ _ _ _ A18.out).mono ?_);rintro e w' ⟨rfl,⟨nd,rfl⟩⟩))
    go_meet
    case rel=>exact⟨_,(true),eq_,H',⟨by first|omega|exact Nat.le_refl _⟩,(bk_ BK572),(bl_ HB)⟩
   replace c17:=Bool.eq_false_iff.mpr c17
   subst c17
   rw[if_neg (show ¬(false=true) by decide)] at H
   have H':=am_ H
   clear H
   go_wp2_with (first|(go_at_call 40;(with_reducible refine(num_Is.calls _ _ _ _ A16.out).mono ?_);rintro e w' ⟨rfl,⟨nd,rfl⟩⟩))
   go_meet
   case rel=>exact⟨_,(true),eq_,H',⟨by first|omega|exact Nat.le_refl _⟩,(bk_ BK572),(bl_ HB)⟩
  replace c7:=Bool.eq_false_iff.mpr c7
  subst c7
  rw[if_neg (show ¬(false=true) by decide)] at H
  by_cases c21:t575=true
  ·subst c21
   rw[if_pos rfl] at H
   by_cases c22:t574.toList=([]:List UInt8)
   ·rw[if_pos c22] at H
    have c22b0:(t574.toList==([]:List UInt8))=true:=beq_iff_eq.mpr c22
    have c22b1:(t574.toList !=([]:List UInt8))=false:=bne_eq_false_iff_eq.mpr c22
    have c22b2:(t574.toList.isEmpty)=true:=by rw[c22];rfl
    clear c22
    have H':=am_ H
    clear H
    go_wp2
    go_meet
    case rel=>exact⟨_,(true),eq_,H',⟨by first|omega|exact Nat.le_refl _⟩,(bk_ BK572),(bl_ HB)⟩
   rw[if_neg c22] at H
   have c22b0:(t574.toList==([]:List UInt8))=false:=beq_eq_false_iff_ne.mpr c22
   have c22b1:(t574.toList !=([]:List UInt8))=true:=bne_iff_ne.mpr c22
   have c22b2:(t574.toList.isEmpty)=false:=by rw[given_isEmpty,bne_iff_ne.mpr c22];rfl
   replace H:=Option.bind_eq_some_iff.mp H
   obtain⟨t585,A230,H⟩:=H
   have A23:=am_ A230
   clear A230
   by_cases c24:t585=true
   ·subst c24
    rw[if_pos rfl] at H
    replace H:=Option.bind_eq_some_iff.mp H
    obtain⟨t586,A250,H⟩:=H
    have A25:=am_ A250
    clear A250
    by_cases c26:t586=true
    ·subst c26
     rw[if_pos rfl] at H
     replace H:=Option.bind_eq_some_iff.mp H
     obtain⟨t587,A270,H⟩:=H
     have A27:=am_ A270
     clear A270
     have H':=am_ H
     clear H
     go_wp2_with (first|(go_at_call 40;(with_reducible refine(num_Is.calls _ _ _ _ A23.out).mono ?_);rintro e w' ⟨rfl,⟨nd,rfl⟩⟩)|(go_at_call 40;(with_reducible refine(num_Is.calls _ _ _ _ A25.out).mono ?_);rintro e w' ⟨rfl,⟨nd,rfl⟩⟩)|(go_at_call 40;(with_reducible refine(num_Is.calls _ _ _ _ A27.out).mono ?_);rintro e w' ⟨rfl,⟨nd,rfl⟩⟩))
     go_meet
     case rel=>exact⟨_,(!t587),eq_,H',⟨by first|omega|exact Nat.le_refl _⟩,(bk_ BK572),(bl_ HB)⟩
    replace c26:=Bool.eq_false_iff.mpr c26
    subst c26
    rw[if_neg (show ¬(false=true) by decide)] at H
    have H':=am_ H
    clear H
    go_wp2_with (first|(go_at_call 40;(with_reducible refine(num_Is.calls _ _ _ _ A23.out).mono ?_);rintro e w' ⟨rfl,⟨nd,rfl⟩⟩)|(go_at_call 40;(with_reducible refine(num_Is.calls _ _ _ _ A25.out).mono ?_);rintro e w' ⟨rfl,⟨nd,rfl⟩⟩))
    go_meet
    case rel=>exact⟨_,(true),eq_,H',⟨by first|omega|exact Nat.le_refl _⟩,(bk_ BK572),(bl_ HB)⟩
   replace c24:=Bool.eq_false_iff.mpr c24
   subst c24
   rw[if_neg (show ¬(false=true) by decide)] at H
   have H':=am_ H
   clear H
   go_wp2_with (first|(go_at_call 40;(with_reducible refine(num_Is.calls _ _ _ _ A23.out).mono ?_);rintro e w' ⟨rfl,⟨nd,rfl⟩⟩))
   go_meet
   case rel=>exact⟨_,(true),eq_,H',⟨by first|omega|exact Nat.le_refl _⟩,(bk_ BK572),(bl_ HB)⟩
  replace c21:=Bool.eq_false_iff.mpr c21
  subst c21
  rw[if_neg (show ¬(false=true) by decide)] at H
  replace H:=Option.bind_eq_some_iff.mp H
  obtain⟨t588,A280,H⟩:=H
  have A28:=am_ A280
  clear A280
  by_cases c29:t588=true
  ·subst c29
   rw[if_pos rfl] at H
   replace H:=Option.bind_eq_some_iff.mp H
   obtain⟨t589,A300,H⟩:=H
   have A30:=am_ A300
   clear A300
   by_cases c31:t589=true
   ·subst c31
    rw[if_pos rfl] at H
    replace H:=Option.bind_eq_some_iff.mp H
    obtain⟨t590,A320,H⟩:=H
    have A32:=am_ A320
    clear A320
    have H':=am_ H
    clear H
    go_wp2_with (first|(go_at_call 40;(with_reducible refine(num_Is.calls _ _ _ _ A28.out).mono ?_);rintro e w' ⟨rfl,⟨nd,rfl⟩⟩)|(go_at_call 40;(with_reducible refine(num_Is.calls _ _ _ _ A30.out).mono ?_);rintro e w' ⟨rfl,⟨nd,rfl⟩⟩)|(go_at_call 40;(with_reducible refine(num_Is.calls _ _ _ _ A32.out).mono ?_);rintro e w' ⟨rfl,⟨nd,rfl⟩⟩))
    go_meet
    case rel=>exact⟨_,(!t590),eq_,H',⟨by first|omega|exact Nat.le_refl _⟩,(bk_ BK572),(bl_ HB)⟩
   replace c31:=Bool.eq_false_iff.mpr c31
   subst c31
   rw[if_neg (show ¬(false=true) by decide)] at H
   have H':=am_ H
   clear H
   go_wp2_with (first|(go_at_call 40;(with_reducible refine(num_Is.calls _ _ _ _ A28.out).mono ?_);rintro e w' ⟨rfl,⟨nd,rfl⟩⟩)|(go_at_call 40;(with_reducible refine(num_Is.calls _ _ _ _ A30.out).mono ?_);rintro e w' ⟨rfl,⟨nd,rfl⟩⟩))
   go_meet
   case rel=>exact⟨_,(true),eq_,H',⟨by first|omega|exact Nat.le_refl _⟩,(bk_ BK572),(bl_ HB)⟩
  replace c29:=Bool.eq_false_iff.mpr c29
  subst c29
  rw[if_neg (show ¬(false=true) by decide)] at H
  have H':=am_ H
  clear H
  go_wp2_with (first|(go_at_call 40;(with_reducible refine(num_Is.calls _ _ _ _ A28.out).mono ?_);rintro e w' ⟨rfl,⟨nd,rfl⟩⟩))
  go_meet
  case rel=>exact⟨_,(true),eq_,H',⟨by first|omega|exact Nat.le_refl _⟩,(bk_ BK572),(bl_ HB)⟩
 clear HC4
 obtain⟨kq,x54_3,rfl,HA,HJ3,BK572,HB⟩:=hcut
 cases kq with
 | zero=>exact absurd HA.out (by simp[operand_Read.j0])
 | succ kj3=>?_
 have H:=HA.out
 clear HA
 simp only[operand_Read.j0] at H
 by_cases c33:x54_3=true
 ·subst c33
  rw[if_pos rfl] at H
  simp only[Option.some.injEq,Prod.mk.injEq] at H
  obtain⟨rfl,rfl,rfl,rfl⟩:=H
  obtain⟨hcz34_0,hcz34_1,hcz34_2,hfz34_0,hfz34_1,hfz34_2⟩:=bo3_ BK572
  go_wp2
  refine bodyPost_ret (results_ct rfl _ _ gb572 27 #[.string (⟨#[]⟩:ByteArray),.string (⟨#[]⟩:ByteArray),.int .i64 0] (0,0) _ rfl ((bp_ BK572).out) Tryz.underlying27 rfl (by kernel_rfl)) rfl ?_
  exact⟨ew_,(bl_ HB).out⟩
 replace c33:=Bool.eq_false_iff.mpr c33
 subst c33
 rw[if_neg (show ¬(false=true) by decide)] at H
 replace H:=Option.bind_eq_some_iff.mp H
 obtain⟨⟨t591,t592⟩,A350,H⟩:=H
 dsimp only at H
 have A35:=am_ A350
 clear A350
 by_cases c36:t592=true
 ·subst c36
  rw[if_pos rfl] at H
  by_cases c37:t591>10000
  ·rw[if_pos c37] at H
   have c37b0:decide (10000<t591)=true:=decide_eq_true c37
   clear c37
   simp only[Option.some.injEq,Prod.mk.injEq] at H
   obtain⟨rfl,rfl,rfl,rfl⟩:=H
   go_wp2_with (first|((with_reducible refine gate_callee (f:=34) rfl ?_);refine gl_ (some 58) Tryz.func34 #[.string t574] ?_;(with_reducible refine(num_Int.calls _ _ _ _ _ A35.out).mono ?_);rintro e w38 ⟨rfl,hb⟩;refine⟨_,rfl,?_⟩;replace BK572:=bb_ BK572 hb;replace HB:=am_ (below_step (bl_ HB).out hb);(try clear hb);obtain⟨hcz39_0,hcz39_1,hcz39_2,hfz39_0,hfz39_1,hfz39_2⟩:=bo3_ BK572))
   refine bodyPost_ret (results_ct rfl _ _ gb572 27 #[.string (⟨#[]⟩:ByteArray),.string (⟨#[]⟩:ByteArray),.int .i64 0] (0,0) _ rfl ((bp_ BK572).out) Tryz.underlying27 rfl (by kernel_rfl)) rfl ?_
   exact⟨ew_,(bl_ HB).out⟩
  rw[if_neg c37] at H
  have c37b0:decide (10000<t591)=false:=decide_eq_false c37
  clear c37
  by_cases c40:(wrap64 ((t576.size:Int)+(t577.size:Int)))>1000
  ·rw[if_pos c40] at H
   have c40b0:decide (1000<(wrap64 ((t576.size:Int)+(t577.size:Int))))=true:=decide_eq_true c40
   clear c40
   simp only[Option.some.injEq,Prod.mk.injEq] at H
   obtain⟨rfl,rfl,rfl,rfl⟩:=H
   go_wp2_with (first|((with_reducible refine gate_callee (f:=34) rfl ?_);refine gl_ (some 58) Tryz.func34 #[.string t574] ?_;(with_reducible refine(num_Int.calls _ _ _ _ _ A35.out).mono ?_);rintro e w41 ⟨rfl,hb⟩;refine⟨_,rfl,?_⟩;replace BK572:=bb_ BK572 hb;replace HB:=am_ (below_step (bl_ HB).out hb);(try clear hb);obtain⟨hcz42_0,hcz42_1,hcz42_2,hfz42_0,hfz42_1,hfz42_2⟩:=bo3_ BK572))
   refine bodyPost_ret (results_ct rfl _ _ gb572 27 #[.string (⟨#[]⟩:ByteArray),.string (⟨#[]⟩:ByteArray),.int .i64 0] (0,0) _ rfl ((bp_ BK572).out) Tryz.underlying27 rfl (by kernel_rfl)) rfl ?_
   exact⟨ew_,(bl_ HB).out⟩
  rw[if_neg c40] at H
  have c40b0:decide (1000<(wrap64 ((t576.size:Int)+(t577.size:Int))))=false:=decide_eq_false c40
  clear c40
  replace H:=Option.bind_eq_some_iff.mp H
  obtain⟨⟨t593,t594,t595⟩,A430,H⟩:=H
  dsimp only at H
  have A43:=am_ A430
  clear A430
  simp only[Option.some.injEq,Prod.mk.injEq] at H
  obtain⟨rfl,rfl,rfl,rfl⟩:=H
  go_wp2_with (first|((with_reducible refine gate_callee (f:=34) rfl ?_);refine gl_ (some 58) Tryz.func34 #[.string t574] ?_;(with_reducible refine(num_Int.calls _ _ _ _ _ A35.out).mono ?_);rintro e w44 ⟨rfl,hb⟩;refine⟨_,rfl,?_⟩;replace BK572:=bb_ BK572 hb;replace HB:=am_ (below_step (bl_ HB).out hb);(try clear hb);(try clear hi))|((with_reducible refine gate_callee (f:=10) rfl ?_);refine gl_ (some 80) Tryz.func10 #[.agg #[.bool false,.string t576,.string t577],.int .i64 t591] ?_;(with_reducible refine(operand_Of.calls _ _ _ _ _ _ _ _ _ A43.out).mono ?_);rintro e w45 ⟨rfl,hb⟩;refine⟨_,rfl,?_⟩;replace BK572:=bb_ BK572 hb;replace HB:=am_ (below_step (bl_ HB).out hb);(try clear hb);obtain⟨hcz46_0,hcz46_1,hcz46_2,hfz46_0,hfz46_1,hfz46_2⟩:=bo3_ BK572))
  refine bodyPost_ret (results_ct rfl _ _ gb572 27 #[.string t593,.string t594,.int .i64 t595] (0,0) _ rfl ((bp_ BK572).out) Tryz.underlying27 rfl (by kernel_rfl)) rfl ?_
  exact⟨ew_,(bl_ HB).out⟩
 replace c36:=Bool.eq_false_iff.mpr c36
 subst c36
 rw[if_neg (show ¬(false=true) by decide)] at H
 simp only[Option.some.injEq,Prod.mk.injEq] at H
 obtain⟨rfl,rfl,rfl,rfl⟩:=H
 go_wp2_with (first|((with_reducible refine gate_callee (f:=34) rfl ?_);refine gl_ (some 58) Tryz.func34 #[.string t574] ?_;(with_reducible refine(num_Int.calls _ _ _ _ _ A35.out).mono ?_);rintro e w47 ⟨rfl,hb⟩;refine⟨_,rfl,?_⟩;replace BK572:=bb_ BK572 hb;replace HB:=am_ (below_step (bl_ HB).out hb);(try clear hb);obtain⟨hcz48_0,hcz48_1,hcz48_2,hfz48_0,hfz48_1,hfz48_2⟩:=bo3_ BK572))
 refine bodyPost_ret (results_ct rfl _ _ gb572 27 #[.string (⟨#[]⟩:ByteArray),.string (⟨#[]⟩:ByteArray),.int .i64 0] (0,0) _ rfl ((bp_ BK572).out) Tryz.underlying27 rfl (by kernel_rfl)) rfl ?_
 exact⟨ew_,(bl_ HB).out⟩

def florinlaw07_head.f (k:Nat):Option (Bool):=(rule_Parse.f k (⟨#[111,110,101,58,32,105,32,61,32,49,32,97,110,100,32,118,32,61,32,48]⟩:ByteArray)).bind fun bt596=>((operand_Read.f k (⟨#[49]⟩:ByteArray)).bind fun bt601=>((operand_Read.f k (⟨#[49,46,48]⟩:ByteArray)).bind fun bt606=>(if bt596.2.1=0 then (if bt601.2.2.2=0 then (if bt606.2.2.2=0 then ((eval_Pick.f k bt596.1 bt601.1 bt601.2.1 bt601.2.2.1).bind fun t611=>(if t611=1 then ((eval_Pick.f k bt596.1 bt606.1 bt606.2.1 bt606.2.2.1).bind fun t612=>(if t612=5 then (if 0<(bt596.1.length:Int) then ((eval_Meets.f k ((rd_T41 bt596.1 0).f0) ((rd_T41 bt596.1 0).f1) ((rd_T41 bt596.1 0).f2) bt606.1 bt606.2.1 bt606.2.2.1).bind fun t614=>(if t614=true then (none) else ((eval_Meets.f k ((rd_T41 bt596.1 0).f0) ((rd_T41 bt596.1 0).f1) ((rd_T41 bt596.1 0).f2) bt601.1 bt601.2.1 bt601.2.2.1).bind fun t616=>(some t616)))) else (none)) else (none))) else (none))) else (none)) else (none)) else (none))))
def florinlaw07_head.T4:Bool × List (List Nat × List Nat):=(true,[([],[]),([0],[0]),([1],[1]),([2],[2]),([3,2],[2,3]),([2,4],[2,4]),([5,2],[5]),([6],[6]),([7,6],[6,7]),([6,8],[6,8]),([9,6],[9]),([10],[10]),([10],[10]),([11,12,10,10],[10,11,12]),([13,10],[10,13]),([10,14],[10,14]),([15,13],[15]),([16],[16]),([16],[16]),([17,18,16,16],[16,17,18]),([19,16],[16,19]),([16,20],[16,20]),([21,19],[21]),([22],[22]),([23,22],[22,23]),([24,22],[22,24]),([22],[22]),([25,26,22,22],[22,25,26]),([27,22],[22,27]),([22,28],[22,28]),([29,27],[29]),([30],[30]),([31,30],[30,31]),([32,30],[30,32]),([30],[30]),([33,34,30,30],[30,33,34]),([30,35],[30,35]),([36,35,0,1,2,3,4,5,6,7,8,9,10,11,12,13,14,15,16,17,18,19,20,21,22,23,24,25,26,27,28,29,30,31,32,33,34,35,36],[36])])
def florinlaw07_head.B4:List Nat:=[0,1,3,7,15,31,63,127,255,511,1023,2047,2047,8191,16383,32767,65535,131071,131071,524287,1048575,2097151,4194303,8388607,16777215,33554431,8388607,134217727,268435455,536870911,1073741823,2147483647,4294967295,8589934591,2147483647,34359738367,68719476735,137438953471]
theorem florinlaw07_head.tab4:rtab .any (opsOf Tryz.f8 4)=florinlaw07_head.T4:=by kernel_rfl
theorem florinlaw07_head.bits4:waitsOk florinlaw07_head.T4.2 florinlaw07_head.B4=true:=by kernel_rfl
theorem florinlaw07_head.calls (k:Nat)  (r:Bool) (w:World) (h:florinlaw07_head.f k=some r) :
  Calls Tryz.prog 8 #[] w fun e w'=>e= .returned (.bool r)∧Below w.heap.size w w':=by
 have hu27:=Tryz.underlying27
 have hu41:=Tryz.underlying41
 have HB:=am_ (Below.refl w.heap.size w)
 have H:=h
 clear h
 unfold florinlaw07_head.f at H
 replace H:=Option.bind_eq_some_iff.mp H
 obtain⟨⟨t596,t599,t600⟩,A10,H⟩:=H
 dsimp only at H
 have A1:=am_ A10
 clear A10
 replace H:=Option.bind_eq_some_iff.mp H
 obtain⟨⟨t601,t602,t603,t604⟩,A20,H⟩:=H
 dsimp only at H
 have A2:=am_ A20
 clear A20
 replace H:=Option.bind_eq_some_iff.mp H
 obtain⟨⟨t606,t607,t608,t609⟩,A30,H⟩:=H
 dsimp only at H
 have A3:=am_ A30
 clear A30
 by_cases c4:t599=0
 ·rw[if_pos c4] at H
  have c4b0:(t599==0)=true:=beq_iff_eq.mpr c4
  have c4b1:(t599 !=0)=false:=bne_eq_false_iff_eq.mpr c4
  clear c4
  by_cases c5:t604=0
  ·rw[if_pos c5] at H
   have c5b0:(t604==0)=true:=beq_iff_eq.mpr c5
   have c5b1:(t604 !=0)=false:=bne_eq_false_iff_eq.mpr c5
   clear c5
   by_cases c6:t609=0
   ·rw[if_pos c6] at H
    have c6b0:(t609==0)=true:=beq_iff_eq.mpr c6
    have c6b1:(t609 !=0)=false:=bne_eq_false_iff_eq.mpr c6
    clear c6
    replace H:=Option.bind_eq_some_iff.mp H
    obtain⟨t611,A70,H⟩:=H
    have A7:=am_ A70
    clear A70
    by_cases c8:t611=1
    ·rw[if_pos c8] at H
     have c8b0:(t611==1)=true:=beq_iff_eq.mpr c8
     have c8b1:(t611 !=1)=false:=bne_eq_false_iff_eq.mpr c8
     clear c8
     replace H:=Option.bind_eq_some_iff.mp H
     obtain⟨t612,A90,H⟩:=H
     have A9:=am_ A90
     clear A90
     by_cases c10:t612=5
     ·rw[if_pos c10] at H
      have c10b0:(t612==5)=true:=beq_iff_eq.mpr c10
      have c10b1:(t612 !=5)=false:=bne_eq_false_iff_eq.mpr c10
      clear c10
      replace H:=ifn_ H
      obtain⟨c11,H⟩:=H
      have c11b0:decide (0<(t596.length:Int))=true:=decide_eq_true c11
      have c11b1:decide (0<t596.length)=true:=decide_eq_true (by omega)
      clear c11
      replace H:=Option.bind_eq_some_iff.mp H
      obtain⟨t614,A120,H⟩:=H
      have A12:=am_ A120
      clear A120
      by_cases c13:t614=true
      ·subst c13
       rw[if_pos rfl] at H
       exact absurd H (by simp)
      replace c13:=Bool.eq_false_iff.mpr c13
      subst c13
      rw[if_neg (show ¬(false=true) by decide)] at H
      replace H:=Option.bind_eq_some_iff.mp H
      obtain⟨t616,A140,H⟩:=H
      have A14:=am_ A140
      clear A140
      obtain rfl:=Option.some.inj H
      go_enter Tryz.func8,Tryz.ntmps8
      try go_wp2_with (first|((with_reducible refine gate_callee (f:=16) rfl ?_);refine gl_ (some 9) Tryz.func16 #[.string (⟨#[111,110,101,58,32,105,32,61,32,49,32,97,110,100,32,118,32,61,32,48]⟩:ByteArray)] ?_;(with_reducible refine(rule_Parse.calls _ _ _ _ _ _ A1.out).mono ?_);rintro e w15 ⟨v597,rfl,ho0,hb⟩;refine⟨_,rfl,?_⟩;have HO598:=am_ (Kd.N_lower (Kd.N_mono (ok':=fun k_=>True) ho0 (fun k_ hk_=>trivial)) (below_size (bl_ HB).out));replace HB:=am_ (below_step (bl_ HB).out hb);(try clear hb);(try clear ho0))|((with_reducible refine gate_callee (f:=23) rfl ?_);refine gl_ (some 14) Tryz.func23 #[.string (⟨#[49]⟩:ByteArray)] ?_;(with_reducible refine(operand_Read.calls _ _ _ _ _ _ _ A2.out).mono ?_);rintro e w16 ⟨rfl,hb⟩;refine⟨_,rfl,?_⟩;replace HO598:=am_ (Kd.N_below (krN_ HO598) hb);replace HB:=am_ (below_step (bl_ HB).out hb);(try clear hb);(try clear hi))|((with_reducible refine gate_dst (N:=4) rfl ?_);refine be_ 4 #[.string (⟨#[]⟩:ByteArray),.string (⟨#[]⟩:ByteArray),.int .i64 0] 27 ?_;intro gb605 hg w17 hbox hb;have BK605:=am_ (hbox);have GW605:=sz_ HB hg;have GE605:=sz_ HB hg;replace HO598:=am_ (Kd.N_below (Kd.N_elderB (krN_ HO598) gb605 (Nat.le_of_eq hg.symm)) hb);replace HB:=am_ (below_step (bl_ HB).out hb);clear hb hbox hg;obtain⟨hcz18_0,hcz18_1,hcz18_2,hfz18_0,hfz18_1,hfz18_2⟩:=bo3_ BK605)|((with_reducible refine gate_callee (f:=23) rfl ?_);refine gl_ (some 18) Tryz.func23 #[.string (⟨#[49,46,48]⟩:ByteArray)] ?_;(with_reducible refine(operand_Read.calls _ _ _ _ _ _ _ A3.out).mono ?_);rintro e w19 ⟨rfl,hb⟩;refine⟨_,rfl,?_⟩;have n0_:=am_ (Kd.N_below (kfN_ gb605 HO598) hb);have n1_:=am_ (blk_below (g:=gb605) (o:= .cells #[.string t601,.string t602,.int .i64 t603] 27 (0,0)) ((bp_ BK605).out) hb);have n2_:=am_ (below_step (bl_ HB).out hb);clear HO598;clear BK605;clear HB;revert n0_ n1_ n2_;intro HO598 BK605 HB;(try clear hb);(try clear hi))|((with_reducible refine gate_dst (N:=6) rfl ?_);refine be_ 6 #[.string (⟨#[]⟩:ByteArray),.string (⟨#[]⟩:ByteArray),.int .i64 0] 27 ?_;intro gb610 hg w20 hbox hb;have BK610:=am_ (hbox);have GW610:=sz_ HB hg;have GE610:=sz_ HB hg;have NB605_610:=na_ BK605 hg;have NB610_605:=nb_ BK605 hg;replace HO598:=am_ (Kd.N_below (Kd.N_elderB (krN_ HO598) gb610 (Nat.le_of_eq hg.symm)) hb);replace BK605:=bb_ BK605 hb;replace HB:=am_ (below_step (bl_ HB).out hb);clear hb hbox hg;have hnb21:=NB610_605.out;have hnc21:=NB605_610.out;obtain⟨hcz22_0,hcz22_1,hcz22_2,hfz22_0,hfz22_1,hfz22_2⟩:=bo3_ BK610))
      obtain⟨w23,hWz1⟩:∃W_,W_=(((w20.setCell ⟨gb610,0,none⟩ (.string t606)).setCell ⟨gb610,1,none⟩ (.string t607)).setCell ⟨gb610,2,none⟩ (.int .i64 t608)):=⟨_,rfl⟩
      have n0_:Aside0 (Kd.N k41 41 w23 w.heap.size (fun k_=>k_≠gb605∧k_≠gb610) v597 t596):=by rw[hWz1];exact⟨kdN_ (Kd.N_mono (Kd.N_far (Kd.N_far (Kd.N_far (Kd.N_mono HO598.out (fun k_ hk=>(⟨hk,hk.2⟩:_∧k_≠gb610))) (fun _ hk=>hk.2) _) (fun _ hk=>hk.2) _) (fun _ hk=>hk.2) _) (fun _ hk=>⟨hk.1.1.2,hk.1.2⟩))⟩
      have n1_:=wh_ hWz1 (bf_ BK605)
      have n2_:Aside0 (w23.heap[gb610]? = some (.cells #[.string t606,.string t607,.int .i64 t608] 27 (0,0))):=by rw[hWz1];exact⟨(bp_ BK610).out⟩
      have n3_:=wb_ hWz1 (bl_ HB)
      (try clear HO598)
      (try clear BK605)
      (try clear BK610)
      (try clear HB)
      rw[← hWz1]
      clear hWz1
      revert n0_ n1_ n2_ n3_
      intro HO598 BK605 BK610 HB
      replace HO598:=am_ (Kd.N_drew HO598.out)
      replace BK605:=am_ (blk_drew BK605.out)
      replace BK610:=am_ (blk_drew BK610.out)
      replace HB:=am_ (below_drew1 HB.out)
      obtain⟨Ao25,co25,eo25⟩:=Kd.N_slice HO598.out
      (first|subst eo25|(injection eo25 with f1_ f2_ f3_;have f4_:=f1_.symm;have f5_:=f3_.symm;clear f1_ f2_ f3_;subst f4_;subst f5_))
      have p613:0≤(0:Int):=(by omega)
      have q613:0<(t596.length:Int):=od_
      obtain⟨ad613,A613_1,c613_1,e613,hx613_0,hx613_1,hx613_2,hl613_1,hi613_1⟩:=at_T41 (Kd.N_reads' HO598.out).2.2 0 p613 q613
      cases e613
      obtain⟨ce613,hce613,hMe613,hcc613⟩:=Kd.N_get HO598.out z41 0 p613 (by first|exact q613|exact od_|(have e_:=(Kd.N_reads' HO598.out).1;omega))
      obtain⟨ua613_1,uc613_1,rfl,ul613_1,ge613_1⟩:=k41_openF hMe613
      have hv613_1:=hcc613 1 _ rfl
      rw[add_field _ _ 1 (by omega)] at hv613_1
      replace hv613_1:=Option.some.inj (hv613_1.symm.trans hx613_1)
      injection hv613_1 with hva_ hvn_ hvc_
      rw[hva_] at ge613_1
      rw[hvc_] at ul613_1
      have HL613_1:=am_ (show Kd.V (Kd.slice 53 k53) 54 _ w.heap.size _ _ ((rd_T41 t596 0).f1) from Kd.V_mk ul613_1 ge613_1)
      clear hva_ hvn_ hvc_ ge613_1 ul613_1
      clear hcc613 hce613
      have qi613:(0<t596.length)=True:=eq_true (by omega)
      (try rw[show((0:Int)).toNat=0 from rfl] at hx613_0)
      (try rw[show 0*3=0 from rfl] at hx613_0)
      (try rw[Addr.add_zero'] at hx613_0)
      (try rw[show((0:Int)).toNat=0 from rfl] at hx613_1)
      (try rw[show 0*3=0 from rfl] at hx613_1)
      (try rw[Addr.add_zero'] at hx613_1)
      (try rw[show((0:Int)).toNat=0 from rfl] at hx613_2)
      (try rw[show 0*3=0 from rfl] at hx613_2)
      (try rw[Addr.add_zero'] at hx613_2)
      have HR613_1:=am_ hi613_1
      have HC613_1:=am_ hl613_1
      clear hi613_1 hl613_1
      replace p613:=eq_true p613
      replace q613:=eq_true q613
      have p615:0≤(0:Int):=(by omega)
      have q615:0<(t596.length:Int):=od_
      obtain⟨ad615,A615_1,c615_1,e615,hx615_0,hx615_1,hx615_2,hl615_1,hi615_1⟩:=at_T41 (Kd.N_reads' HO598.out).2.2 0 p615 q615
      obtain rfl:ad613=ad615:=(by injection e615)
      obtain⟨ce615,hce615,hMe615,hcc615⟩:=Kd.N_get HO598.out z41 0 p615 (by first|exact q615|exact od_|(have e_:=(Kd.N_reads' HO598.out).1;omega))
      obtain⟨ua615_1,uc615_1,rfl,ul615_1,ge615_1⟩:=k41_openF hMe615
      have hv615_1:=hcc615 1 _ rfl
      rw[add_field _ _ 1 (by omega)] at hv615_1
      replace hv615_1:=Option.some.inj (hv615_1.symm.trans hx615_1)
      injection hv615_1 with hva_ hvn_ hvc_
      rw[hva_] at ge615_1
      rw[hvc_] at ul615_1
      have HL615_1:=am_ (show Kd.V (Kd.slice 53 k53) 54 _ w.heap.size _ _ ((rd_T41 t596 0).f1) from Kd.V_mk ul615_1 ge615_1)
      clear hva_ hvn_ hvc_ ge615_1 ul615_1
      clear hcc615 hce615
      have qi615:(0<t596.length)=True:=eq_true (by omega)
      (try rw[show((0:Int)).toNat=0 from rfl] at hx615_0)
      (try rw[show 0*3=0 from rfl] at hx615_0)
      (try rw[Addr.add_zero'] at hx615_0)
      (try rw[show((0:Int)).toNat=0 from rfl] at hx615_1)
      (try rw[show 0*3=0 from rfl] at hx615_1)
      (try rw[Addr.add_zero'] at hx615_1)
      (try rw[show((0:Int)).toNat=0 from rfl] at hx615_2)
      (try rw[show 0*3=0 from rfl] at hx615_2)
      (try rw[Addr.add_zero'] at hx615_2)
      have HR615_1:=am_ hi615_1
      have HC615_1:=am_ hl615_1
      clear hi615_1 hl615_1
      replace p615:=eq_true p615
      replace q615:=eq_true q615
      have ea_:=Option.some.inj (hx613_1.symm.trans hx615_1)
      injection ea_ with ea_ en_ ec_
      subst ea_
      subst ec_
      clear en_
      refine start_ (n:=38) (S:=fun w'=>w'.cell? ⟨gb605,0,none⟩=some (.string t601)∧w'.cell? ⟨gb605,1,none⟩=some (.string t602)∧w'.cell? ⟨gb605,2,none⟩=some (.int .i64 t603)∧w'.cell? ⟨gb610,0,none⟩=some (.string t606)∧w'.cell? ⟨gb610,1,none⟩=some (.string t607)∧w'.cell? ⟨gb610,2,none⟩=some (.int .i64 t608)∧w'.cell? ad613=some (.int .i64 ((rd_T41 t596 0).f0))∧w'.cell? ⟨ad613.block,ad613.off+1,none⟩=some (.slice A613_1 ((rd_T41 t596 0).f1).length c613_1)∧w'.cell? ⟨ad613.block,ad613.off+2,none⟩=some (.string ((rd_T41 t596 0).f2))∧w'.cell? ad613=some (.int .i64 ((rd_T41 t596 0).f0))∧w'.cell? ⟨ad613.block,ad613.off+1,none⟩=some (.slice A613_1 ((rd_T41 t596 0).f1).length c613_1)∧w'.cell? ⟨ad613.block,ad613.off+2,none⟩=some (.string ((rd_T41 t596 0).f2))) (ds:=[]) #[false,false,false,false,false,false,false,false,false,false,false,false,false,false,false,false,false,false,false,false,false,false,false,false,false,false,false,false,false,false,false,false,false,false,false,false,false,false] (by kernel_rfl) rfl rfl ⟨bc_ BK605 0,bc_ BK605 1,bc_ BK605 2,bc_ BK610 0,bc_ BK610 1,bc_ BK610 2,hx613_0,hx613_1,hx613_2,hx615_0,hx615_1,hx615_2⟩ (fun hHeld=>?_);refine with_tabW florinlaw07_head.tab4 florinlaw07_head.bits4 (fun HT_ HW_=>?_)
      generalize w23.drew=w24 at HO598 BK605 BK610 HB HL613_1 HL615_1 HR613_1 HR615_1 hx613_0 hx613_1 hx613_2 hx615_0 hx615_1 hx615_2 hHeld ⊢
      refine pu_ 0 21 (bm_ 38 1) HT_ ?_
      refine pu_ 1 22 (bm_ 38 3) HT_ ?_
      refine pu_ 2 23 (bm_ 38 7) HT_ ?_
      refine pu_ 3 24 (bm_ 38 15) HT_ ?_
      refine pu_ 4 25 (bm_ 38 31) HT_ ?_
      refine pu_ 5 26 (bm_ 38 63) HT_ ?_
      refine pu_ 6 27 (bm_ 38 127) HT_ ?_
      refine pu_ 7 28 (bm_ 38 255) HT_ ?_
      refine pu_ 8 29 (bm_ 38 511) HT_ ?_
      refine pu_ 9 30 (bm_ 38 1023) HT_ ?_
      refine pu_ 10 31 (bm_ 38 2047) HT_ ?_
      refine pu_ 11 32 (bm_ 38 4095) HT_ ?_
      refine tk_ 12 33 (bm_ 38 8191) HT_ HW_ hHeld rfl (by rintro w' ⟨s0,s1,s2,s3,s4,s5,s6,s7,s8,s9,s10,s11⟩;go_simp;with_reducible rfl) ?_
      refine one_ (i:=13) (N:=some 34) (bm_ 38 16383) rfl rfl (one_of HT_.out (by kernel_rfl)) (by decide) (fun K hK=>?_)
      refine gs_ Tryz.func13 #[.slice (some ad613) t596.length co25,.agg #[.string t601,.string t602,.int .i64 t603]] ?_
      with_reducible refine(eval_Pick.calls _ _ _ _ _ _ _ _ _ ?side1 ?side2 A7.out).mono ?_
      (case side1=>repeat(first|exact(Kd.N_reads' HO598.out).2.2|(with_reducible refine Kd.C_alloc ?_ _)|(with_reducible refine Kd.C_drewN ?_ _)|(with_reducible refine Kd.C_drew ?_)))
      (case side2=>exact(Kd.N_reads' HO598.out).2.1)
      rintro e w26 ⟨rfl,hb⟩
      have HS6_:=(hb.cell (World.block_lt_of_cell? _ _ (hHeld.2.2.2.2.2.2.1))).trans (hHeld.2.2.2.2.2.2.1)
      have HS7_:=(hb.cell (World.block_lt_of_cell? _ _ (hHeld.2.2.2.2.2.2.2.1))).trans (hHeld.2.2.2.2.2.2.2.1)
      have HS8_:=(hb.cell (World.block_lt_of_cell? _ _ (hHeld.2.2.2.2.2.2.2.2.1))).trans (hHeld.2.2.2.2.2.2.2.2.1)
      have HS9_:=(hb.cell (World.block_lt_of_cell? _ _ (hHeld.2.2.2.2.2.2.2.2.2.1))).trans (hHeld.2.2.2.2.2.2.2.2.2.1)
      have HS10_:=(hb.cell (World.block_lt_of_cell? _ _ (hHeld.2.2.2.2.2.2.2.2.2.2.1))).trans (hHeld.2.2.2.2.2.2.2.2.2.2.1)
      have HS11_:=(hb.cell (World.block_lt_of_cell? _ _ (hHeld.2.2.2.2.2.2.2.2.2.2.2))).trans (hHeld.2.2.2.2.2.2.2.2.2.2.2)
      refine⟨_,rfl,?_⟩
      replace HO598:=am_ (Kd.N_below (krN_ HO598) hb)
      replace BK605:=bb_ BK605 hb
      replace BK610:=bb_ BK610 hb
      (try replace HL613_1:=am_ (Kd.V_below (krV_ HL613_1) hb))
      (try replace HL615_1:=am_ (Kd.V_below (krV_ HL615_1) hb))
      (try replace HR613_1:=am_ (Kd.C_below (by repeat(first|(with_reducible exact HR613_1.out)|(with_reducible refine Kd.C_alloc ?_ _)|(with_reducible refine Kd.C_drewN ?_ _)|(with_reducible refine Kd.C_drew ?_)|exact HR613_1.out)) hb))
      (try replace HR615_1:=am_ (Kd.C_below (by repeat(first|(with_reducible exact HR615_1.out)|(with_reducible refine Kd.C_alloc ?_ _)|(with_reducible refine Kd.C_drewN ?_ _)|(with_reducible refine Kd.C_drew ?_)|exact HR615_1.out)) hb))
      replace HB:=am_ (below_step (bl_ HB).out hb)
      (try clear hb)
      (try clear hb2)
      (try clear hk)
      (try clear hi)
      refine hK.out _ _ ⟨bc_ BK605 0,bc_ BK605 1,bc_ BK605 2,bc_ BK610 0,bc_ BK610 1,bc_ BK610 2,HS6_,HS7_,HS8_,HS9_,HS10_,HS11_⟩ (fun hHeld=>?_)
      clear hK K
      refine nm_ 34 ?_
      refine pu_ 14 35 (bm_ 38 32767) HT_ ?_
      refine pu_ 15 36 (bm_ 38 65535) HT_ ?_
      refine pu_ 16 37 (bm_ 38 131071) HT_ ?_
      refine pu_ 17 38 (bm_ 38 262143) HT_ ?_
      refine tk_ 18 39 (bm_ 38 524287) HT_ HW_ hHeld rfl (by rintro w' ⟨s0,s1,s2,s3,s4,s5,s6,s7,s8,s9,s10,s11⟩;go_simp;with_reducible rfl) ?_
      refine one_ (i:=19) (N:=some 40) (bm_ 38 1048575) rfl rfl (one_of HT_.out (by kernel_rfl)) (by decide) (fun K hK=>?_)
      refine gs_ Tryz.func13 #[.slice (some ad613) t596.length co25,.agg #[.string t606,.string t607,.int .i64 t608]] ?_
      with_reducible refine(eval_Pick.calls _ _ _ _ _ _ _ _ _ ?side1 ?side2 A9.out).mono ?_
      (case side1=>repeat(first|exact(Kd.N_reads' HO598.out).2.2|(with_reducible refine Kd.C_alloc ?_ _)|(with_reducible refine Kd.C_drewN ?_ _)|(with_reducible refine Kd.C_drew ?_)))
      (case side2=>exact(Kd.N_reads' HO598.out).2.1)
      rintro e w27 ⟨rfl,hb⟩
      have HS6_:=(hb.cell (World.block_lt_of_cell? _ _ (hHeld.2.2.2.2.2.2.1))).trans (hHeld.2.2.2.2.2.2.1)
      have HS7_:=(hb.cell (World.block_lt_of_cell? _ _ (hHeld.2.2.2.2.2.2.2.1))).trans (hHeld.2.2.2.2.2.2.2.1)
      have HS8_:=(hb.cell (World.block_lt_of_cell? _ _ (hHeld.2.2.2.2.2.2.2.2.1))).trans (hHeld.2.2.2.2.2.2.2.2.1)
      have HS9_:=(hb.cell (World.block_lt_of_cell? _ _ (hHeld.2.2.2.2.2.2.2.2.2.1))).trans (hHeld.2.2.2.2.2.2.2.2.2.1)
      have HS10_:=(hb.cell (World.block_lt_of_cell? _ _ (hHeld.2.2.2.2.2.2.2.2.2.2.1))).trans (hHeld.2.2.2.2.2.2.2.2.2.2.1)
      have HS11_:=(hb.cell (World.block_lt_of_cell? _ _ (hHeld.2.2.2.2.2.2.2.2.2.2.2))).trans (hHeld.2.2.2.2.2.2.2.2.2.2.2)
      refine⟨_,rfl,?_⟩
      replace HO598:=am_ (Kd.N_below (krN_ HO598) hb)
      replace BK605:=bb_ BK605 hb
      replace BK610:=bb_ BK610 hb
      (try replace HL613_1:=am_ (Kd.V_below (krV_ HL613_1) hb))
      (try replace HL615_1:=am_ (Kd.V_below (krV_ HL615_1) hb))
      (try replace HR613_1:=am_ (Kd.C_below (by repeat(first|(with_reducible exact HR613_1.out)|(with_reducible refine Kd.C_alloc ?_ _)|(with_reducible refine Kd.C_drewN ?_ _)|(with_reducible refine Kd.C_drew ?_)|exact HR613_1.out)) hb))
      (try replace HR615_1:=am_ (Kd.C_below (by repeat(first|(with_reducible exact HR615_1.out)|(with_reducible refine Kd.C_alloc ?_ _)|(with_reducible refine Kd.C_drewN ?_ _)|(with_reducible refine Kd.C_drew ?_)|exact HR615_1.out)) hb))
      replace HB:=am_ (below_step (bl_ HB).out hb)
      (try clear hb)
      (try clear hb2)
      (try clear hk)
      (try clear hi)
      refine hK.out _ _ ⟨bc_ BK605 0,bc_ BK605 1,bc_ BK605 2,bc_ BK610 0,bc_ BK610 1,bc_ BK610 2,HS6_,HS7_,HS8_,HS9_,HS10_,HS11_⟩ (fun hHeld=>?_)
      clear hK K
      refine nm_ 40 ?_
      refine pu_ 20 41 (bm_ 38 2097151) HT_ ?_
      refine pu_ 21 42 (bm_ 38 4194303) HT_ ?_
      refine pu_ 22 43 (bm_ 38 8388607) HT_ ?_
      refine pu_ 23 44 (bm_ 38 16777215) HT_ ?_
      refine pu_ 24 45 (bm_ 38 33554431) HT_ ?_
      refine tk_ 25 46 (bm_ 38 67108863) HT_ HW_ hHeld rfl (by rintro w' ⟨s0,s1,s2,s3,s4,s5,s6,s7,s8,s9,s10,s11⟩;go_simp;with_reducible rfl) ?_
      refine tk_ 26 47 (bm_ 38 134217727) HT_ HW_ hHeld rfl (by rintro w' ⟨s0,s1,s2,s3,s4,s5,s6,s7,s8,s9,s10,s11⟩;go_simp;with_reducible rfl) ?_
      refine one_ (i:=27) (N:=some 48) (bm_ 38 268435455) rfl rfl (one_of HT_.out (by kernel_rfl)) (by decide) (fun K hK=>?_)
      refine gs_ Tryz.func14 #[.agg #[.int .i64 ((rd_T41 t596 0).f0),.slice A613_1 ((rd_T41 t596 0).f1).length c613_1,.string ((rd_T41 t596 0).f2)],.agg #[.string t606,.string t607,.int .i64 t608]] ?_
      with_reducible refine(eval_Meets.calls _ _ _ _ _ _ _ _ _ _ _ ?side1 ?side2 A12.out).mono ?_
      (case side1=>repeat(first|exact(by repeat(first|(with_reducible exact HR613_1.out)|(with_reducible refine Kd.C_alloc ?_ _)|(with_reducible refine Kd.C_drewN ?_ _)|(with_reducible refine Kd.C_drew ?_)|exact HR613_1.out))|(with_reducible refine Kd.C_alloc ?_ _)|(with_reducible refine Kd.C_drewN ?_ _)|(with_reducible refine Kd.C_drew ?_)))
      (case side2=>exact HC613_1.out)
      rintro e w28 ⟨rfl,hb⟩
      have HS6_:=(hb.cell (World.block_lt_of_cell? _ _ (hHeld.2.2.2.2.2.2.1))).trans (hHeld.2.2.2.2.2.2.1)
      have HS7_:=(hb.cell (World.block_lt_of_cell? _ _ (hHeld.2.2.2.2.2.2.2.1))).trans (hHeld.2.2.2.2.2.2.2.1)
      have HS8_:=(hb.cell (World.block_lt_of_cell? _ _ (hHeld.2.2.2.2.2.2.2.2.1))).trans (hHeld.2.2.2.2.2.2.2.2.1)
      have HS9_:=(hb.cell (World.block_lt_of_cell? _ _ (hHeld.2.2.2.2.2.2.2.2.2.1))).trans (hHeld.2.2.2.2.2.2.2.2.2.1)
      have HS10_:=(hb.cell (World.block_lt_of_cell? _ _ (hHeld.2.2.2.2.2.2.2.2.2.2.1))).trans (hHeld.2.2.2.2.2.2.2.2.2.2.1)
      have HS11_:=(hb.cell (World.block_lt_of_cell? _ _ (hHeld.2.2.2.2.2.2.2.2.2.2.2))).trans (hHeld.2.2.2.2.2.2.2.2.2.2.2)
      refine⟨_,rfl,?_⟩
      replace HO598:=am_ (Kd.N_below (krN_ HO598) hb)
      replace HL613_1:=am_ (Kd.V_below (krV_ HL613_1) hb)
      replace BK605:=bb_ BK605 hb
      replace BK610:=bb_ BK610 hb
      replace HR613_1:=am_ (Kd.C_below (by repeat(first|(with_reducible exact HR613_1.out)|(with_reducible refine Kd.C_alloc ?_ _)|(with_reducible refine Kd.C_drewN ?_ _)|(with_reducible refine Kd.C_drew ?_)|exact HR613_1.out)) hb)
      (try replace HL615_1:=am_ (Kd.V_below (krV_ HL615_1) hb))
      (try replace HR615_1:=am_ (Kd.C_below (by repeat(first|(with_reducible exact HR615_1.out)|(with_reducible refine Kd.C_alloc ?_ _)|(with_reducible refine Kd.C_drewN ?_ _)|(with_reducible refine Kd.C_drew ?_)|exact HR615_1.out)) hb))
      replace HB:=am_ (below_step (bl_ HB).out hb)
      (try clear hb)
      (try clear hb2)
      (try clear hk)
      (try clear hi)
      refine hK.out _ _ ⟨bc_ BK605 0,bc_ BK605 1,bc_ BK605 2,bc_ BK610 0,bc_ BK610 1,bc_ BK610 2,HS6_,HS7_,HS8_,HS9_,HS10_,HS11_⟩ (fun hHeld=>?_)
      clear hK K
      refine nm_ 48 ?_
      refine pu_ 28 49 (bm_ 38 536870911) HT_ ?_
      refine pu_ 29 50 (bm_ 38 1073741823) HT_ ?_
      refine pu_ 30 51 (bm_ 38 2147483647) HT_ ?_
      refine pu_ 31 52 (bm_ 38 4294967295) HT_ ?_
      refine pu_ 32 53 (bm_ 38 8589934591) HT_ ?_
      refine tk_ 33 54 (bm_ 38 17179869183) HT_ HW_ hHeld rfl (by rintro w' ⟨s0,s1,s2,s3,s4,s5,s6,s7,s8,s9,s10,s11⟩;go_simp;with_reducible rfl) ?_
      refine tk_ 34 55 (bm_ 38 34359738367) HT_ HW_ hHeld rfl (by rintro w' ⟨s0,s1,s2,s3,s4,s5,s6,s7,s8,s9,s10,s11⟩;go_simp;with_reducible rfl) ?_
      refine one_ (i:=35) (N:=some 56) (bm_ 38 68719476735) rfl rfl (one_of HT_.out (by kernel_rfl)) (by decide) (fun K hK=>?_)
      refine gs_ Tryz.func14 #[.agg #[.int .i64 ((rd_T41 t596 0).f0),.slice A613_1 ((rd_T41 t596 0).f1).length c613_1,.string ((rd_T41 t596 0).f2)],.agg #[.string t601,.string t602,.int .i64 t603]] ?_
      with_reducible refine(eval_Meets.calls _ _ _ _ _ _ _ _ _ _ _ ?side1 ?side2 A14.out).mono ?_
      (case side1=>repeat(first|exact(by repeat(first|(with_reducible exact HR615_1.out)|(with_reducible refine Kd.C_alloc ?_ _)|(with_reducible refine Kd.C_drewN ?_ _)|(with_reducible refine Kd.C_drew ?_)|exact HR615_1.out))|(with_reducible refine Kd.C_alloc ?_ _)|(with_reducible refine Kd.C_drewN ?_ _)|(with_reducible refine Kd.C_drew ?_)))
      (case side2=>exact HC615_1.out)
      rintro e w29 ⟨rfl,hb⟩
      have HS6_:=(hb.cell (World.block_lt_of_cell? _ _ (hHeld.2.2.2.2.2.2.1))).trans (hHeld.2.2.2.2.2.2.1)
      have HS7_:=(hb.cell (World.block_lt_of_cell? _ _ (hHeld.2.2.2.2.2.2.2.1))).trans (hHeld.2.2.2.2.2.2.2.1)
      have HS8_:=(hb.cell (World.block_lt_of_cell? _ _ (hHeld.2.2.2.2.2.2.2.2.1))).trans (hHeld.2.2.2.2.2.2.2.2.1)
      have HS9_:=(hb.cell (World.block_lt_of_cell? _ _ (hHeld.2.2.2.2.2.2.2.2.2.1))).trans (hHeld.2.2.2.2.2.2.2.2.2.1)
      have HS10_:=(hb.cell (World.block_lt_of_cell? _ _ (hHeld.2.2.2.2.2.2.2.2.2.2.1))).trans (hHeld.2.2.2.2.2.2.2.2.2.2.1)
      have HS11_:=(hb.cell (World.block_lt_of_cell? _ _ (hHeld.2.2.2.2.2.2.2.2.2.2.2))).trans (hHeld.2.2.2.2.2.2.2.2.2.2.2)
      refine⟨_,rfl,?_⟩
      replace HO598:=am_ (Kd.N_below (krN_ HO598) hb)
      replace HL613_1:=am_ (Kd.V_below (krV_ HL613_1) hb)
      replace HL615_1:=am_ (Kd.V_below (krV_ HL615_1) hb)
      replace BK605:=bb_ BK605 hb
      replace BK610:=bb_ BK610 hb
      replace HR613_1:=am_ (Kd.C_below (by repeat(first|(with_reducible exact HR613_1.out)|(with_reducible refine Kd.C_alloc ?_ _)|(with_reducible refine Kd.C_drewN ?_ _)|(with_reducible refine Kd.C_drew ?_)|exact HR613_1.out)) hb)
      replace HR615_1:=am_ (Kd.C_below (by repeat(first|(with_reducible exact HR615_1.out)|(with_reducible refine Kd.C_alloc ?_ _)|(with_reducible refine Kd.C_drewN ?_ _)|(with_reducible refine Kd.C_drew ?_)|exact HR615_1.out)) hb)
      replace HB:=am_ (below_step (bl_ HB).out hb)
      (try clear hb)
      (try clear hb2)
      (try clear hk)
      (try clear hi)
      refine hK.out _ _ ⟨bc_ BK605 0,bc_ BK605 1,bc_ BK605 2,bc_ BK610 0,bc_ BK610 1,bc_ BK610 2,HS6_,HS7_,HS8_,HS9_,HS10_,HS11_⟩ (fun hHeld=>?_)
      clear hK K
      refine nm_ 56 ?_
      refine pu_ 36 57 (bm_ 38 137438953471) HT_ ?_
      refine pu_ 37 0 (bm_ 38 274877906943) HT_ ?_
      refine done_ (done_of HT_.out (by kernel_rfl)) ?_
      try go_wp2
      go_ret
      exact⟨ew_,(bl_ HB).out⟩
     rw[if_neg c10] at H
     have c10b0:(t612==5)=false:=beq_eq_false_iff_ne.mpr c10
     have c10b1:(t612 !=5)=true:=bne_iff_ne.mpr c10
     exact absurd H (by simp)
    rw[if_neg c8] at H
    have c8b0:(t611==1)=false:=beq_eq_false_iff_ne.mpr c8
    have c8b1:(t611 !=1)=true:=bne_iff_ne.mpr c8
    exact absurd H (by simp)
   rw[if_neg c6] at H
   have c6b0:(t609==0)=false:=beq_eq_false_iff_ne.mpr c6
   have c6b1:(t609 !=0)=true:=bne_iff_ne.mpr c6
   exact absurd H (by simp)
  rw[if_neg c5] at H
  have c5b0:(t604==0)=false:=beq_eq_false_iff_ne.mpr c5
  have c5b1:(t604 !=0)=true:=bne_iff_ne.mpr c5
  exact absurd H (by simp)
 rw[if_neg c4] at H
 have c4b0:(t599==0)=false:=beq_eq_false_iff_ne.mpr c4
 have c4b1:(t599 !=0)=true:=bne_iff_ne.mpr c4
 exact absurd H (by simp)

end Go.Proofs.YtadagjgkanlmdaaGreatDoor.P
