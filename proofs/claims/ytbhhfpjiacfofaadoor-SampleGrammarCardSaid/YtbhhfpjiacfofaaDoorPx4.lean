-- written by a program of this session (wip/p2)
import Derived.Test.YtbhhfpjiacfofaaDoorPx0
import Derived.Test.YtbhhfpjiacfofaaDoorPx2
import Derived.Test.YtbhhfpjiacfofaaDoorPx3
namespace Go.Proofs.YtbhhfpjiacfofaaDoor.P
open Go.RowKit Go.Proofs.YtbhhfpjiacfofaaDoorW.PrintWords Go.Proofs.YtbhhfpjiacfofaaDoorW.PrintLast Go.Proofs.YtbhhfpjiacfofaaDoorW.PrintMore
attribute [local go_sem] max2_int min2_int max_two min_two max_three min_three max_four min_four   -- for this text's walks alone
set_option linter.unusedVariables false
set_option linter.unusedSimpArgs false

/-! ### operand_Read: function 12 -/
def operand_Read.j0:Nat→ByteArray→ByteArray→ByteArray→Bool→Option (ByteArray × ByteArray × Int × Int)
 | 0,_,_,_,_=>none
 | k+1,x5,x7,x8,x54=>if x54=true then (some ((⟨#[]⟩:ByteArray),(⟨#[]⟩:ByteArray),0,1)) else ((num_Int.f k x5).bind fun bt182=>(if bt182.2=true then (if bt182.1>10000 then (some ((⟨#[]⟩:ByteArray),(⟨#[]⟩:ByteArray),0,2)) else (if (wrap64 ((x7.size:Int)+(x8.size:Int)))>1000 then (some ((⟨#[]⟩:ByteArray),(⟨#[]⟩:ByteArray),0,2)) else ((operand_Of.f k false x7 x8 bt182.1).bind fun bt184=>(some (bt184.1,bt184.2.1,bt184.2.2,0))))) else (some ((⟨#[]⟩:ByteArray),(⟨#[]⟩:ByteArray),0,2))))
def operand_Read.f (k:Nat) (a0:ByteArray):Option (ByteArray × ByteArray × Int × Int):=(operand_cut.f k a0 (⟨#[99,101]⟩:ByteArray)).bind fun bt164=>((operand_cut.f k bt164.1 (⟨#[46]⟩:ByteArray)).bind fun bt167=>(if bt167.1.toList=([]:List UInt8) then (operand_Read.j0 k bt164.2.1 bt167.1 bt167.2.1 true) else (if bt167.2.2=true then (if bt167.2.1.toList=([]:List UInt8) then (operand_Read.j0 k bt164.2.1 bt167.1 bt167.2.1 true) else (if bt164.2.2=true then (if bt164.2.1.toList=([]:List UInt8) then (operand_Read.j0 k bt164.2.1 bt167.1 bt167.2.1 true) else ((num_Is.f k bt167.1).bind fun t170=>(if t170=true then ((num_Is.f k bt167.2.1).bind fun t171=>(if t171=true then ((num_Is.f k bt164.2.1).bind fun t172=>(operand_Read.j0 k bt164.2.1 bt167.1 bt167.2.1 (!t172))) else (operand_Read.j0 k bt164.2.1 bt167.1 bt167.2.1 true))) else (operand_Read.j0 k bt164.2.1 bt167.1 bt167.2.1 true)))) else ((num_Is.f k bt167.1).bind fun t173=>(if t173=true then ((num_Is.f k bt167.2.1).bind fun t174=>(if t174=true then ((num_Is.f k bt164.2.1).bind fun t175=>(operand_Read.j0 k bt164.2.1 bt167.1 bt167.2.1 (!t175))) else (operand_Read.j0 k bt164.2.1 bt167.1 bt167.2.1 true))) else (operand_Read.j0 k bt164.2.1 bt167.1 bt167.2.1 true))))) else (if bt164.2.2=true then (if bt164.2.1.toList=([]:List UInt8) then (operand_Read.j0 k bt164.2.1 bt167.1 bt167.2.1 true) else ((num_Is.f k bt167.1).bind fun t176=>(if t176=true then ((num_Is.f k bt167.2.1).bind fun t177=>(if t177=true then ((num_Is.f k bt164.2.1).bind fun t178=>(operand_Read.j0 k bt164.2.1 bt167.1 bt167.2.1 (!t178))) else (operand_Read.j0 k bt164.2.1 bt167.1 bt167.2.1 true))) else (operand_Read.j0 k bt164.2.1 bt167.1 bt167.2.1 true)))) else ((num_Is.f k bt167.1).bind fun t179=>(if t179=true then ((num_Is.f k bt167.2.1).bind fun t180=>(if t180=true then ((num_Is.f k bt164.2.1).bind fun t181=>(operand_Read.j0 k bt164.2.1 bt167.1 bt167.2.1 (!t181))) else (operand_Read.j0 k bt164.2.1 bt167.1 bt167.2.1 true))) else (operand_Read.j0 k bt164.2.1 bt167.1 bt167.2.1 true)))))))
set_option maxHeartbeats 64000000 in
set_option maxRecDepth 100000 in
theorem operand_Read.calls (k:Nat) (a0:ByteArray) (r1:ByteArray) (r2:ByteArray) (r3:Int) (r4:Int) (w:World) (h:operand_Read.f k a0=some (r1,r2,r3,r4)) :
  Calls Tryd.prog 12 #[.string a0] w fun e w'=>e= .returned (.tuple #[.agg #[.string r1,.string r2,.int .i64 r3],.int .i64 r4])∧Below w.heap.size w w':=by
 have hu41:=Tryd.underlying41
 have hu75:=Tryd.underlying75
 have HB:=Aside0.mk (Below.refl w.heap.size w)
 have H:=h
 clear h
 unfold operand_Read.f at H
 replace H:=Option.bind_eq_some_iff.mp H
 obtain⟨⟨t164,t165,t166⟩,A20,H⟩:=H
 dsimp only at H
 have A2:=Aside0.mk A20
 clear A20
 replace H:=Option.bind_eq_some_iff.mp H
 obtain⟨⟨t167,t168,t169⟩,A30,H⟩:=H
 dsimp only at H
 have A3:=Aside0.mk A30
 clear A30
 have HC4:=Aside0.mk H
 clear H
 go_enter Tryd.func12,Tryd.ntmps12
 go_upto_region 3 with (first|((with_reducible refine gate_dst (N:=2) rfl ?_);(try (refine gate_guard (by rfl) ?_;dsimp only));refine be_ 2 #[.string (⟨#[]⟩:ByteArray),.string (⟨#[]⟩:ByteArray),.int .i64 0] 41 ?_;intro gb163 hg w5 hbox hb;have BK163:=Aside0.mk (hbox);have GW163:=sz_ HB hg;have GE163:=sz_ HB hg;replace HB:=Aside0.mk (below_step (bl_ HB).out hb);clear hb hbox hg)|((with_reducible refine gate_callee (f:=20) rfl ?_);refine gl_ (some 14) Tryd.func20 #[.string a0,.string (⟨#[99,101]⟩:ByteArray)] ?_;(with_reducible refine(operand_cut.calls _ _ _ _ _ _ _ A2.out).mono ?_);rintro e w' ⟨rfl,⟨nd,rfl⟩⟩;refine⟨_,rfl,?_⟩)|((with_reducible refine gate_callee (f:=20) rfl ?_);refine gl_ (some 20) Tryd.func20 #[.string t164,.string (⟨#[46]⟩:ByteArray)] ?_;(with_reducible refine(operand_cut.calls _ _ _ _ _ _ _ A3.out).mono ?_);rintro e w' ⟨rfl,⟨nd,rfl⟩⟩;refine⟨_,rfl,?_⟩))
 (try simp only[Act.put,List.setIfInBounds_toArray,List.set_cons_zero,List.set_cons_succ])
 go_cut [54] (fun v54 wc=>∃(kq:Nat) (x54_3:Bool),v54= .bool x54_3∧Aside0 (operand_Read.j0 kq t165 t167 t168 x54_3=some (r1,r2,r3,r4))∧Aside0 (kq≤k)∧Aside0 (wc.heap[gb163]? = some (.cells #[.string (⟨#[]⟩:ByteArray),.string (⟨#[]⟩:ByteArray),.int .i64 0] 41 (0,0)))∧Aside0 (Below w.heap.size w wc))
 case first =>
  have H:=HC4.out
  clear HC4
  by_cases c6:t167.toList=([]:List UInt8)
  ·rw[if_pos c6] at H
   have c6b0:(t167.toList==([]:List UInt8))=true:=beq_iff_eq.mpr c6
   have c6b1:(t167.toList !=([]:List UInt8))=false:=bne_eq_false_iff_eq.mpr c6
   have c6b2:(t167.toList.isEmpty)=true:=by rw[c6];rfl
   clear c6
   (first|rw[c6b0]|(simp only[i64_w,i32_w];rw[c6b0])|rw[c6b2]|skip)
   have H':=Aside0.mk H
   clear H
   go_wp2
   go_meet
   case rel=>exact⟨_,(true),eq_,H',⟨by first|omega|exact Nat.le_refl _⟩,(bk_ BK163),(bl_ HB)⟩
  rw[if_neg c6] at H
  have c6b0:(t167.toList==([]:List UInt8))=false:=beq_eq_false_iff_ne.mpr c6
  have c6b1:(t167.toList !=([]:List UInt8))=true:=bne_iff_ne.mpr c6
  have c6b2:(t167.toList.isEmpty)=false:=by rw[given_isEmpty,bne_iff_ne.mpr c6];rfl
  (first|rw[c6b0]|(simp only[i64_w,i32_w];rw[c6b0])|rw[c6b2]|skip)
  by_cases c7:t169=true
  ·subst c7
   rw[if_pos rfl] at H
   by_cases c8:t168.toList=([]:List UInt8)
   ·rw[if_pos c8] at H
    have c8b0:(t168.toList==([]:List UInt8))=true:=beq_iff_eq.mpr c8
    have c8b1:(t168.toList !=([]:List UInt8))=false:=bne_eq_false_iff_eq.mpr c8
    have c8b2:(t168.toList.isEmpty)=true:=by rw[c8];rfl
    clear c8
    have H':=Aside0.mk H
    clear H
    go_wp2
    go_meet
    case rel=>exact⟨_,(true),eq_,H',⟨by first|omega|exact Nat.le_refl _⟩,(bk_ BK163),(bl_ HB)⟩
   rw[if_neg c8] at H
   have c8b0:(t168.toList==([]:List UInt8))=false:=beq_eq_false_iff_ne.mpr c8
   have c8b1:(t168.toList !=([]:List UInt8))=true:=bne_iff_ne.mpr c8
   have c8b2:(t168.toList.isEmpty)=false:=by rw[given_isEmpty,bne_iff_ne.mpr c8];rfl
   by_cases c9:t166=true
   ·subst c9
    rw[if_pos rfl] at H
    by_cases c10:t165.toList=([]:List UInt8)
    ·rw[if_pos c10] at H
     have c10b0:(t165.toList==([]:List UInt8))=true:=beq_iff_eq.mpr c10
     have c10b1:(t165.toList !=([]:List UInt8))=false:=bne_eq_false_iff_eq.mpr c10
     have c10b2:(t165.toList.isEmpty)=true:=by rw[c10];rfl
     clear c10
     have H':=Aside0.mk H
     clear H
     go_wp2
     go_meet
     case rel=>exact⟨_,(true),eq_,H',⟨by first|omega|exact Nat.le_refl _⟩,(bk_ BK163),(bl_ HB)⟩
    rw[if_neg c10] at H
    have c10b0:(t165.toList==([]:List UInt8))=false:=beq_eq_false_iff_ne.mpr c10
    have c10b1:(t165.toList !=([]:List UInt8))=true:=bne_iff_ne.mpr c10
    have c10b2:(t165.toList.isEmpty)=false:=by rw[given_isEmpty,bne_iff_ne.mpr c10];rfl
    replace H:=Option.bind_eq_some_iff.mp H
    obtain⟨t170,A110,H⟩:=H
    have A11:=Aside0.mk A110
    clear A110
    by_cases c12:t170=true
    ·subst c12
     rw[if_pos rfl] at H
     replace H:=Option.bind_eq_some_iff.mp H
     obtain⟨t171,A130,H⟩:=H
     have A13:=Aside0.mk A130
     clear A130
     by_cases c14:t171=true
     ·subst c14
      rw[if_pos rfl] at H
      replace H:=Option.bind_eq_some_iff.mp H
      obtain⟨t172,A150,H⟩:=H
      have A15:=Aside0.mk A150
      clear A150
      have H':=Aside0.mk H
      clear H
      go_wp2_with (first|(go_at_call 21;(with_reducible refine(num_Is.calls _ _ _ _ A11.out).mono ?_);rintro e w' ⟨rfl,⟨nd,rfl⟩⟩)|(go_at_call 21;(with_reducible refine(num_Is.calls _ _ _ _ A13.out).mono ?_);rintro e w' ⟨rfl,⟨nd,rfl⟩⟩)|(go_at_call 21;(with_reducible refine(num_Is.calls _ _ _ _ A15.out).mono ?_);rintro e w' ⟨rfl,⟨nd,rfl⟩⟩))
      go_meet
      case rel=>exact⟨_,(!t172),eq_,H',⟨by first|omega|exact Nat.le_refl _⟩,(bk_ BK163),(bl_ HB)⟩
     replace c14:=Bool.eq_false_iff.mpr c14
     subst c14
     rw[if_neg (show ¬(false=true) by decide)] at H
     have H':=Aside0.mk H
     clear H
     go_wp2_with (first|(go_at_call 21;(with_reducible refine(num_Is.calls _ _ _ _ A11.out).mono ?_);rintro e w' ⟨rfl,⟨nd,rfl⟩⟩)|(go_at_call 21;(with_reducible refine(num_Is.calls _ _ _ _ A13.out).mono ?_);rintro e w' ⟨rfl,⟨nd,rfl⟩⟩))
     go_meet
     case rel=>exact⟨_,(true),eq_,H',⟨by first|omega|exact Nat.le_refl _⟩,(bk_ BK163),(bl_ HB)⟩
    replace c12:=Bool.eq_false_iff.mpr c12
    subst c12
    rw[if_neg (show ¬(false=true) by decide)] at H
    have H':=Aside0.mk H
    clear H
    go_wp2_with (first|(go_at_call 21;(with_reducible refine(num_Is.calls _ _ _ _ A11.out).mono ?_);rintro e w' ⟨rfl,⟨nd,rfl⟩⟩))
    go_meet
    case rel=>exact⟨_,(true),eq_,H',⟨by first|omega|exact Nat.le_refl _⟩,(bk_ BK163),(bl_ HB)⟩
   replace c9:=Bool.eq_false_iff.mpr c9
   subst c9
   rw[if_neg (show ¬(false=true) by decide)] at H
   replace H:=Option.bind_eq_some_iff.mp H
   obtain⟨t173,A160,H⟩:=H
   have A16:=Aside0.mk A160
   clear A160
   by_cases c17:t173=true
   ·subst c17
    rw[if_pos rfl] at H
    replace H:=Option.bind_eq_some_iff.mp H
    obtain⟨t174,A180,H⟩:=H
    have A18:=Aside0.mk A180
    clear A180
    by_cases c19:t174=true
    ·subst c19
     rw[if_pos rfl] at H
     replace H:=Option.bind_eq_some_iff.mp H
     obtain⟨t175,A200,H⟩:=H
     have A20:=Aside0.mk A200
     clear A200
     have H':=Aside0.mk H
     clear H
     go_wp2_with (first|(go_at_call 21;(with_reducible refine(num_Is.calls _ _ _ _ A16.out).mono ?_);rintro e w' ⟨rfl,⟨nd,rfl⟩⟩)|(go_at_call 21;(with_reducible refine(num_Is.calls _ _ _ _ A18.out).mono ?_);rintro e w' ⟨rfl,⟨nd,rfl⟩⟩)|(go_at_call 21;(with_reducible refine(num_Is.calls _ _ _ _ A20.out).mono ?_);rintro e w' ⟨rfl,⟨nd,rfl⟩⟩))
     go_meet
     case rel=>exact⟨_,(!t175),eq_,H',⟨by first|omega|exact Nat.le_refl _⟩,(bk_ BK163),(bl_ HB)⟩
    replace c19:=Bool.eq_false_iff.mpr c19
    subst c19
    rw[if_neg (show ¬(false=true) by decide)] at H
    have H':=Aside0.mk H
    clear H
    go_wp2_with (first|(go_at_call 21;(with_reducible refine(num_Is.calls _ _ _ _ A16.out).mono ?_);rintro e w' ⟨rfl,⟨nd,rfl⟩⟩)|(go_at_call 21;(with_reducible refine(num_Is.calls _ _ _ _ A18.out).mono ?_);rintro e w' ⟨rfl,⟨nd,rfl⟩⟩))
    go_meet
    case rel=>exact⟨_,(true),eq_,H',⟨by first|omega|exact Nat.le_refl _⟩,(bk_ BK163),(bl_ HB)⟩
   replace c17:=Bool.eq_false_iff.mpr c17
   subst c17
   rw[if_neg (show ¬(false=true) by decide)] at H
   have H':=Aside0.mk H
   clear H
   go_wp2_with (first|(go_at_call 21;(with_reducible refine(num_Is.calls _ _ _ _ A16.out).mono ?_);rintro e w' ⟨rfl,⟨nd,rfl⟩⟩))
   go_meet
   case rel=>exact⟨_,(true),eq_,H',⟨by first|omega|exact Nat.le_refl _⟩,(bk_ BK163),(bl_ HB)⟩
  replace c7:=Bool.eq_false_iff.mpr c7
  subst c7
  rw[if_neg (show ¬(false=true) by decide)] at H
  by_cases c21:t166=true
  ·subst c21
   rw[if_pos rfl] at H
   by_cases c22:t165.toList=([]:List UInt8)
   ·rw[if_pos c22] at H
    have c22b0:(t165.toList==([]:List UInt8))=true:=beq_iff_eq.mpr c22
    have c22b1:(t165.toList !=([]:List UInt8))=false:=bne_eq_false_iff_eq.mpr c22
    have c22b2:(t165.toList.isEmpty)=true:=by rw[c22];rfl
    clear c22
    have H':=Aside0.mk H
    clear H
    go_wp2
    go_meet
    case rel=>exact⟨_,(true),eq_,H',⟨by first|omega|exact Nat.le_refl _⟩,(bk_ BK163),(bl_ HB)⟩
   rw[if_neg c22] at H
   have c22b0:(t165.toList==([]:List UInt8))=false:=beq_eq_false_iff_ne.mpr c22
   have c22b1:(t165.toList !=([]:List UInt8))=true:=bne_iff_ne.mpr c22
   have c22b2:(t165.toList.isEmpty)=false:=by rw[given_isEmpty,bne_iff_ne.mpr c22];rfl
   replace H:=Option.bind_eq_some_iff.mp H
   obtain⟨t176,A230,H⟩:=H
   have A23:=Aside0.mk A230
   clear A230
   by_cases c24:t176=true
   ·subst c24
    rw[if_pos rfl] at H
    replace H:=Option.bind_eq_some_iff.mp H
    obtain⟨t177,A250,H⟩:=H
    have A25:=Aside0.mk A250
    clear A250
    by_cases c26:t177=true
    ·subst c26
     rw[if_pos rfl] at H
     replace H:=Option.bind_eq_some_iff.mp H
     obtain⟨t178,A270,H⟩:=H
     have A27:=Aside0.mk A270
     clear A270
     have H':=Aside0.mk H
     clear H
     go_wp2_with (first|(go_at_call 21;(with_reducible refine(num_Is.calls _ _ _ _ A23.out).mono ?_);rintro e w' ⟨rfl,⟨nd,rfl⟩⟩)|(go_at_call 21;(with_reducible refine(num_Is.calls _ _ _ _ A25.out).mono ?_);rintro e w' ⟨rfl,⟨nd,rfl⟩⟩)|(go_at_call 21;(with_reducible refine(num_Is.calls _ _ _ _ A27.out).mono ?_);rintro e w' ⟨rfl,⟨nd,rfl⟩⟩))
     go_meet
     case rel=>exact⟨_,(!t178),eq_,H',⟨by first|omega|exact Nat.le_refl _⟩,(bk_ BK163),(bl_ HB)⟩
    replace c26:=Bool.eq_false_iff.mpr c26
    subst c26
    rw[if_neg (show ¬(false=true) by decide)] at H
    have H':=Aside0.mk H
    clear H
    go_wp2_with (first|(go_at_call 21;(with_reducible refine(num_Is.calls _ _ _ _ A23.out).mono ?_);rintro e w' ⟨rfl,⟨nd,rfl⟩⟩)|(go_at_call 21;(with_reducible refine(num_Is.calls _ _ _ _ A25.out).mono ?_);rintro e w' ⟨rfl,⟨nd,rfl⟩⟩))
    go_meet
    case rel=>exact⟨_,(true),eq_,H',⟨by first|omega|exact Nat.le_refl _⟩,(bk_ BK163),(bl_ HB)⟩
   replace c24:=Bool.eq_false_iff.mpr c24
   subst c24
   rw[if_neg (show ¬(false=true) by decide)] at H
   have H':=Aside0.mk H
   clear H
   go_wp2_with (first|(go_at_call 21;(with_reducible refine(num_Is.calls _ _ _ _ A23.out).mono ?_);rintro e w' ⟨rfl,⟨nd,rfl⟩⟩))
   go_meet
   case rel=>exact⟨_,(true),eq_,H',⟨by first|omega|exact Nat.le_refl _⟩,(bk_ BK163),(bl_ HB)⟩
  replace c21:=Bool.eq_false_iff.mpr c21
  subst c21
  rw[if_neg (show ¬(false=true) by decide)] at H
  replace H:=Option.bind_eq_some_iff.mp H
  obtain⟨t179,A280,H⟩:=H
  have A28:=Aside0.mk A280
  clear A280
  by_cases c29:t179=true
  ·subst c29
   rw[if_pos rfl] at H
   replace H:=Option.bind_eq_some_iff.mp H
   obtain⟨t180,A300,H⟩:=H
   have A30:=Aside0.mk A300
   clear A300
   by_cases c31:t180=true
   ·subst c31
    rw[if_pos rfl] at H
    replace H:=Option.bind_eq_some_iff.mp H
    obtain⟨t181,A320,H⟩:=H
    have A32:=Aside0.mk A320
    clear A320
    have H':=Aside0.mk H
    clear H
    go_wp2_with (first|(go_at_call 21;(with_reducible refine(num_Is.calls _ _ _ _ A28.out).mono ?_);rintro e w' ⟨rfl,⟨nd,rfl⟩⟩)|(go_at_call 21;(with_reducible refine(num_Is.calls _ _ _ _ A30.out).mono ?_);rintro e w' ⟨rfl,⟨nd,rfl⟩⟩)|(go_at_call 21;(with_reducible refine(num_Is.calls _ _ _ _ A32.out).mono ?_);rintro e w' ⟨rfl,⟨nd,rfl⟩⟩))
    go_meet
    case rel=>exact⟨_,(!t181),eq_,H',⟨by first|omega|exact Nat.le_refl _⟩,(bk_ BK163),(bl_ HB)⟩
   replace c31:=Bool.eq_false_iff.mpr c31
   subst c31
   rw[if_neg (show ¬(false=true) by decide)] at H
   have H':=Aside0.mk H
   clear H
   go_wp2_with (first|(go_at_call 21;(with_reducible refine(num_Is.calls _ _ _ _ A28.out).mono ?_);rintro e w' ⟨rfl,⟨nd,rfl⟩⟩)|(go_at_call 21;(with_reducible refine(num_Is.calls _ _ _ _ A30.out).mono ?_);rintro e w' ⟨rfl,⟨nd,rfl⟩⟩))
   go_meet
   case rel=>exact⟨_,(true),eq_,H',⟨by first|omega|exact Nat.le_refl _⟩,(bk_ BK163),(bl_ HB)⟩
  replace c29:=Bool.eq_false_iff.mpr c29
  subst c29
  rw[if_neg (show ¬(false=true) by decide)] at H
  have H':=Aside0.mk H
  clear H
  go_wp2_with (first|(go_at_call 21;(with_reducible refine(num_Is.calls _ _ _ _ A28.out).mono ?_);rintro e w' ⟨rfl,⟨nd,rfl⟩⟩))
  go_meet
  case rel=>exact⟨_,(true),eq_,H',⟨by first|omega|exact Nat.le_refl _⟩,(bk_ BK163),(bl_ HB)⟩
 clear HC4
 obtain⟨kq,x54_3,rfl,HA,HJ3,BK163,HB⟩:=hcut
 cases kq with
 | zero=>exact absurd HA.out (by simp[operand_Read.j0])
 | succ kj3=>?_
 have H:=HA.out
 clear HA
 simp only[operand_Read.j0] at H
 by_cases c33:x54_3=true
 ·subst c33
  rw[if_pos rfl] at H
  simp only[Option.some.injEq,Prod.mk.injEq] at H
  obtain⟨rfl,rfl,rfl,rfl⟩:=H
  obtain⟨hcz34_0,hcz34_1,hcz34_2,hfz34_0,hfz34_1,hfz34_2⟩:=bo3_ BK163
  go_wp2
  refine bodyPost_ret (results_ct rfl _ _ gb163 41 #[.string (⟨#[]⟩:ByteArray),.string (⟨#[]⟩:ByteArray),.int .i64 0] (0,0) _ rfl ((bp_ BK163).out) Tryd.underlying41 rfl (by kernel_rfl)) rfl ?_
  exact⟨ew_,(bl_ HB).out⟩
 replace c33:=Bool.eq_false_iff.mpr c33
 subst c33
 rw[if_neg (show ¬(false=true) by decide)] at H
 replace H:=Option.bind_eq_some_iff.mp H
 obtain⟨⟨t182,t183⟩,A350,H⟩:=H
 dsimp only at H
 have A35:=Aside0.mk A350
 clear A350
 by_cases c36:t183=true
 ·subst c36
  rw[if_pos rfl] at H
  by_cases c37:t182>10000
  ·rw[if_pos c37] at H
   have c37b0:decide (10000<t182)=true:=decide_eq_true c37
   clear c37
   simp only[Option.some.injEq,Prod.mk.injEq] at H
   obtain⟨rfl,rfl,rfl,rfl⟩:=H
   go_wp2_with (first|((with_reducible refine gate_callee (f:=22) rfl ?_);refine gl_ (some 58) Tryd.func22 #[.string t165] ?_;(with_reducible refine(num_Int.calls _ _ _ _ _ A35.out).mono ?_);rintro e w38 ⟨rfl,hb⟩;refine⟨_,rfl,?_⟩;replace BK163:=bb_ BK163 hb;replace HB:=Aside0.mk (below_step (bl_ HB).out hb);(try clear hb);obtain⟨hcz39_0,hcz39_1,hcz39_2,hfz39_0,hfz39_1,hfz39_2⟩:=bo3_ BK163))
   refine bodyPost_ret (results_ct rfl _ _ gb163 41 #[.string (⟨#[]⟩:ByteArray),.string (⟨#[]⟩:ByteArray),.int .i64 0] (0,0) _ rfl ((bp_ BK163).out) Tryd.underlying41 rfl (by kernel_rfl)) rfl ?_
   exact⟨ew_,(bl_ HB).out⟩
  rw[if_neg c37] at H
  have c37b0:decide (10000<t182)=false:=decide_eq_false c37
  clear c37
  by_cases c40:(wrap64 ((t167.size:Int)+(t168.size:Int)))>1000
  ·rw[if_pos c40] at H
   have c40b0:decide (1000<(wrap64 ((t167.size:Int)+(t168.size:Int))))=true:=decide_eq_true c40
   clear c40
   simp only[Option.some.injEq,Prod.mk.injEq] at H
   obtain⟨rfl,rfl,rfl,rfl⟩:=H
   go_wp2_with (first|((with_reducible refine gate_callee (f:=22) rfl ?_);refine gl_ (some 58) Tryd.func22 #[.string t165] ?_;(with_reducible refine(num_Int.calls _ _ _ _ _ A35.out).mono ?_);rintro e w41 ⟨rfl,hb⟩;refine⟨_,rfl,?_⟩;replace BK163:=bb_ BK163 hb;replace HB:=Aside0.mk (below_step (bl_ HB).out hb);(try clear hb);obtain⟨hcz42_0,hcz42_1,hcz42_2,hfz42_0,hfz42_1,hfz42_2⟩:=bo3_ BK163))
   refine bodyPost_ret (results_ct rfl _ _ gb163 41 #[.string (⟨#[]⟩:ByteArray),.string (⟨#[]⟩:ByteArray),.int .i64 0] (0,0) _ rfl ((bp_ BK163).out) Tryd.underlying41 rfl (by kernel_rfl)) rfl ?_
   exact⟨ew_,(bl_ HB).out⟩
  rw[if_neg c40] at H
  have c40b0:decide (1000<(wrap64 ((t167.size:Int)+(t168.size:Int))))=false:=decide_eq_false c40
  clear c40
  replace H:=Option.bind_eq_some_iff.mp H
  obtain⟨⟨t184,t185,t186⟩,A430,H⟩:=H
  dsimp only at H
  have A43:=Aside0.mk A430
  clear A430
  simp only[Option.some.injEq,Prod.mk.injEq] at H
  obtain⟨rfl,rfl,rfl,rfl⟩:=H
  go_wp2_with (first|((with_reducible refine gate_callee (f:=22) rfl ?_);refine gl_ (some 58) Tryd.func22 #[.string t165] ?_;(with_reducible refine(num_Int.calls _ _ _ _ _ A35.out).mono ?_);rintro e w44 ⟨rfl,hb⟩;refine⟨_,rfl,?_⟩;replace BK163:=bb_ BK163 hb;replace HB:=Aside0.mk (below_step (bl_ HB).out hb);(try clear hb);(try clear hi))|((with_reducible refine gate_callee (f:=23) rfl ?_);refine gl_ (some 80) Tryd.func23 #[.agg #[.bool false,.string t167,.string t168],.int .i64 t182] ?_;(with_reducible refine(operand_Of.calls _ _ _ _ _ _ _ _ _ A43.out).mono ?_);rintro e w45 ⟨rfl,hb⟩;refine⟨_,rfl,?_⟩;replace BK163:=bb_ BK163 hb;replace HB:=Aside0.mk (below_step (bl_ HB).out hb);(try clear hb);obtain⟨hcz46_0,hcz46_1,hcz46_2,hfz46_0,hfz46_1,hfz46_2⟩:=bo3_ BK163))
  refine bodyPost_ret (results_ct rfl _ _ gb163 41 #[.string t184,.string t185,.int .i64 t186] (0,0) _ rfl ((bp_ BK163).out) Tryd.underlying41 rfl (by kernel_rfl)) rfl ?_
  exact⟨ew_,(bl_ HB).out⟩
 replace c36:=Bool.eq_false_iff.mpr c36
 subst c36
 rw[if_neg (show ¬(false=true) by decide)] at H
 simp only[Option.some.injEq,Prod.mk.injEq] at H
 obtain⟨rfl,rfl,rfl,rfl⟩:=H
 go_wp2_with (first|((with_reducible refine gate_callee (f:=22) rfl ?_);refine gl_ (some 58) Tryd.func22 #[.string t165] ?_;(with_reducible refine(num_Int.calls _ _ _ _ _ A35.out).mono ?_);rintro e w47 ⟨rfl,hb⟩;refine⟨_,rfl,?_⟩;replace BK163:=bb_ BK163 hb;replace HB:=Aside0.mk (below_step (bl_ HB).out hb);(try clear hb);obtain⟨hcz48_0,hcz48_1,hcz48_2,hfz48_0,hfz48_1,hfz48_2⟩:=bo3_ BK163))
 refine bodyPost_ret (results_ct rfl _ _ gb163 41 #[.string (⟨#[]⟩:ByteArray),.string (⟨#[]⟩:ByteArray),.int .i64 0] (0,0) _ rfl ((bp_ BK163).out) Tryd.underlying41 rfl (by kernel_rfl)) rfl ?_
 exact⟨ew_,(bl_ HB).out⟩

/-! ### operand_Ops_V: function 13 -/
def operand_Ops_V.f (a0_0:ByteArray) (a0_1:ByteArray) (a0_2:Int):Option (Int):=some (a0_1.size:Int)
set_option maxHeartbeats 64000000 in
set_option maxRecDepth 100000 in
theorem operand_Ops_V.calls (a0_0:ByteArray) (a0_1:ByteArray) (a0_2:Int) (r:Int) (w:World) (h:operand_Ops_V.f a0_0 a0_1 a0_2=some r) :
    Calls Tryd.prog 13 #[.agg #[.string a0_0,.string a0_1,.int .i64 a0_2]] w fun e w'=>e= .returned (.int .i64 r)∧Below w.heap.size w w':=by
  have hu41:=Tryd.underlying41
  have HB:=Aside0.mk (Below.refl w.heap.size w)
  have H:=h
  clear h
  unfold operand_Ops_V.f at H
  obtain rfl:=Option.some.inj H
  go_enter Tryd.func13,Tryd.ntmps13
  go_wp2_with (first|((with_reducible refine gate_dst (N:=1) rfl ?_);refine be_ 1 #[.string a0_0,.string a0_1,.int .i64 a0_2] 41 ?_;intro gb187 hg w2 hbox hb;have BK187:=Aside0.mk (hbox);have GW187:=sz_ HB hg;have GE187:=sz_ HB hg;replace HB:=Aside0.mk (below_step (bl_ HB).out hb);clear hb hbox hg;obtain⟨hcz3_0,hcz3_1,hcz3_2,hfz3_0,hfz3_1,hfz3_2⟩:=bo3_ BK187))
  go_ret
  exact⟨ew_,(bl_ HB).out⟩

/-! ### sample_reader_value: function 40 -/
mutual
def sample_reader_value.j1:Nat→Bool→Int→ByteArray→Int→Option (ByteArray × ByteArray × Int)
 | 0,_,_,_,_=>none
 | k+1,x1,x5,x1000,x1001=>if 0≤x1001 then (if x1001≤(wrap64 (x1001+x5)) then (if (wrap64 (x1001+x5))≤(x1000.size:Int) then ((operand_Read.f k (x1000.extract (x1001:Int).toNat ((wrap64 (x1001+x5)):Int).toNat)).bind fun bt191=>(if bt191.2.2.2=0 then (if x1=true then (some (x1000.extract (x1001:Int).toNat ((wrap64 (x1001+x5)):Int).toNat,x1000,wrap64 (x1001+x5))) else ((operand_Ops_V.f bt191.1 bt191.2.1 bt191.2.2.1).bind fun t196=>(if t196>0 then (none) else (some (x1000.extract (x1001:Int).toNat ((wrap64 (x1001+x5)):Int).toNat,x1000,wrap64 (x1001+x5)))))) else (none))) else (none)) else (none)) else (none)
def sample_reader_value.l0:Nat→Bool→Int→ByteArray→Int→Option (ByteArray × ByteArray × Int)
 | 0,_,_,_,_=>none
 | k+1,x1,x5,x1000,x1001=>if (wrap64 (x1001+x5))<(x1000.size:Int) then (if 0≤(wrap64 (x1001+x5)) then ((strings_IndexByte.f (⟨#[48,49,50,51,52,53,54,55,56,57,46,99,101]⟩:ByteArray) (bt x1000 (wrap64 (x1001+x5)))).bind fun t190=>(if t190≥0 then (sample_reader_value.l0 k x1 (wrap64 (x5+1)) x1000 x1001) else (sample_reader_value.j1 k x1 x5 x1000 x1001))) else (none)) else (sample_reader_value.j1 k x1 x5 x1000 x1001)
end
def sample_reader_value.f (k:Nat) (s0_0:ByteArray) (s0_1:Int) (a1:Bool):Option (ByteArray × ByteArray × Int):=(sample_reader_blanks.f k s0_0 s0_1).bind fun bt188=>(sample_reader_value.l0 k a1 0 bt188.1 bt188.2)
set_option maxHeartbeats 64000000 in
set_option maxRecDepth 100000 in
theorem sample_reader_value.calls (k:Nat) (g:Nat) (s0_0:ByteArray) (s0_1:Int) (a1:Bool) (r1:ByteArray) (r2:ByteArray) (r3:Int) (w0 w:World) (hI:IsS63 w0 w g s0_0 s0_1) (hB:Below w0.heap.size w0 w) (h:sample_reader_value.f k s0_0 s0_1 a1=some (r1,r2,r3)) :
  Calls Tryd.prog 40 #[.pointer (some ⟨g,0,none⟩),.bool a1] w fun e w'=>e= .returned (.string r1)∧IsS63 w0 w' g r2 r3∧Below w0.heap.size w0 w'∧KeepBut w w' g none:=by
 have hu41:=Tryd.underlying41
 have HI0:=Aside0.mk hI
 have HK:=Aside0.mk (KeepBut.refl w g none)
 have HL:=Aside0.mk hB.size
 clear hI
 have HW0:=Aside0.mk hB.size
 have HB:=Aside0.mk hB
 clear hB
 have H:=h
 clear h
 unfold sample_reader_value.f at H
 replace H:=Option.bind_eq_some_iff.mp H
 obtain⟨⟨t188,t189⟩,A30,H⟩:=H
 dsimp only at H
 have A3:=Aside0.mk A30
 clear A30
 have HC4:=Aside0.mk H
 clear H
 go_enter Tryd.func40,Tryd.ntmps40
 go_upto_block 0 with (first|(go_at_call 17;(with_reducible refine(sample_reader_blanks.calls _ _ _ _ _ _ w0 _ ?side1 ?side2 A3.out).mono ?_);(case side1=>exact is63_ HI0);(case side2=>exact bs63_ HB HI0);rintro e w5 ⟨rfl,hi,hb,hk⟩;replace HK:=Aside0.mk (KeepBut.trans (kp_ HK) hk (.inl rfl));replace HB:=Aside0.mk (hb);replace HI0:=Aside0.mk (hi);(try clear hb);(try clear hk);(try clear hi)))
 repeat(go_quiet (first|(go_at_call 17;(with_reducible refine(sample_reader_blanks.calls _ _ _ _ _ _ w0 _ ?side1 ?side2 A3.out).mono ?_);(case side1=>exact is63_ HI0);(case side2=>exact bs63_ HB HI0);rintro e w5 ⟨rfl,hi,hb,hk⟩;replace HK:=Aside0.mk (KeepBut.trans (kp_ HK) hk (.inl rfl));replace HB:=Aside0.mk (hb);replace HI0:=Aside0.mk (hi);(try clear hb);(try clear hk);(try clear hi)));go_upto_block 0 with (first|(go_at_call 17;(with_reducible refine(sample_reader_blanks.calls _ _ _ _ _ _ w0 _ ?side1 ?side2 A3.out).mono ?_);(case side1=>exact is63_ HI0);(case side2=>exact bs63_ HB HI0);rintro e w5 ⟨rfl,hi,hb,hk⟩;replace HK:=Aside0.mk (KeepBut.trans (kp_ HK) hk (.inl rfl));replace HB:=Aside0.mk (hb);replace HI0:=Aside0.mk (hi);(try clear hb);(try clear hk);(try clear hi))))
 (try simp only[Act.put,List.setIfInBounds_toArray,List.set_cons_zero,List.set_cons_succ])
 go_cut [5] (fun v5 wc=>∃(kq:Nat) (x5_3:Int),v5= .int .i64 x5_3∧Aside0 (sample_reader_value.j1 kq a1 x5_3 t188 t189=some (r1,r2,r3))∧Aside0 (kq≤k)∧Aside0 (IsS63 w0 wc g t188 t189)∧Aside0 (KeepBut w wc g none)∧Aside0 (Below w0.heap.size w0 wc))
 case first =>
  have H:=HC4.out
  clear HC4
  have H':=Aside0.mk H
  clear H
  go_wp2
  repeat(go_quiet (fail);try go_wp2)
  go_loopg [5] k (fun kq v5 w'=>∃(x5_1:Int),v5= .int .i64 x5_1∧Aside0 (sample_reader_value.l0 kq a1 x5_1 t188 t189=some (r1,r2,r3))∧Aside0 (kq≤k)∧Aside0 (IsS63 w0 w' g t188 t189)∧Aside0 (KeepBut w w' g none)∧Aside0 (Below w0.heap.size w0 w'))
  case atStart=>exact⟨(0),eq_,H',⟨Nat.le_refl _⟩,⟨is63_ HI0⟩,⟨kp_ HK⟩,⟨bs63_ HB HI0⟩⟩
  clear H'
  obtain⟨x5_1,rfl,HA,HK1,HI0,HK,HB⟩:=hrel
  cases gk with
  | zero=>exact absurd HA.out (by simp[sample_reader_value.l0])
  | succ k1=>?_
  have H:=HA.out
  clear HA
  simp only[sample_reader_value.l0] at H
  by_cases c6:(wrap64 (t189+x5_1))<(t188.size:Int)
  ·rw[if_pos c6] at H
   have c6b0:=decide_eq_true c6
   clear c6
   (first|rw[c6b0]|(simp only[i64_w,i32_w];rw[c6b0])|skip)
   obtain⟨ji7,hji7⟩:∃j_:Int,(wrap64 (t189+x5_1))=j_:=⟨_,rfl⟩
   replace H:(if 0≤(ji7) then ((strings_IndexByte.f (⟨#[48,49,50,51,52,53,54,55,56,57,46,99,101]⟩:ByteArray) (bt t188 (ji7))).bind fun t190=>(if t190≥0 then (sample_reader_value.l0 k1 a1 (wrap64 (x5_1+1)) t188 t189) else (sample_reader_value.j1 k1 a1 x5_1 t188 t189))) else (none))=some (r1,r2,r3):=by first|(rw[hji7] at H;exact H)|(simp only[hji7] at H ⊢;exact H)
   (try rw[hji7] at c6b0)
   have hji7w:(IntKind.i64.wrap (t189+x5_1))=ji7:=(i64_w _).trans hji7
   replace H:=ifn_ H
   obtain⟨c8,H⟩:=H
   have c8b0:decide (0≤(ji7))=true:=decide_eq_true c8
   clear c8
   replace H:=Option.bind_eq_some_iff.mp H
   obtain⟨t190,A100,H⟩:=H
   have A10:=Aside0.mk A100
   clear A100
   by_cases c11:t190≥0
   ·rw[if_pos c11] at H
    have c11b0:decide (0≤t190)=true:=decide_eq_true c11
    clear c11
    have H':=Aside0.mk H
    clear H
    obtain⟨hcz12_0,hcz12_1,hfz12_0,hfz12_1⟩:=cs63_ HI0
    have p9:0≤((ji7):Int):=od_
    have q9:(ji7)<(t188.size:Int):=od_
    have hx9:=bt_at t188 (ji7)
    replace p9:=eq_true p9
    replace q9:=eq_true q9
    go_wp2_with (first|(go_at_call 34;(with_reducible refine(strings_IndexByte.calls _ _ _ _ A10.out).mono ?_);rintro e w' ⟨rfl,⟨nd,rfl⟩⟩;(try first|exact⟨rfl,_,World.drewN_drewN _ _ _⟩|exact⟨rfl,_,Eq.trans (World.drewN_drewN _ _ _) (congrArg (World.drewN _) (Nat.add_assoc _ _ _))⟩)))
    repeat(go_quiet (first|(go_at_call 34;(with_reducible refine(strings_IndexByte.calls _ _ _ _ A10.out).mono ?_);rintro e w' ⟨rfl,⟨nd,rfl⟩⟩;(try first|exact⟨rfl,_,World.drewN_drewN _ _ _⟩|exact⟨rfl,_,Eq.trans (World.drewN_drewN _ _ _) (congrArg (World.drewN _) (Nat.add_assoc _ _ _))⟩)));try go_wp2_with (first|(go_at_call 34;(with_reducible refine(strings_IndexByte.calls _ _ _ _ A10.out).mono ?_);rintro e w' ⟨rfl,⟨nd,rfl⟩⟩;(try first|exact⟨rfl,_,World.drewN_drewN _ _ _⟩|exact⟨rfl,_,Eq.trans (World.drewN_drewN _ _ _) (congrArg (World.drewN _) (Nat.add_assoc _ _ _))⟩))))
    go_roundg k1
    case measure=>have:=HK1.out;omega
    case rel=>exact⟨(wrap64 (x5_1+1)),eq_,H',⟨by have:=HK1.out;omega⟩,⟨is63_ HI0⟩,⟨kp_ HK⟩,⟨bs63_ HB HI0⟩⟩
   rw[if_neg c11] at H
   have c11b0:decide (0≤t190)=false:=decide_eq_false c11
   clear c11
   have H':=Aside0.mk H
   clear H
   obtain⟨hcz13_0,hcz13_1,hfz13_0,hfz13_1⟩:=cs63_ HI0
   have p9:0≤((ji7):Int):=od_
   have q9:(ji7)<(t188.size:Int):=od_
   have hx9:=bt_at t188 (ji7)
   replace p9:=eq_true p9
   replace q9:=eq_true q9
   go_wp2_with (first|(go_at_call 34;(with_reducible refine(strings_IndexByte.calls _ _ _ _ A10.out).mono ?_);rintro e w' ⟨rfl,⟨nd,rfl⟩⟩;(try first|exact⟨rfl,_,World.drewN_drewN _ _ _⟩|exact⟨rfl,_,Eq.trans (World.drewN_drewN _ _ _) (congrArg (World.drewN _) (Nat.add_assoc _ _ _))⟩)))
   repeat(go_quiet (first|(go_at_call 34;(with_reducible refine(strings_IndexByte.calls _ _ _ _ A10.out).mono ?_);rintro e w' ⟨rfl,⟨nd,rfl⟩⟩;(try first|exact⟨rfl,_,World.drewN_drewN _ _ _⟩|exact⟨rfl,_,Eq.trans (World.drewN_drewN _ _ _) (congrArg (World.drewN _) (Nat.add_assoc _ _ _))⟩)));try go_wp2_with (first|(go_at_call 34;(with_reducible refine(strings_IndexByte.calls _ _ _ _ A10.out).mono ?_);rintro e w' ⟨rfl,⟨nd,rfl⟩⟩;(try first|exact⟨rfl,_,World.drewN_drewN _ _ _⟩|exact⟨rfl,_,Eq.trans (World.drewN_drewN _ _ _) (congrArg (World.drewN _) (Nat.add_assoc _ _ _))⟩))))
   go_meet
   case rel=>first|(exact⟨_,(x5_1),eq_,(by first|exact H'|(rw[hji7];exact H')|(simp only[hji7];exact H')),⟨by have:=HK1.out;first|omega|exact Nat.le_refl _⟩,⟨is63_ HI0⟩,⟨kp_ HK⟩,⟨bs63_ HB HI0⟩⟩)|(rw[← hji7] at H';exact⟨_,(x5_1),eq_,(by first|exact H'|(rw[hji7];exact H')|(simp only[hji7];exact H')),⟨by have:=HK1.out;first|omega|exact Nat.le_refl _⟩,⟨is63_ HI0⟩,⟨kp_ HK⟩,⟨bs63_ HB HI0⟩⟩)
  rw[if_neg c6] at H
  have c6b0:=decide_eq_false c6
  clear c6
  (first|rw[c6b0]|(simp only[i64_w,i32_w];rw[c6b0])|skip)
  have H':=Aside0.mk H
  clear H
  obtain⟨hcz14_0,hcz14_1,hfz14_0,hfz14_1⟩:=cs63_ HI0
  go_wp2
  repeat(go_quiet (fail);try go_wp2)
  go_meet
  case rel=>exact⟨_,(x5_1),eq_,H',⟨by have:=HK1.out;first|omega|exact Nat.le_refl _⟩,⟨is63_ HI0⟩,⟨kp_ HK⟩,⟨bs63_ HB HI0⟩⟩
 clear HC4
 obtain⟨kq,x5_3,rfl,HA,HJ3,HI0,HK,HB⟩:=hcut
 cases kq with
 | zero=>exact absurd HA.out (by simp[sample_reader_value.j1])
 | succ kj3=>?_
 have H:=HA.out
 clear HA
 simp only[sample_reader_value.j1] at H
 replace H:=ifn_ H
 obtain⟨c15,H⟩:=H
 have c15b0:=eq_true c15
 have c15b1:decide (0≤t189)=true:=decide_eq_true c15
 clear c15
 replace H:=ifn_ H
 obtain⟨c16,H⟩:=H
 have c16b0:=eq_true c16
 have c16b1:decide (t189≤(wrap64 (t189+x5_3)))=true:=decide_eq_true c16
 replace H:=ifn_ H
 obtain⟨c17,H⟩:=H
 have c17b0:=eq_true c17
 have c17b1:decide ((wrap64 (t189+x5_3))≤(t188.size:Int))=true:=decide_eq_true c17
 replace H:=Option.bind_eq_some_iff.mp H
 obtain⟨⟨t191,t192,t193,t194⟩,A180,H⟩:=H
 dsimp only at H
 have A18:=Aside0.mk A180
 clear A180
 by_cases c19:t194=0
 ·rw[if_pos c19] at H
  have c19b0:(t194==0)=true:=beq_iff_eq.mpr c19
  have c19b1:(t194 !=0)=false:=bne_eq_false_iff_eq.mpr c19
  clear c19
  by_cases c20:a1=true
  ·subst c20
   rw[if_pos rfl] at H
   simp only[Option.some.injEq,Prod.mk.injEq] at H
   obtain⟨rfl,rfl,rfl⟩:=H
   obtain⟨hcz21_0,hcz21_1,hfz21_0,hfz21_1⟩:=cs63_ HI0
   go_wp2_with (first|(go_at_call 12;(with_reducible refine(operand_Read.calls kj3 (t188.extract (t189:Int).toNat ((wrap64 (t189+x5_3)):Int).toNat) t191 t192 t193 t194 _ A18.out).mono ?_);rintro e w22 ⟨rfl,hb⟩;have n0_:=Aside0.mk (IsS63.below (is63_ HI0) hb);have n1_:=Aside0.mk (KeepBut.trans (kp_ HK) (KeepBut.of_below hb g none) (.inl rfl));have n2_:=Aside0.mk (below_step (bs63_ HB HI0) hb);clear HI0;clear HK;clear HB;revert n0_ n1_ n2_;intro HI0 HK HB;(try clear hb);(try clear hi))|((with_reducible refine gate_dst (N:=7) rfl ?_);refine be_ 7 #[.string (⟨#[]⟩:ByteArray),.string (⟨#[]⟩:ByteArray),.int .i64 0] 41 ?_;intro gb195 hg w23 hbox hb;have n0_:=Aside0.mk (IsS63.below (is63_ HI0) hb);have n1_:=Aside0.mk (KeepBut.trans (kp_ HK) (KeepBut.of_below hb g none) (.inl rfl));have n2_:=Aside0.mk (below_step (bs63_ HB HI0) hb);have n3_:=Aside0.mk (hbox);have n4_:=Aside0.mk ((by rw[hg];exact(keep_size (w:=w) (g:=g) (row:=none) (kp_ HK)):w.heap.size≤gb195));have n5_:=Aside0.mk ((Nat.le_trans HW0.out (by rw[hg];exact(keep_size (w:=w) (g:=g) (row:=none) (kp_ HK)):w.heap.size≤gb195):w0.heap.size≤gb195));have n6_:=Aside0.mk ((by rw[hg];exact Nat.ne_of_lt (IsS63.lt (show IsS63 w0 _ g t188 t189 from is63_ HI0)):g≠gb195));have n7_:=Aside0.mk ((by rw[hg];exact Nat.ne_of_gt (IsS63.lt (show IsS63 w0 _ g t188 t189 from is63_ HI0)):gb195≠g));clear HI0;clear HK;clear HB;revert n0_ n1_ n2_ n3_ n4_ n5_ n6_ n7_;intro HI0 HK HB BK195 GW195 GE195 NB0_195 NB195_0;clear hb hbox hg;have hnb24:=NB195_0.out;have hnc24:=NB0_195.out;obtain⟨hcz25_0,hcz25_1,hcz25_2,hfz25_0,hfz25_1,hfz25_2⟩:=bo3_ BK195;obtain⟨hcz26_0,hcz26_1,hfz26_0,hfz26_1⟩:=cs63_ HI0))
   repeat(go_quiet (first|(go_at_call 12;(with_reducible refine(operand_Read.calls kj3 (t188.extract (t189:Int).toNat ((wrap64 (t189+x5_3)):Int).toNat) t191 t192 t193 t194 _ A18.out).mono ?_);rintro e w22 ⟨rfl,hb⟩;have n0_:=Aside0.mk (IsS63.below (is63_ HI0) hb);have n1_:=Aside0.mk (KeepBut.trans (kp_ HK) (KeepBut.of_below hb g none) (.inl rfl));have n2_:=Aside0.mk (below_step (bs63_ HB HI0) hb);clear HI0;clear HK;clear HB;revert n0_ n1_ n2_;intro HI0 HK HB;(try clear hb);(try clear hi))|((with_reducible refine gate_dst (N:=7) rfl ?_);refine be_ 7 #[.string (⟨#[]⟩:ByteArray),.string (⟨#[]⟩:ByteArray),.int .i64 0] 41 ?_;intro gb195 hg w23 hbox hb;have n0_:=Aside0.mk (IsS63.below (is63_ HI0) hb);have n1_:=Aside0.mk (KeepBut.trans (kp_ HK) (KeepBut.of_below hb g none) (.inl rfl));have n2_:=Aside0.mk (below_step (bs63_ HB HI0) hb);have n3_:=Aside0.mk (hbox);have n4_:=Aside0.mk ((by rw[hg];exact(keep_size (w:=w) (g:=g) (row:=none) (kp_ HK)):w.heap.size≤gb195));have n5_:=Aside0.mk ((Nat.le_trans HW0.out (by rw[hg];exact(keep_size (w:=w) (g:=g) (row:=none) (kp_ HK)):w.heap.size≤gb195):w0.heap.size≤gb195));have n6_:=Aside0.mk ((by rw[hg];exact Nat.ne_of_lt (IsS63.lt (show IsS63 w0 _ g t188 t189 from is63_ HI0)):g≠gb195));have n7_:=Aside0.mk ((by rw[hg];exact Nat.ne_of_gt (IsS63.lt (show IsS63 w0 _ g t188 t189 from is63_ HI0)):gb195≠g));clear HI0;clear HK;clear HB;revert n0_ n1_ n2_ n3_ n4_ n5_ n6_ n7_;intro HI0 HK HB BK195 GW195 GE195 NB0_195 NB195_0;clear hb hbox hg;have hnb24:=NB195_0.out;have hnc24:=NB0_195.out;obtain⟨hcz25_0,hcz25_1,hcz25_2,hfz25_0,hfz25_1,hfz25_2⟩:=bo3_ BK195;obtain⟨hcz26_0,hcz26_1,hfz26_0,hfz26_1⟩:=cs63_ HI0));try go_wp2_with (first|(go_at_call 12;(with_reducible refine(operand_Read.calls kj3 (t188.extract (t189:Int).toNat ((wrap64 (t189+x5_3)):Int).toNat) t191 t192 t193 t194 _ A18.out).mono ?_);rintro e w22 ⟨rfl,hb⟩;have n0_:=Aside0.mk (IsS63.below (is63_ HI0) hb);have n1_:=Aside0.mk (KeepBut.trans (kp_ HK) (KeepBut.of_below hb g none) (.inl rfl));have n2_:=Aside0.mk (below_step (bs63_ HB HI0) hb);clear HI0;clear HK;clear HB;revert n0_ n1_ n2_;intro HI0 HK HB;(try clear hb);(try clear hi))|((with_reducible refine gate_dst (N:=7) rfl ?_);refine be_ 7 #[.string (⟨#[]⟩:ByteArray),.string (⟨#[]⟩:ByteArray),.int .i64 0] 41 ?_;intro gb195 hg w23 hbox hb;have n0_:=Aside0.mk (IsS63.below (is63_ HI0) hb);have n1_:=Aside0.mk (KeepBut.trans (kp_ HK) (KeepBut.of_below hb g none) (.inl rfl));have n2_:=Aside0.mk (below_step (bs63_ HB HI0) hb);have n3_:=Aside0.mk (hbox);have n4_:=Aside0.mk ((by rw[hg];exact(keep_size (w:=w) (g:=g) (row:=none) (kp_ HK)):w.heap.size≤gb195));have n5_:=Aside0.mk ((Nat.le_trans HW0.out (by rw[hg];exact(keep_size (w:=w) (g:=g) (row:=none) (kp_ HK)):w.heap.size≤gb195):w0.heap.size≤gb195));have n6_:=Aside0.mk ((by rw[hg];exact Nat.ne_of_lt (IsS63.lt (show IsS63 w0 _ g t188 t189 from is63_ HI0)):g≠gb195));have n7_:=Aside0.mk ((by rw[hg];exact Nat.ne_of_gt (IsS63.lt (show IsS63 w0 _ g t188 t189 from is63_ HI0)):gb195≠g));clear HI0;clear HK;clear HB;revert n0_ n1_ n2_ n3_ n4_ n5_ n6_ n7_;intro HI0 HK HB BK195 GW195 GE195 NB0_195 NB195_0;clear hb hbox hg;have hnb24:=NB195_0.out;have hnc24:=NB0_195.out;obtain⟨hcz25_0,hcz25_1,hcz25_2,hfz25_0,hfz25_1,hfz25_2⟩:=bo3_ BK195;obtain⟨hcz26_0,hcz26_1,hfz26_0,hfz26_1⟩:=cs63_ HI0)))
   go_ret
   exact⟨ew_,is63_ HI0,bs63_ HB HI0,kp_ HK⟩
  replace c20:=Bool.eq_false_iff.mpr c20
  subst c20
  rw[if_neg (show ¬(false=true) by decide)] at H
  replace H:=Option.bind_eq_some_iff.mp H
  obtain⟨t196,A270,H⟩:=H
  have A27:=Aside0.mk A270
  clear A270
  by_cases c28:t196>0
  ·rw[if_pos c28] at H
   have c28b0:decide (0<t196)=true:=decide_eq_true c28
   clear c28
   exact absurd H (by simp)
  rw[if_neg c28] at H
  have c28b0:decide (0<t196)=false:=decide_eq_false c28
  clear c28
  simp only[Option.some.injEq,Prod.mk.injEq] at H
  obtain⟨rfl,rfl,rfl⟩:=H
  obtain⟨hcz29_0,hcz29_1,hfz29_0,hfz29_1⟩:=cs63_ HI0
  go_wp2_with (first|(go_at_call 12;(with_reducible refine(operand_Read.calls kj3 (t188.extract (t189:Int).toNat ((wrap64 (t189+x5_3)):Int).toNat) t191 t192 t193 t194 _ A18.out).mono ?_);rintro e w30 ⟨rfl,hb⟩;have n0_:=Aside0.mk (IsS63.below (is63_ HI0) hb);have n1_:=Aside0.mk (KeepBut.trans (kp_ HK) (KeepBut.of_below hb g none) (.inl rfl));have n2_:=Aside0.mk (below_step (bs63_ HB HI0) hb);clear HI0;clear HK;clear HB;revert n0_ n1_ n2_;intro HI0 HK HB;(try clear hb);(try clear hi))|((with_reducible refine gate_dst (N:=7) rfl ?_);refine be_ 7 #[.string (⟨#[]⟩:ByteArray),.string (⟨#[]⟩:ByteArray),.int .i64 0] 41 ?_;intro gb195 hg w31 hbox hb;have n0_:=Aside0.mk (IsS63.below (is63_ HI0) hb);have n1_:=Aside0.mk (KeepBut.trans (kp_ HK) (KeepBut.of_below hb g none) (.inl rfl));have n2_:=Aside0.mk (below_step (bs63_ HB HI0) hb);have n3_:=Aside0.mk (hbox);have n4_:=Aside0.mk ((by rw[hg];exact(keep_size (w:=w) (g:=g) (row:=none) (kp_ HK)):w.heap.size≤gb195));have n5_:=Aside0.mk ((Nat.le_trans HW0.out (by rw[hg];exact(keep_size (w:=w) (g:=g) (row:=none) (kp_ HK)):w.heap.size≤gb195):w0.heap.size≤gb195));have n6_:=Aside0.mk ((by rw[hg];exact Nat.ne_of_lt (IsS63.lt (show IsS63 w0 _ g t188 t189 from is63_ HI0)):g≠gb195));have n7_:=Aside0.mk ((by rw[hg];exact Nat.ne_of_gt (IsS63.lt (show IsS63 w0 _ g t188 t189 from is63_ HI0)):gb195≠g));clear HI0;clear HK;clear HB;revert n0_ n1_ n2_ n3_ n4_ n5_ n6_ n7_;intro HI0 HK HB BK195 GW195 GE195 NB0_195 NB195_0;clear hb hbox hg;have hnb32:=NB195_0.out;have hnc32:=NB0_195.out;obtain⟨hcz33_0,hcz33_1,hcz33_2,hfz33_0,hfz33_1,hfz33_2⟩:=bo3_ BK195)|(go_at_call 13;(with_reducible refine(operand_Ops_V.calls _ _ _ _ _ A27.out).mono ?_);rintro e w34 ⟨rfl,hb⟩;have n0_:=Aside0.mk (IsS63.below (show IsS63 w0 (((w31.setCell ⟨gb195,0,none⟩ (.string t191)).setCell ⟨gb195,1,none⟩ (.string t192)).setCell ⟨gb195,2,none⟩ (.int .i64 t193)) g t188 t189 from is63_ HI0) hb);have n1_:=Aside0.mk (blk_below (g:=gb195) (o:= .cells #[.string t191,.string t192,.int .i64 t193] 41 (0,0)) ((bp_ BK195).out) hb);have n2_:=Aside0.mk (KeepBut.trans (kp_ HK) (KeepBut.of_below hb g none) (.inl rfl));have n3_:=Aside0.mk (below_step (bs63_ HB HI0) hb);clear HI0;clear BK195;clear HK;clear HB;revert n0_ n1_ n2_ n3_;intro HI0 BK195 HK HB;(try clear hb);obtain⟨hcz35_0,hcz35_1,hfz35_0,hfz35_1⟩:=cs63_ HI0))
  repeat(go_quiet (first|(go_at_call 12;(with_reducible refine(operand_Read.calls kj3 (t188.extract (t189:Int).toNat ((wrap64 (t189+x5_3)):Int).toNat) t191 t192 t193 t194 _ A18.out).mono ?_);rintro e w30 ⟨rfl,hb⟩;have n0_:=Aside0.mk (IsS63.below (is63_ HI0) hb);have n1_:=Aside0.mk (KeepBut.trans (kp_ HK) (KeepBut.of_below hb g none) (.inl rfl));have n2_:=Aside0.mk (below_step (bs63_ HB HI0) hb);clear HI0;clear HK;clear HB;revert n0_ n1_ n2_;intro HI0 HK HB;(try clear hb);(try clear hi))|((with_reducible refine gate_dst (N:=7) rfl ?_);refine be_ 7 #[.string (⟨#[]⟩:ByteArray),.string (⟨#[]⟩:ByteArray),.int .i64 0] 41 ?_;intro gb195 hg w31 hbox hb;have n0_:=Aside0.mk (IsS63.below (is63_ HI0) hb);have n1_:=Aside0.mk (KeepBut.trans (kp_ HK) (KeepBut.of_below hb g none) (.inl rfl));have n2_:=Aside0.mk (below_step (bs63_ HB HI0) hb);have n3_:=Aside0.mk (hbox);have n4_:=Aside0.mk ((by rw[hg];exact(keep_size (w:=w) (g:=g) (row:=none) (kp_ HK)):w.heap.size≤gb195));have n5_:=Aside0.mk ((Nat.le_trans HW0.out (by rw[hg];exact(keep_size (w:=w) (g:=g) (row:=none) (kp_ HK)):w.heap.size≤gb195):w0.heap.size≤gb195));have n6_:=Aside0.mk ((by rw[hg];exact Nat.ne_of_lt (IsS63.lt (show IsS63 w0 _ g t188 t189 from is63_ HI0)):g≠gb195));have n7_:=Aside0.mk ((by rw[hg];exact Nat.ne_of_gt (IsS63.lt (show IsS63 w0 _ g t188 t189 from is63_ HI0)):gb195≠g));clear HI0;clear HK;clear HB;revert n0_ n1_ n2_ n3_ n4_ n5_ n6_ n7_;intro HI0 HK HB BK195 GW195 GE195 NB0_195 NB195_0;clear hb hbox hg;have hnb32:=NB195_0.out;have hnc32:=NB0_195.out;obtain⟨hcz33_0,hcz33_1,hcz33_2,hfz33_0,hfz33_1,hfz33_2⟩:=bo3_ BK195)|(go_at_call 13;(with_reducible refine(operand_Ops_V.calls _ _ _ _ _ A27.out).mono ?_);rintro e w34 ⟨rfl,hb⟩;have n0_:=Aside0.mk (IsS63.below (show IsS63 w0 (((w31.setCell ⟨gb195,0,none⟩ (.string t191)).setCell ⟨gb195,1,none⟩ (.string t192)).setCell ⟨gb195,2,none⟩ (.int .i64 t193)) g t188 t189 from is63_ HI0) hb);have n1_:=Aside0.mk (blk_below (g:=gb195) (o:= .cells #[.string t191,.string t192,.int .i64 t193] 41 (0,0)) ((bp_ BK195).out) hb);have n2_:=Aside0.mk (KeepBut.trans (kp_ HK) (KeepBut.of_below hb g none) (.inl rfl));have n3_:=Aside0.mk (below_step (bs63_ HB HI0) hb);clear HI0;clear BK195;clear HK;clear HB;revert n0_ n1_ n2_ n3_;intro HI0 BK195 HK HB;(try clear hb);obtain⟨hcz35_0,hcz35_1,hfz35_0,hfz35_1⟩:=cs63_ HI0));try go_wp2_with (first|(go_at_call 12;(with_reducible refine(operand_Read.calls kj3 (t188.extract (t189:Int).toNat ((wrap64 (t189+x5_3)):Int).toNat) t191 t192 t193 t194 _ A18.out).mono ?_);rintro e w30 ⟨rfl,hb⟩;have n0_:=Aside0.mk (IsS63.below (is63_ HI0) hb);have n1_:=Aside0.mk (KeepBut.trans (kp_ HK) (KeepBut.of_below hb g none) (.inl rfl));have n2_:=Aside0.mk (below_step (bs63_ HB HI0) hb);clear HI0;clear HK;clear HB;revert n0_ n1_ n2_;intro HI0 HK HB;(try clear hb);(try clear hi))|((with_reducible refine gate_dst (N:=7) rfl ?_);refine be_ 7 #[.string (⟨#[]⟩:ByteArray),.string (⟨#[]⟩:ByteArray),.int .i64 0] 41 ?_;intro gb195 hg w31 hbox hb;have n0_:=Aside0.mk (IsS63.below (is63_ HI0) hb);have n1_:=Aside0.mk (KeepBut.trans (kp_ HK) (KeepBut.of_below hb g none) (.inl rfl));have n2_:=Aside0.mk (below_step (bs63_ HB HI0) hb);have n3_:=Aside0.mk (hbox);have n4_:=Aside0.mk ((by rw[hg];exact(keep_size (w:=w) (g:=g) (row:=none) (kp_ HK)):w.heap.size≤gb195));have n5_:=Aside0.mk ((Nat.le_trans HW0.out (by rw[hg];exact(keep_size (w:=w) (g:=g) (row:=none) (kp_ HK)):w.heap.size≤gb195):w0.heap.size≤gb195));have n6_:=Aside0.mk ((by rw[hg];exact Nat.ne_of_lt (IsS63.lt (show IsS63 w0 _ g t188 t189 from is63_ HI0)):g≠gb195));have n7_:=Aside0.mk ((by rw[hg];exact Nat.ne_of_gt (IsS63.lt (show IsS63 w0 _ g t188 t189 from is63_ HI0)):gb195≠g));clear HI0;clear HK;clear HB;revert n0_ n1_ n2_ n3_ n4_ n5_ n6_ n7_;intro HI0 HK HB BK195 GW195 GE195 NB0_195 NB195_0;clear hb hbox hg;have hnb32:=NB195_0.out;have hnc32:=NB0_195.out;obtain⟨hcz33_0,hcz33_1,hcz33_2,hfz33_0,hfz33_1,hfz33_2⟩:=bo3_ BK195)|(go_at_call 13;(with_reducible refine(operand_Ops_V.calls _ _ _ _ _ A27.out).mono ?_);rintro e w34 ⟨rfl,hb⟩;have n0_:=Aside0.mk (IsS63.below (show IsS63 w0 (((w31.setCell ⟨gb195,0,none⟩ (.string t191)).setCell ⟨gb195,1,none⟩ (.string t192)).setCell ⟨gb195,2,none⟩ (.int .i64 t193)) g t188 t189 from is63_ HI0) hb);have n1_:=Aside0.mk (blk_below (g:=gb195) (o:= .cells #[.string t191,.string t192,.int .i64 t193] 41 (0,0)) ((bp_ BK195).out) hb);have n2_:=Aside0.mk (KeepBut.trans (kp_ HK) (KeepBut.of_below hb g none) (.inl rfl));have n3_:=Aside0.mk (below_step (bs63_ HB HI0) hb);clear HI0;clear BK195;clear HK;clear HB;revert n0_ n1_ n2_ n3_;intro HI0 BK195 HK HB;(try clear hb);obtain⟨hcz35_0,hcz35_1,hfz35_0,hfz35_1⟩:=cs63_ HI0)))
  go_ret
  exact⟨ew_,is63_ HI0,bs63_ HB HI0,kp_ HK⟩
 rw[if_neg c19] at H
 have c19b0:(t194==0)=false:=beq_eq_false_iff_ne.mpr c19
 have c19b1:(t194 !=0)=true:=bne_iff_ne.mpr c19
 exact absurd H (by simp)

/-! ### sample_fail_g: function 27 -/
def sample_fail_g.f (a0 a1:Int):Option (Int × Int):=some (a0,a1)
set_option maxRecDepth 100000 in
theorem sample_fail_g.calls (a0 a1 r1 r2:Int) (w:World) (h:sample_fail_g.f a0 a1=some (r1,r2)) :
    Calls Tryd.prog 27 #[.int .i64 a0,.int .i64 a1] w fun e w'=>e= .panicked [{v:= .iface 59 (.agg #[.int .i64 r1,.int .i64 r2]),recovered:=false}]∧Below w.heap.size w w':=by
  simp only[sample_fail_g.f,Option.some.injEq,Prod.mk.injEq] at h
  obtain⟨rfl,rfl⟩:=h
  go_enter Tryd.func27,Tryd.ntmps27
  go_wp2
  exact⟨rfl,rfl,Below.refl _ _⟩

/-! ### sample_reader_value_g: function 40 -/
mutual
def sample_reader_value_g.j1:Nat→Bool→Int→ByteArray→Int→Option (Int × Int)
 | 0,_,_,_,_=>none
 | k+1,x1,x5,x1000,x1001=>if 0≤x1001 then (if x1001≤(wrap64 (x1001+x5)) then (if (wrap64 (x1001+x5))≤(x1000.size:Int) then ((operand_Read.f k (x1000.extract (x1001:Int).toNat ((wrap64 (x1001+x5)):Int).toNat)).bind fun bt200=>(if bt200.2.2.2=0 then (if x1=true then (none) else ((operand_Ops_V.f bt200.1 bt200.2.1 bt200.2.2.1).bind fun t207=>(if t207>0 then ((sample_fail_g.f 1 x1001).bind fun bt208=>(some (bt208.1,bt208.2))) else (none)))) else ((sample_fail_g.f bt200.2.2.2 x1001).bind fun bt205=>(some (bt205.1,bt205.2))))) else (none)) else (none)) else (none)
def sample_reader_value_g.l0:Nat→Bool→Int→ByteArray→Int→Option (Int × Int)
 | 0,_,_,_,_=>none
 | k+1,x1,x5,x1000,x1001=>if (wrap64 (x1001+x5))<(x1000.size:Int) then (if 0≤(wrap64 (x1001+x5)) then ((strings_IndexByte.f (⟨#[48,49,50,51,52,53,54,55,56,57,46,99,101]⟩:ByteArray) (bt x1000 (wrap64 (x1001+x5)))).bind fun t199=>(if t199≥0 then (sample_reader_value_g.l0 k x1 (wrap64 (x5+1)) x1000 x1001) else (sample_reader_value_g.j1 k x1 x5 x1000 x1001))) else (none)) else (sample_reader_value_g.j1 k x1 x5 x1000 x1001)
end
def sample_reader_value_g.f (k:Nat) (s0_0:ByteArray) (s0_1:Int) (a1:Bool):Option (Int × Int):=(sample_reader_blanks.f k s0_0 s0_1).bind fun bt197=>(sample_reader_value_g.l0 k a1 0 bt197.1 bt197.2)
set_option maxHeartbeats 64000000 in
set_option maxRecDepth 100000 in
theorem sample_reader_value_g.calls (k:Nat) (g:Nat) (s0_0:ByteArray) (s0_1:Int) (a1:Bool) (r1:Int) (r2:Int) (w0 w:World) (hI:IsS63 w0 w g s0_0 s0_1) (hB:Below w0.heap.size w0 w) (h:sample_reader_value_g.f k s0_0 s0_1 a1=some (r1,r2)) :
  Calls Tryd.prog 40 #[.pointer (some ⟨g,0,none⟩),.bool a1] w fun e w'=>e= .panicked [{v:= .iface 59 (.agg #[.int .i64 r1,.int .i64 r2]),recovered:=false}]∧Below w0.heap.size w0 w':=by
 have hu41:=Tryd.underlying41
 have HI0:=Aside0.mk hI
 have HK:=Aside0.mk (KeepBut.refl w g none)
 have HL:=Aside0.mk hB.size
 clear hI
 have HW0:=Aside0.mk hB.size
 have HB:=Aside0.mk hB
 clear hB
 have H:=h
 clear h
 unfold sample_reader_value_g.f at H
 replace H:=Option.bind_eq_some_iff.mp H
 obtain⟨⟨t197,t198⟩,A30,H⟩:=H
 dsimp only at H
 have A3:=Aside0.mk A30
 clear A30
 have HC4:=Aside0.mk H
 clear H
 go_enter Tryd.func40,Tryd.ntmps40
 go_upto_block 0 with (first|(go_at_call 17;(with_reducible refine(sample_reader_blanks.calls _ _ _ _ _ _ w0 _ ?side1 ?side2 A3.out).mono ?_);(case side1=>exact is63_ HI0);(case side2=>exact bs63_ HB HI0);rintro e w5 ⟨rfl,hi,hb,hk⟩;replace HK:=Aside0.mk (KeepBut.trans (kp_ HK) hk (.inl rfl));replace HB:=Aside0.mk (hb);replace HI0:=Aside0.mk (hi);(try clear hb);(try clear hk);(try clear hi)))
 repeat(go_quiet (first|(go_at_call 17;(with_reducible refine(sample_reader_blanks.calls _ _ _ _ _ _ w0 _ ?side1 ?side2 A3.out).mono ?_);(case side1=>exact is63_ HI0);(case side2=>exact bs63_ HB HI0);rintro e w5 ⟨rfl,hi,hb,hk⟩;replace HK:=Aside0.mk (KeepBut.trans (kp_ HK) hk (.inl rfl));replace HB:=Aside0.mk (hb);replace HI0:=Aside0.mk (hi);(try clear hb);(try clear hk);(try clear hi)));go_upto_block 0 with (first|(go_at_call 17;(with_reducible refine(sample_reader_blanks.calls _ _ _ _ _ _ w0 _ ?side1 ?side2 A3.out).mono ?_);(case side1=>exact is63_ HI0);(case side2=>exact bs63_ HB HI0);rintro e w5 ⟨rfl,hi,hb,hk⟩;replace HK:=Aside0.mk (KeepBut.trans (kp_ HK) hk (.inl rfl));replace HB:=Aside0.mk (hb);replace HI0:=Aside0.mk (hi);(try clear hb);(try clear hk);(try clear hi))))
 (try simp only[Act.put,List.setIfInBounds_toArray,List.set_cons_zero,List.set_cons_succ])
 go_cut [5] (fun v5 wc=>∃(kq:Nat) (x5_3:Int),v5= .int .i64 x5_3∧Aside0 (sample_reader_value_g.j1 kq a1 x5_3 t197 t198=some (r1,r2))∧Aside0 (kq≤k)∧Aside0 (IsS63 w0 wc g t197 t198)∧Aside0 (KeepBut w wc g none)∧Aside0 (Below w0.heap.size w0 wc))
 case first =>
  have H:=HC4.out
  clear HC4
  have H':=Aside0.mk H
  clear H
  go_wp2
  repeat(go_quiet (fail);try go_wp2)
  go_loopg [5] k (fun kq v5 w'=>∃(x5_1:Int),v5= .int .i64 x5_1∧Aside0 (sample_reader_value_g.l0 kq a1 x5_1 t197 t198=some (r1,r2))∧Aside0 (kq≤k)∧Aside0 (IsS63 w0 w' g t197 t198)∧Aside0 (KeepBut w w' g none)∧Aside0 (Below w0.heap.size w0 w'))
  case atStart=>exact⟨(0),eq_,H',⟨Nat.le_refl _⟩,⟨is63_ HI0⟩,⟨kp_ HK⟩,⟨bs63_ HB HI0⟩⟩
  clear H'
  obtain⟨x5_1,rfl,HA,HK1,HI0,HK,HB⟩:=hrel
  cases gk with
  | zero=>exact absurd HA.out (by simp[sample_reader_value_g.l0])
  | succ k1=>?_
  have H:=HA.out
  clear HA
  simp only[sample_reader_value_g.l0] at H
  by_cases c6:(wrap64 (t198+x5_1))<(t197.size:Int)
  ·rw[if_pos c6] at H
   have c6b0:=decide_eq_true c6
   clear c6
   (first|rw[c6b0]|(simp only[i64_w,i32_w];rw[c6b0])|skip)
   obtain⟨ji7,hji7⟩:∃j_:Int,(wrap64 (t198+x5_1))=j_:=⟨_,rfl⟩
   replace H:(if 0≤(ji7) then ((strings_IndexByte.f (⟨#[48,49,50,51,52,53,54,55,56,57,46,99,101]⟩:ByteArray) (bt t197 (ji7))).bind fun t199=>(if t199≥0 then (sample_reader_value_g.l0 k1 a1 (wrap64 (x5_1+1)) t197 t198) else (sample_reader_value_g.j1 k1 a1 x5_1 t197 t198))) else (none))=some (r1,r2):=by first|(rw[hji7] at H;exact H)|(simp only[hji7] at H ⊢;exact H)
   (try rw[hji7] at c6b0)
   have hji7w:(IntKind.i64.wrap (t198+x5_1))=ji7:=(i64_w _).trans hji7
   replace H:=ifn_ H
   obtain⟨c8,H⟩:=H
   have c8b0:decide (0≤(ji7))=true:=decide_eq_true c8
   clear c8
   replace H:=Option.bind_eq_some_iff.mp H
   obtain⟨t199,A100,H⟩:=H
   have A10:=Aside0.mk A100
   clear A100
   by_cases c11:t199≥0
   ·rw[if_pos c11] at H
    have c11b0:decide (0≤t199)=true:=decide_eq_true c11
    clear c11
    have H':=Aside0.mk H
    clear H
    obtain⟨hcz12_0,hcz12_1,hfz12_0,hfz12_1⟩:=cs63_ HI0
    have p9:0≤((ji7):Int):=od_
    have q9:(ji7)<(t197.size:Int):=od_
    have hx9:=bt_at t197 (ji7)
    replace p9:=eq_true p9
    replace q9:=eq_true q9
    go_wp2_with (first|(go_at_call 34;(with_reducible refine(strings_IndexByte.calls _ _ _ _ A10.out).mono ?_);rintro e w' ⟨rfl,⟨nd,rfl⟩⟩;(try first|exact⟨rfl,_,World.drewN_drewN _ _ _⟩|exact⟨rfl,_,Eq.trans (World.drewN_drewN _ _ _) (congrArg (World.drewN _) (Nat.add_assoc _ _ _))⟩)))
    repeat(go_quiet (first|(go_at_call 34;(with_reducible refine(strings_IndexByte.calls _ _ _ _ A10.out).mono ?_);rintro e w' ⟨rfl,⟨nd,rfl⟩⟩;(try first|exact⟨rfl,_,World.drewN_drewN _ _ _⟩|exact⟨rfl,_,Eq.trans (World.drewN_drewN _ _ _) (congrArg (World.drewN _) (Nat.add_assoc _ _ _))⟩)));try go_wp2_with (first|(go_at_call 34;(with_reducible refine(strings_IndexByte.calls _ _ _ _ A10.out).mono ?_);rintro e w' ⟨rfl,⟨nd,rfl⟩⟩;(try first|exact⟨rfl,_,World.drewN_drewN _ _ _⟩|exact⟨rfl,_,Eq.trans (World.drewN_drewN _ _ _) (congrArg (World.drewN _) (Nat.add_assoc _ _ _))⟩))))
    go_roundg k1
    case measure=>have:=HK1.out;omega
    case rel=>exact⟨(wrap64 (x5_1+1)),eq_,H',⟨by have:=HK1.out;omega⟩,⟨is63_ HI0⟩,⟨kp_ HK⟩,⟨bs63_ HB HI0⟩⟩
   rw[if_neg c11] at H
   have c11b0:decide (0≤t199)=false:=decide_eq_false c11
   clear c11
   have H':=Aside0.mk H
   clear H
   obtain⟨hcz13_0,hcz13_1,hfz13_0,hfz13_1⟩:=cs63_ HI0
   have p9:0≤((ji7):Int):=od_
   have q9:(ji7)<(t197.size:Int):=od_
   have hx9:=bt_at t197 (ji7)
   replace p9:=eq_true p9
   replace q9:=eq_true q9
   go_wp2_with (first|(go_at_call 34;(with_reducible refine(strings_IndexByte.calls _ _ _ _ A10.out).mono ?_);rintro e w' ⟨rfl,⟨nd,rfl⟩⟩;(try first|exact⟨rfl,_,World.drewN_drewN _ _ _⟩|exact⟨rfl,_,Eq.trans (World.drewN_drewN _ _ _) (congrArg (World.drewN _) (Nat.add_assoc _ _ _))⟩)))
   repeat(go_quiet (first|(go_at_call 34;(with_reducible refine(strings_IndexByte.calls _ _ _ _ A10.out).mono ?_);rintro e w' ⟨rfl,⟨nd,rfl⟩⟩;(try first|exact⟨rfl,_,World.drewN_drewN _ _ _⟩|exact⟨rfl,_,Eq.trans (World.drewN_drewN _ _ _) (congrArg (World.drewN _) (Nat.add_assoc _ _ _))⟩)));try go_wp2_with (first|(go_at_call 34;(with_reducible refine(strings_IndexByte.calls _ _ _ _ A10.out).mono ?_);rintro e w' ⟨rfl,⟨nd,rfl⟩⟩;(try first|exact⟨rfl,_,World.drewN_drewN _ _ _⟩|exact⟨rfl,_,Eq.trans (World.drewN_drewN _ _ _) (congrArg (World.drewN _) (Nat.add_assoc _ _ _))⟩))))
   go_meet
   case rel=>first|(exact⟨_,(x5_1),eq_,(by first|exact H'|(rw[hji7];exact H')|(simp only[hji7];exact H')),⟨by have:=HK1.out;first|omega|exact Nat.le_refl _⟩,⟨is63_ HI0⟩,⟨kp_ HK⟩,⟨bs63_ HB HI0⟩⟩)|(rw[← hji7] at H';exact⟨_,(x5_1),eq_,(by first|exact H'|(rw[hji7];exact H')|(simp only[hji7];exact H')),⟨by have:=HK1.out;first|omega|exact Nat.le_refl _⟩,⟨is63_ HI0⟩,⟨kp_ HK⟩,⟨bs63_ HB HI0⟩⟩)
  rw[if_neg c6] at H
  have c6b0:=decide_eq_false c6
  clear c6
  (first|rw[c6b0]|(simp only[i64_w,i32_w];rw[c6b0])|skip)
  have H':=Aside0.mk H
  clear H
  obtain⟨hcz14_0,hcz14_1,hfz14_0,hfz14_1⟩:=cs63_ HI0
  go_wp2
  repeat(go_quiet (fail);try go_wp2)
  go_meet
  case rel=>exact⟨_,(x5_1),eq_,H',⟨by have:=HK1.out;first|omega|exact Nat.le_refl _⟩,⟨is63_ HI0⟩,⟨kp_ HK⟩,⟨bs63_ HB HI0⟩⟩
 clear HC4
 obtain⟨kq,x5_3,rfl,HA,HJ3,HI0,HK,HB⟩:=hcut
 cases kq with
 | zero=>exact absurd HA.out (by simp[sample_reader_value_g.j1])
 | succ kj3=>?_
 have H:=HA.out
 clear HA
 simp only[sample_reader_value_g.j1] at H
 replace H:=ifn_ H
 obtain⟨c15,H⟩:=H
 have c15b0:=eq_true c15
 have c15b1:decide (0≤t198)=true:=decide_eq_true c15
 clear c15
 replace H:=ifn_ H
 obtain⟨c16,H⟩:=H
 have c16b0:=eq_true c16
 have c16b1:decide (t198≤(wrap64 (t198+x5_3)))=true:=decide_eq_true c16
 replace H:=ifn_ H
 obtain⟨c17,H⟩:=H
 have c17b0:=eq_true c17
 have c17b1:decide ((wrap64 (t198+x5_3))≤(t197.size:Int))=true:=decide_eq_true c17
 replace H:=Option.bind_eq_some_iff.mp H
 obtain⟨⟨t200,t201,t202,t203⟩,A180,H⟩:=H
 dsimp only at H
 have A18:=Aside0.mk A180
 clear A180
 by_cases c19:t203=0
 ·rw[if_pos c19] at H
  have c19b0:(t203==0)=true:=beq_iff_eq.mpr c19
  have c19b1:(t203 !=0)=false:=bne_eq_false_iff_eq.mpr c19
  clear c19
  by_cases c20:a1=true
  ·subst c20
   rw[if_pos rfl] at H
   exact absurd H (by simp)
  replace c20:=Bool.eq_false_iff.mpr c20
  subst c20
  rw[if_neg (show ¬(false=true) by decide)] at H
  replace H:=Option.bind_eq_some_iff.mp H
  obtain⟨t207,A210,H⟩:=H
  have A21:=Aside0.mk A210
  clear A210
  replace H:=ifn_ H
  obtain⟨c22,H⟩:=H
  have c22b0:decide (0<t207)=true:=decide_eq_true c22
  clear c22
  replace H:=Option.bind_eq_some_iff.mp H
  obtain⟨⟨t208,t209⟩,A230,H⟩:=H
  dsimp only at H
  have A23:=Aside0.mk A230
  clear A230
  simp only[Option.some.injEq,Prod.mk.injEq] at H
  obtain⟨rfl,rfl⟩:=H
  obtain⟨hcz24_0,hcz24_1,hfz24_0,hfz24_1⟩:=cs63_ HI0
  go_wp2_with (first|(go_at_call 12;(with_reducible refine(operand_Read.calls kj3 (t197.extract (t198:Int).toNat ((wrap64 (t198+x5_3)):Int).toNat) t200 t201 t202 t203 _ A18.out).mono ?_);rintro e w25 ⟨rfl,hb⟩;have n0_:=Aside0.mk (IsS63.below (is63_ HI0) hb);have n1_:=Aside0.mk (KeepBut.trans (kp_ HK) (KeepBut.of_below hb g none) (.inl rfl));have n2_:=Aside0.mk (below_step (bs63_ HB HI0) hb);clear HI0;clear HK;clear HB;revert n0_ n1_ n2_;intro HI0 HK HB;(try clear hb);(try clear hi))|((with_reducible refine gate_dst (N:=7) rfl ?_);refine be_ 7 #[.string (⟨#[]⟩:ByteArray),.string (⟨#[]⟩:ByteArray),.int .i64 0] 41 ?_;intro gb204 hg w26 hbox hb;have n0_:=Aside0.mk (IsS63.below (is63_ HI0) hb);have n1_:=Aside0.mk (KeepBut.trans (kp_ HK) (KeepBut.of_below hb g none) (.inl rfl));have n2_:=Aside0.mk (below_step (bs63_ HB HI0) hb);have n3_:=Aside0.mk (hbox);have n4_:=Aside0.mk ((by rw[hg];exact(keep_size (w:=w) (g:=g) (row:=none) (kp_ HK)):w.heap.size≤gb204));have n5_:=Aside0.mk ((Nat.le_trans HW0.out (by rw[hg];exact(keep_size (w:=w) (g:=g) (row:=none) (kp_ HK)):w.heap.size≤gb204):w0.heap.size≤gb204));have n6_:=Aside0.mk ((by rw[hg];exact Nat.ne_of_lt (IsS63.lt (show IsS63 w0 _ g t197 t198 from is63_ HI0)):g≠gb204));have n7_:=Aside0.mk ((by rw[hg];exact Nat.ne_of_gt (IsS63.lt (show IsS63 w0 _ g t197 t198 from is63_ HI0)):gb204≠g));clear HI0;clear HK;clear HB;revert n0_ n1_ n2_ n3_ n4_ n5_ n6_ n7_;intro HI0 HK HB BK204 GW204 GE204 NB0_204 NB204_0;clear hb hbox hg;have hnb27:=NB204_0.out;have hnc27:=NB0_204.out;obtain⟨hcz28_0,hcz28_1,hcz28_2,hfz28_0,hfz28_1,hfz28_2⟩:=bo3_ BK204)|(go_at_call 13;(with_reducible refine(operand_Ops_V.calls _ _ _ _ _ A21.out).mono ?_);rintro e w29 ⟨rfl,hb⟩;have n0_:=Aside0.mk (IsS63.below (show IsS63 w0 (((w26.setCell ⟨gb204,0,none⟩ (.string t200)).setCell ⟨gb204,1,none⟩ (.string t201)).setCell ⟨gb204,2,none⟩ (.int .i64 t202)) g t197 t198 from is63_ HI0) hb);have n1_:=Aside0.mk (blk_below (g:=gb204) (o:= .cells #[.string t200,.string t201,.int .i64 t202] 41 (0,0)) ((bp_ BK204).out) hb);have n2_:=Aside0.mk (KeepBut.trans (kp_ HK) (KeepBut.of_below hb g none) (.inl rfl));have n3_:=Aside0.mk (below_step (bs63_ HB HI0) hb);clear HI0;clear BK204;clear HK;clear HB;revert n0_ n1_ n2_ n3_;intro HI0 BK204 HK HB;(try clear hb);obtain⟨hcz30_0,hcz30_1,hfz30_0,hfz30_1⟩:=cs63_ HI0)|(go_at_call 27;(with_reducible refine(sample_fail_g.calls _ _ _ _ _ A23.out).mono ?_);rintro e w' ⟨rfl,hb⟩;exact And.intro rfl (And.intro rfl (below_step (bs63_ HB HI0) hb))))
  repeat(go_quiet (first|(go_at_call 12;(with_reducible refine(operand_Read.calls kj3 (t197.extract (t198:Int).toNat ((wrap64 (t198+x5_3)):Int).toNat) t200 t201 t202 t203 _ A18.out).mono ?_);rintro e w25 ⟨rfl,hb⟩;have n0_:=Aside0.mk (IsS63.below (is63_ HI0) hb);have n1_:=Aside0.mk (KeepBut.trans (kp_ HK) (KeepBut.of_below hb g none) (.inl rfl));have n2_:=Aside0.mk (below_step (bs63_ HB HI0) hb);clear HI0;clear HK;clear HB;revert n0_ n1_ n2_;intro HI0 HK HB;(try clear hb);(try clear hi))|((with_reducible refine gate_dst (N:=7) rfl ?_);refine be_ 7 #[.string (⟨#[]⟩:ByteArray),.string (⟨#[]⟩:ByteArray),.int .i64 0] 41 ?_;intro gb204 hg w26 hbox hb;have n0_:=Aside0.mk (IsS63.below (is63_ HI0) hb);have n1_:=Aside0.mk (KeepBut.trans (kp_ HK) (KeepBut.of_below hb g none) (.inl rfl));have n2_:=Aside0.mk (below_step (bs63_ HB HI0) hb);have n3_:=Aside0.mk (hbox);have n4_:=Aside0.mk ((by rw[hg];exact(keep_size (w:=w) (g:=g) (row:=none) (kp_ HK)):w.heap.size≤gb204));have n5_:=Aside0.mk ((Nat.le_trans HW0.out (by rw[hg];exact(keep_size (w:=w) (g:=g) (row:=none) (kp_ HK)):w.heap.size≤gb204):w0.heap.size≤gb204));have n6_:=Aside0.mk ((by rw[hg];exact Nat.ne_of_lt (IsS63.lt (show IsS63 w0 _ g t197 t198 from is63_ HI0)):g≠gb204));have n7_:=Aside0.mk ((by rw[hg];exact Nat.ne_of_gt (IsS63.lt (show IsS63 w0 _ g t197 t198 from is63_ HI0)):gb204≠g));clear HI0;clear HK;clear HB;revert n0_ n1_ n2_ n3_ n4_ n5_ n6_ n7_;intro HI0 HK HB BK204 GW204 GE204 NB0_204 NB204_0;clear hb hbox hg;have hnb27:=NB204_0.out;have hnc27:=NB0_204.out;obtain⟨hcz28_0,hcz28_1,hcz28_2,hfz28_0,hfz28_1,hfz28_2⟩:=bo3_ BK204)|(go_at_call 13;(with_reducible refine(operand_Ops_V.calls _ _ _ _ _ A21.out).mono ?_);rintro e w29 ⟨rfl,hb⟩;have n0_:=Aside0.mk (IsS63.below (show IsS63 w0 (((w26.setCell ⟨gb204,0,none⟩ (.string t200)).setCell ⟨gb204,1,none⟩ (.string t201)).setCell ⟨gb204,2,none⟩ (.int .i64 t202)) g t197 t198 from is63_ HI0) hb);have n1_:=Aside0.mk (blk_below (g:=gb204) (o:= .cells #[.string t200,.string t201,.int .i64 t202] 41 (0,0)) ((bp_ BK204).out) hb);have n2_:=Aside0.mk (KeepBut.trans (kp_ HK) (KeepBut.of_below hb g none) (.inl rfl));have n3_:=Aside0.mk (below_step (bs63_ HB HI0) hb);clear HI0;clear BK204;clear HK;clear HB;revert n0_ n1_ n2_ n3_;intro HI0 BK204 HK HB;(try clear hb);obtain⟨hcz30_0,hcz30_1,hfz30_0,hfz30_1⟩:=cs63_ HI0)|(go_at_call 27;(with_reducible refine(sample_fail_g.calls _ _ _ _ _ A23.out).mono ?_);rintro e w' ⟨rfl,hb⟩;exact And.intro rfl (And.intro rfl (below_step (bs63_ HB HI0) hb))));try go_wp2_with (first|(go_at_call 12;(with_reducible refine(operand_Read.calls kj3 (t197.extract (t198:Int).toNat ((wrap64 (t198+x5_3)):Int).toNat) t200 t201 t202 t203 _ A18.out).mono ?_);rintro e w25 ⟨rfl,hb⟩;have n0_:=Aside0.mk (IsS63.below (is63_ HI0) hb);have n1_:=Aside0.mk (KeepBut.trans (kp_ HK) (KeepBut.of_below hb g none) (.inl rfl));have n2_:=Aside0.mk (below_step (bs63_ HB HI0) hb);clear HI0;clear HK;clear HB;revert n0_ n1_ n2_;intro HI0 HK HB;(try clear hb);(try clear hi))|((with_reducible refine gate_dst (N:=7) rfl ?_);refine be_ 7 #[.string (⟨#[]⟩:ByteArray),.string (⟨#[]⟩:ByteArray),.int .i64 0] 41 ?_;intro gb204 hg w26 hbox hb;have n0_:=Aside0.mk (IsS63.below (is63_ HI0) hb);have n1_:=Aside0.mk (KeepBut.trans (kp_ HK) (KeepBut.of_below hb g none) (.inl rfl));have n2_:=Aside0.mk (below_step (bs63_ HB HI0) hb);have n3_:=Aside0.mk (hbox);have n4_:=Aside0.mk ((by rw[hg];exact(keep_size (w:=w) (g:=g) (row:=none) (kp_ HK)):w.heap.size≤gb204));have n5_:=Aside0.mk ((Nat.le_trans HW0.out (by rw[hg];exact(keep_size (w:=w) (g:=g) (row:=none) (kp_ HK)):w.heap.size≤gb204):w0.heap.size≤gb204));have n6_:=Aside0.mk ((by rw[hg];exact Nat.ne_of_lt (IsS63.lt (show IsS63 w0 _ g t197 t198 from is63_ HI0)):g≠gb204));have n7_:=Aside0.mk ((by rw[hg];exact Nat.ne_of_gt (IsS63.lt (show IsS63 w0 _ g t197 t198 from is63_ HI0)):gb204≠g));clear HI0;clear HK;clear HB;revert n0_ n1_ n2_ n3_ n4_ n5_ n6_ n7_;intro HI0 HK HB BK204 GW204 GE204 NB0_204 NB204_0;clear hb hbox hg;have hnb27:=NB204_0.out;have hnc27:=NB0_204.out;obtain⟨hcz28_0,hcz28_1,hcz28_2,hfz28_0,hfz28_1,hfz28_2⟩:=bo3_ BK204)|(go_at_call 13;(with_reducible refine(operand_Ops_V.calls _ _ _ _ _ A21.out).mono ?_);rintro e w29 ⟨rfl,hb⟩;have n0_:=Aside0.mk (IsS63.below (show IsS63 w0 (((w26.setCell ⟨gb204,0,none⟩ (.string t200)).setCell ⟨gb204,1,none⟩ (.string t201)).setCell ⟨gb204,2,none⟩ (.int .i64 t202)) g t197 t198 from is63_ HI0) hb);have n1_:=Aside0.mk (blk_below (g:=gb204) (o:= .cells #[.string t200,.string t201,.int .i64 t202] 41 (0,0)) ((bp_ BK204).out) hb);have n2_:=Aside0.mk (KeepBut.trans (kp_ HK) (KeepBut.of_below hb g none) (.inl rfl));have n3_:=Aside0.mk (below_step (bs63_ HB HI0) hb);clear HI0;clear BK204;clear HK;clear HB;revert n0_ n1_ n2_ n3_;intro HI0 BK204 HK HB;(try clear hb);obtain⟨hcz30_0,hcz30_1,hfz30_0,hfz30_1⟩:=cs63_ HI0)|(go_at_call 27;(with_reducible refine(sample_fail_g.calls _ _ _ _ _ A23.out).mono ?_);rintro e w' ⟨rfl,hb⟩;exact And.intro rfl (And.intro rfl (below_step (bs63_ HB HI0) hb)))))
 rw[if_neg c19] at H
 have c19b0:(t203==0)=false:=beq_eq_false_iff_ne.mpr c19
 have c19b1:(t203 !=0)=true:=bne_iff_ne.mpr c19
 replace H:=Option.bind_eq_some_iff.mp H
 obtain⟨⟨t205,t206⟩,A310,H⟩:=H
 dsimp only at H
 have A31:=Aside0.mk A310
 clear A310
 simp only[Option.some.injEq,Prod.mk.injEq] at H
 obtain⟨rfl,rfl⟩:=H
 obtain⟨hcz32_0,hcz32_1,hfz32_0,hfz32_1⟩:=cs63_ HI0
 go_wp2_with (first|(go_at_call 12;(with_reducible refine(operand_Read.calls kj3 (t197.extract (t198:Int).toNat ((wrap64 (t198+x5_3)):Int).toNat) t200 t201 t202 t203 _ A18.out).mono ?_);rintro e w33 ⟨rfl,hb⟩;have n0_:=Aside0.mk (IsS63.below (is63_ HI0) hb);have n1_:=Aside0.mk (KeepBut.trans (kp_ HK) (KeepBut.of_below hb g none) (.inl rfl));have n2_:=Aside0.mk (below_step (bs63_ HB HI0) hb);clear HI0;clear HK;clear HB;revert n0_ n1_ n2_;intro HI0 HK HB;(try clear hb);(try clear hi))|((with_reducible refine gate_dst (N:=7) rfl ?_);refine be_ 7 #[.string (⟨#[]⟩:ByteArray),.string (⟨#[]⟩:ByteArray),.int .i64 0] 41 ?_;intro gb204 hg w34 hbox hb;have n0_:=Aside0.mk (IsS63.below (is63_ HI0) hb);have n1_:=Aside0.mk (KeepBut.trans (kp_ HK) (KeepBut.of_below hb g none) (.inl rfl));have n2_:=Aside0.mk (below_step (bs63_ HB HI0) hb);have n3_:=Aside0.mk (hbox);have n4_:=Aside0.mk ((by rw[hg];exact(keep_size (w:=w) (g:=g) (row:=none) (kp_ HK)):w.heap.size≤gb204));have n5_:=Aside0.mk ((Nat.le_trans HW0.out (by rw[hg];exact(keep_size (w:=w) (g:=g) (row:=none) (kp_ HK)):w.heap.size≤gb204):w0.heap.size≤gb204));have n6_:=Aside0.mk ((by rw[hg];exact Nat.ne_of_lt (IsS63.lt (show IsS63 w0 _ g t197 t198 from is63_ HI0)):g≠gb204));have n7_:=Aside0.mk ((by rw[hg];exact Nat.ne_of_gt (IsS63.lt (show IsS63 w0 _ g t197 t198 from is63_ HI0)):gb204≠g));clear HI0;clear HK;clear HB;revert n0_ n1_ n2_ n3_ n4_ n5_ n6_ n7_;intro HI0 HK HB BK204 GW204 GE204 NB0_204 NB204_0;clear hb hbox hg;have hnb35:=NB204_0.out;have hnc35:=NB0_204.out;obtain⟨hcz36_0,hcz36_1,hcz36_2,hfz36_0,hfz36_1,hfz36_2⟩:=bo3_ BK204;obtain⟨hcz37_0,hcz37_1,hfz37_0,hfz37_1⟩:=cs63_ HI0)|(go_at_call 27;(with_reducible refine(sample_fail_g.calls _ _ _ _ _ A31.out).mono ?_);rintro e w' ⟨rfl,hb⟩;exact And.intro rfl (And.intro rfl (below_step (bs63_ HB HI0) hb))))
 repeat(go_quiet (first|(go_at_call 12;(with_reducible refine(operand_Read.calls kj3 (t197.extract (t198:Int).toNat ((wrap64 (t198+x5_3)):Int).toNat) t200 t201 t202 t203 _ A18.out).mono ?_);rintro e w33 ⟨rfl,hb⟩;have n0_:=Aside0.mk (IsS63.below (is63_ HI0) hb);have n1_:=Aside0.mk (KeepBut.trans (kp_ HK) (KeepBut.of_below hb g none) (.inl rfl));have n2_:=Aside0.mk (below_step (bs63_ HB HI0) hb);clear HI0;clear HK;clear HB;revert n0_ n1_ n2_;intro HI0 HK HB;(try clear hb);(try clear hi))|((with_reducible refine gate_dst (N:=7) rfl ?_);refine be_ 7 #[.string (⟨#[]⟩:ByteArray),.string (⟨#[]⟩:ByteArray),.int .i64 0] 41 ?_;intro gb204 hg w34 hbox hb;have n0_:=Aside0.mk (IsS63.below (is63_ HI0) hb);have n1_:=Aside0.mk (KeepBut.trans (kp_ HK) (KeepBut.of_below hb g none) (.inl rfl));have n2_:=Aside0.mk (below_step (bs63_ HB HI0) hb);have n3_:=Aside0.mk (hbox);have n4_:=Aside0.mk ((by rw[hg];exact(keep_size (w:=w) (g:=g) (row:=none) (kp_ HK)):w.heap.size≤gb204));have n5_:=Aside0.mk ((Nat.le_trans HW0.out (by rw[hg];exact(keep_size (w:=w) (g:=g) (row:=none) (kp_ HK)):w.heap.size≤gb204):w0.heap.size≤gb204));have n6_:=Aside0.mk ((by rw[hg];exact Nat.ne_of_lt (IsS63.lt (show IsS63 w0 _ g t197 t198 from is63_ HI0)):g≠gb204));have n7_:=Aside0.mk ((by rw[hg];exact Nat.ne_of_gt (IsS63.lt (show IsS63 w0 _ g t197 t198 from is63_ HI0)):gb204≠g));clear HI0;clear HK;clear HB;revert n0_ n1_ n2_ n3_ n4_ n5_ n6_ n7_;intro HI0 HK HB BK204 GW204 GE204 NB0_204 NB204_0;clear hb hbox hg;have hnb35:=NB204_0.out;have hnc35:=NB0_204.out;obtain⟨hcz36_0,hcz36_1,hcz36_2,hfz36_0,hfz36_1,hfz36_2⟩:=bo3_ BK204;obtain⟨hcz37_0,hcz37_1,hfz37_0,hfz37_1⟩:=cs63_ HI0)|(go_at_call 27;(with_reducible refine(sample_fail_g.calls _ _ _ _ _ A31.out).mono ?_);rintro e w' ⟨rfl,hb⟩;exact And.intro rfl (And.intro rfl (below_step (bs63_ HB HI0) hb))));try go_wp2_with (first|(go_at_call 12;(with_reducible refine(operand_Read.calls kj3 (t197.extract (t198:Int).toNat ((wrap64 (t198+x5_3)):Int).toNat) t200 t201 t202 t203 _ A18.out).mono ?_);rintro e w33 ⟨rfl,hb⟩;have n0_:=Aside0.mk (IsS63.below (is63_ HI0) hb);have n1_:=Aside0.mk (KeepBut.trans (kp_ HK) (KeepBut.of_below hb g none) (.inl rfl));have n2_:=Aside0.mk (below_step (bs63_ HB HI0) hb);clear HI0;clear HK;clear HB;revert n0_ n1_ n2_;intro HI0 HK HB;(try clear hb);(try clear hi))|((with_reducible refine gate_dst (N:=7) rfl ?_);refine be_ 7 #[.string (⟨#[]⟩:ByteArray),.string (⟨#[]⟩:ByteArray),.int .i64 0] 41 ?_;intro gb204 hg w34 hbox hb;have n0_:=Aside0.mk (IsS63.below (is63_ HI0) hb);have n1_:=Aside0.mk (KeepBut.trans (kp_ HK) (KeepBut.of_below hb g none) (.inl rfl));have n2_:=Aside0.mk (below_step (bs63_ HB HI0) hb);have n3_:=Aside0.mk (hbox);have n4_:=Aside0.mk ((by rw[hg];exact(keep_size (w:=w) (g:=g) (row:=none) (kp_ HK)):w.heap.size≤gb204));have n5_:=Aside0.mk ((Nat.le_trans HW0.out (by rw[hg];exact(keep_size (w:=w) (g:=g) (row:=none) (kp_ HK)):w.heap.size≤gb204):w0.heap.size≤gb204));have n6_:=Aside0.mk ((by rw[hg];exact Nat.ne_of_lt (IsS63.lt (show IsS63 w0 _ g t197 t198 from is63_ HI0)):g≠gb204));have n7_:=Aside0.mk ((by rw[hg];exact Nat.ne_of_gt (IsS63.lt (show IsS63 w0 _ g t197 t198 from is63_ HI0)):gb204≠g));clear HI0;clear HK;clear HB;revert n0_ n1_ n2_ n3_ n4_ n5_ n6_ n7_;intro HI0 HK HB BK204 GW204 GE204 NB0_204 NB204_0;clear hb hbox hg;have hnb35:=NB204_0.out;have hnc35:=NB0_204.out;obtain⟨hcz36_0,hcz36_1,hcz36_2,hfz36_0,hfz36_1,hfz36_2⟩:=bo3_ BK204;obtain⟨hcz37_0,hcz37_1,hfz37_0,hfz37_1⟩:=cs63_ HI0)|(go_at_call 27;(with_reducible refine(sample_fail_g.calls _ _ _ _ _ A31.out).mono ?_);rintro e w' ⟨rfl,hb⟩;exact And.intro rfl (And.intro rfl (below_step (bs63_ HB HI0) hb)))))

/-! ### sample_reader_item: function 28 -/
def sample_reader_item.f (k:Nat) (s0_0:ByteArray) (s0_1:Int) (a1:Bool):Option (ByteArray × ByteArray × ByteArray × Int):=(sample_reader_value.f k s0_0 s0_1 a1).bind fun bt211=>((sample_reader_take.f k bt211.2.1 bt211.2.2 (⟨#[126]⟩:ByteArray)).bind fun bt214=>(if bt214.1=true then ((sample_reader_blanks.f k bt214.2.1 bt214.2.2).bind fun bt217=>((sample_reader_value.f k bt217.1 bt217.2 a1).bind fun bt219=>((sample_steps.f k bt211.1 bt219.1).bind fun bt222=>(if bt222.2=true then (if bt222.1≥1000 then (none) else (some (bt211.1,bt219.1,bt219.2.1,bt219.2.2))) else (none))))) else (some (bt211.1,(⟨#[]⟩:ByteArray),bt214.2.1,bt214.2.2))))
set_option maxHeartbeats 64000000 in
set_option maxRecDepth 100000 in
theorem sample_reader_item.calls (k:Nat) (g:Nat) (s0_0:ByteArray) (s0_1:Int) (a1:Bool) (r1:ByteArray) (r2:ByteArray) (r3:ByteArray) (r4:Int) (w0 w:World) (hI:IsS63 w0 w g s0_0 s0_1) (hB:Below w0.heap.size w0 w) (h:sample_reader_item.f k s0_0 s0_1 a1=some (r1,r2,r3,r4)) :
  Calls Tryd.prog 28 #[.pointer (some ⟨g,0,none⟩),.bool a1] w fun e w'=>e= .returned (.agg #[.string r1,.string r2])∧IsS63 w0 w' g r3 r4∧Below w0.heap.size w0 w'∧KeepBut w w' g none:=by
 have hu37:=Tryd.underlying37
 have HI0:=Aside0.mk hI
 have HK:=Aside0.mk (KeepBut.refl w g none)
 have HL:=Aside0.mk hB.size
 clear hI
 have HW0:=Aside0.mk hB.size
 have HB:=Aside0.mk hB
 clear hB
 have H:=h
 clear h
 unfold sample_reader_item.f at H
 replace H:=Option.bind_eq_some_iff.mp H
 obtain⟨⟨t211,t212,t213⟩,A30,H⟩:=H
 dsimp only at H
 have A3:=Aside0.mk A30
 clear A30
 replace H:=Option.bind_eq_some_iff.mp H
 obtain⟨⟨t214,t215,t216⟩,A40,H⟩:=H
 dsimp only at H
 have A4:=Aside0.mk A40
 clear A40
 by_cases c5:t214=true
 ·subst c5
  rw[if_pos rfl] at H
  replace H:=Option.bind_eq_some_iff.mp H
  obtain⟨⟨t217,t218⟩,A60,H⟩:=H
  dsimp only at H
  have A6:=Aside0.mk A60
  clear A60
  replace H:=Option.bind_eq_some_iff.mp H
  obtain⟨⟨t219,t220,t221⟩,A70,H⟩:=H
  dsimp only at H
  have A7:=Aside0.mk A70
  clear A70
  replace H:=Option.bind_eq_some_iff.mp H
  obtain⟨⟨t222,t223⟩,A80,H⟩:=H
  dsimp only at H
  have A8:=Aside0.mk A80
  clear A80
  by_cases c9:t223=true
  ·subst c9
   rw[if_pos rfl] at H
   replace H:=ifp_ H
   obtain⟨c10,H⟩:=H
   have c10b0:decide (1000≤t222)=false:=decide_eq_false c10
   clear c10
   simp only[Option.some.injEq,Prod.mk.injEq] at H
   obtain⟨rfl,rfl,rfl,rfl⟩:=H
   go_enter Tryd.func28,Tryd.ntmps28
   go_wp2_with (first|((with_reducible refine gate_dst (N:=4) rfl ?_);refine be_ 4 #[.string (⟨#[]⟩:ByteArray),.string (⟨#[]⟩:ByteArray)] 37 ?_;intro gb210 hg w11 hbox hb;have n0_:=Aside0.mk (IsS63.below (is63_ HI0) hb);have n1_:=Aside0.mk (KeepBut.trans (kp_ HK) (KeepBut.of_below hb g none) (.inl rfl));have n2_:=Aside0.mk (below_step (bs63_ HB HI0) hb);have n3_:=Aside0.mk (hbox);have n4_:=Aside0.mk ((by rw[hg];exact(keep_size (w:=w) (g:=g) (row:=none) (kp_ HK)):w.heap.size≤gb210));have n5_:=Aside0.mk ((Nat.le_trans HW0.out (by rw[hg];exact(keep_size (w:=w) (g:=g) (row:=none) (kp_ HK)):w.heap.size≤gb210):w0.heap.size≤gb210));have n6_:=Aside0.mk ((by rw[hg];exact Nat.ne_of_lt (IsS63.lt (show IsS63 w0 _ g s0_0 s0_1 from is63_ HI0)):g≠gb210));have n7_:=Aside0.mk ((by rw[hg];exact Nat.ne_of_gt (IsS63.lt (show IsS63 w0 _ g s0_0 s0_1 from is63_ HI0)):gb210≠g));clear HI0;clear HK;clear HB;revert n0_ n1_ n2_ n3_ n4_ n5_ n6_ n7_;intro HI0 HK HB BK210 GW210 GE210 NB0_210 NB210_0;clear hb hbox hg)|((with_reducible refine gate_callee (f:=40) rfl ?_);refine gl_ (some 12) Tryd.func40 #[.pointer (some ⟨g,0,none⟩),.bool a1] ?_;(with_reducible refine(sample_reader_value.calls _ _ _ _ _ _ _ _ w0 _ ?side1 ?side2 A3.out).mono ?_);(case side1=>exact is63_ HI0);(case side2=>exact bs63_ HB HI0);rintro e w12 ⟨rfl,hi,hb,hk⟩;refine⟨_,rfl,?_⟩;have n0_:=Aside0.mk (KeepBut.blk hk (bk_ BK210).out NB210_0.out (by simp));have n1_:=Aside0.mk (KeepBut.trans (kp_ HK) hk (.inl rfl));have n2_:=Aside0.mk (hb);have n3_:=Aside0.mk (hi);clear BK210;clear HK;clear HB;clear HI0;revert n0_ n1_ n2_ n3_;intro BK210 HK HB HI0;(try clear hb);(try clear hk);(try clear hi))|((with_reducible refine gate_callee (f:=26) rfl ?_);refine gl_ (some 14) Tryd.func26 #[.pointer (some ⟨g,0,none⟩),.string (⟨#[126]⟩:ByteArray)] ?_;(with_reducible refine(sample_reader_take.calls _ _ _ _ _ _ _ _ w0 _ ?side1 ?side2 A4.out).mono ?_);(case side1=>exact is63_ HI0);(case side2=>exact bs63_ HB HI0);rintro e w13 ⟨rfl,hi,hb,hk⟩;refine⟨_,rfl,?_⟩;have n0_:=Aside0.mk (KeepBut.blk hk (bk_ BK210).out NB210_0.out (by simp));have n1_:=Aside0.mk (KeepBut.trans (kp_ HK) hk (.inl rfl));have n2_:=Aside0.mk (hb);have n3_:=Aside0.mk (hi);clear BK210;clear HK;clear HB;clear HI0;revert n0_ n1_ n2_ n3_;intro BK210 HK HB HI0;(try clear hb);(try clear hk);(try clear hi))|((with_reducible refine gate_callee (f:=17) rfl ?_);refine gl_ (some 19) Tryd.func17 #[.pointer (some ⟨g,0,none⟩)] ?_;(with_reducible refine(sample_reader_blanks.calls _ _ _ _ _ _ w0 _ ?side1 ?side2 A6.out).mono ?_);(case side1=>exact is63_ HI0);(case side2=>exact bs63_ HB HI0);rintro e w14 ⟨rfl,hi,hb,hk⟩;refine⟨_,rfl,?_⟩;have n0_:=Aside0.mk (KeepBut.blk hk (bk_ BK210).out NB210_0.out (by simp));have n1_:=Aside0.mk (KeepBut.trans (kp_ HK) hk (.inl rfl));have n2_:=Aside0.mk (hb);have n3_:=Aside0.mk (hi);clear BK210;clear HK;clear HB;clear HI0;revert n0_ n1_ n2_ n3_;intro BK210 HK HB HI0;(try clear hb);(try clear hk);(try clear hi);obtain⟨hcz15_0,hcz15_1,hfz15_0,hfz15_1⟩:=cs63_ HI0)|((with_reducible refine gate_callee (f:=40) rfl ?_);refine gl_ (some 26) Tryd.func40 #[.pointer (some ⟨g,0,none⟩),.bool a1] ?_;(with_reducible refine(sample_reader_value.calls _ _ _ _ _ _ _ _ w0 _ ?side1 ?side2 A7.out).mono ?_);(case side1=>exact is63_ HI0);(case side2=>exact bs63_ HB HI0);rintro e w16 ⟨rfl,hi,hb,hk⟩;refine⟨_,rfl,?_⟩;have n0_:=Aside0.mk (KeepBut.blk hk (bk_ BK210).out NB210_0.out (by simp));have n1_:=Aside0.mk (KeepBut.trans (kp_ HK) hk (.inl rfl));have n2_:=Aside0.mk (hb);have n3_:=Aside0.mk (hi);clear BK210;clear HK;clear HB;clear HI0;revert n0_ n1_ n2_ n3_;intro BK210 HK HB HI0;(try clear hb);(try clear hk);(try clear hi))|((with_reducible refine gate_callee (f:=30) rfl ?_);refine gl_ (some 30) Tryd.func30 #[.string t211,.string t219] ?_;(with_reducible refine(sample_steps.calls _ _ _ _ _ _ A8.out).mono ?_);rintro e w17 ⟨rfl,hb⟩;refine⟨_,rfl,?_⟩;have n0_:=Aside0.mk (IsS63.below (is63_ HI0) hb);have n1_:=bb_ BK210 hb;have n2_:=Aside0.mk (KeepBut.trans (kp_ HK) (KeepBut.of_below hb g none) (.inl rfl));have n3_:=Aside0.mk (below_step (bs63_ HB HI0) hb);clear HI0;clear BK210;clear HK;clear HB;revert n0_ n1_ n2_ n3_;intro HI0 BK210 HK HB;(try clear hb);have hnb18:=NB210_0.out;have hnc18:=NB0_210.out;obtain⟨hcz19_0,hcz19_1,hfz19_0,hfz19_1⟩:=bo2_ BK210))
   refine bodyPost_ret (results_cell_row rfl _ _ gb210 37 #[.string t211,.string t219] (0,0) _ rfl ((bp_ BK210).out) Tryd.underlying37 rfl (by kernel_rfl)) rfl ?_
   exact⟨ew_,is63_ HI0,bs63_ HB HI0,kp_ HK⟩
  replace c9:=Bool.eq_false_iff.mpr c9
  subst c9
  rw[if_neg (show ¬(false=true) by decide)] at H
  exact absurd H (by simp)
 replace c5:=Bool.eq_false_iff.mpr c5
 subst c5
 rw[if_neg (show ¬(false=true) by decide)] at H
 simp only[Option.some.injEq,Prod.mk.injEq] at H
 obtain⟨rfl,rfl,rfl,rfl⟩:=H
 go_enter Tryd.func28,Tryd.ntmps28
 go_wp2_with (first|((with_reducible refine gate_dst (N:=4) rfl ?_);refine be_ 4 #[.string (⟨#[]⟩:ByteArray),.string (⟨#[]⟩:ByteArray)] 37 ?_;intro gb210 hg w20 hbox hb;have n0_:=Aside0.mk (IsS63.below (is63_ HI0) hb);have n1_:=Aside0.mk (KeepBut.trans (kp_ HK) (KeepBut.of_below hb g none) (.inl rfl));have n2_:=Aside0.mk (below_step (bs63_ HB HI0) hb);have n3_:=Aside0.mk (hbox);have n4_:=Aside0.mk ((by rw[hg];exact(keep_size (w:=w) (g:=g) (row:=none) (kp_ HK)):w.heap.size≤gb210));have n5_:=Aside0.mk ((Nat.le_trans HW0.out (by rw[hg];exact(keep_size (w:=w) (g:=g) (row:=none) (kp_ HK)):w.heap.size≤gb210):w0.heap.size≤gb210));have n6_:=Aside0.mk ((by rw[hg];exact Nat.ne_of_lt (IsS63.lt (show IsS63 w0 _ g s0_0 s0_1 from is63_ HI0)):g≠gb210));have n7_:=Aside0.mk ((by rw[hg];exact Nat.ne_of_gt (IsS63.lt (show IsS63 w0 _ g s0_0 s0_1 from is63_ HI0)):gb210≠g));clear HI0;clear HK;clear HB;revert n0_ n1_ n2_ n3_ n4_ n5_ n6_ n7_;intro HI0 HK HB BK210 GW210 GE210 NB0_210 NB210_0;clear hb hbox hg)|((with_reducible refine gate_callee (f:=40) rfl ?_);refine gl_ (some 12) Tryd.func40 #[.pointer (some ⟨g,0,none⟩),.bool a1] ?_;(with_reducible refine(sample_reader_value.calls _ _ _ _ _ _ _ _ w0 _ ?side1 ?side2 A3.out).mono ?_);(case side1=>exact is63_ HI0);(case side2=>exact bs63_ HB HI0);rintro e w21 ⟨rfl,hi,hb,hk⟩;refine⟨_,rfl,?_⟩;have n0_:=Aside0.mk (KeepBut.blk hk (bk_ BK210).out NB210_0.out (by simp));have n1_:=Aside0.mk (KeepBut.trans (kp_ HK) hk (.inl rfl));have n2_:=Aside0.mk (hb);have n3_:=Aside0.mk (hi);clear BK210;clear HK;clear HB;clear HI0;revert n0_ n1_ n2_ n3_;intro BK210 HK HB HI0;(try clear hb);(try clear hk);(try clear hi))|((with_reducible refine gate_callee (f:=26) rfl ?_);refine gl_ (some 14) Tryd.func26 #[.pointer (some ⟨g,0,none⟩),.string (⟨#[126]⟩:ByteArray)] ?_;(with_reducible refine(sample_reader_take.calls _ _ _ _ _ _ _ _ w0 _ ?side1 ?side2 A4.out).mono ?_);(case side1=>exact is63_ HI0);(case side2=>exact bs63_ HB HI0);rintro e w22 ⟨rfl,hi,hb,hk⟩;refine⟨_,rfl,?_⟩;have n0_:=Aside0.mk (KeepBut.blk hk (bk_ BK210).out NB210_0.out (by simp));have n1_:=Aside0.mk (KeepBut.trans (kp_ HK) hk (.inl rfl));have n2_:=Aside0.mk (hb);have n3_:=Aside0.mk (hi);clear BK210;clear HK;clear HB;clear HI0;revert n0_ n1_ n2_ n3_;intro BK210 HK HB HI0;(try clear hb);(try clear hk);(try clear hi);have hnb23:=NB210_0.out;have hnc23:=NB0_210.out;obtain⟨hcz24_0,hcz24_1,hfz24_0,hfz24_1⟩:=bo2_ BK210))
 refine bodyPost_ret (results_cell_row rfl _ _ gb210 37 #[.string t211,.string (⟨#[]⟩:ByteArray)] (0,0) _ rfl ((bp_ BK210).out) Tryd.underlying37 rfl (by kernel_rfl)) rfl ?_
 exact⟨ew_,is63_ HI0,bs63_ HB HI0,kp_ HK⟩

end Go.Proofs.YtbhhfpjiacfofaaDoor.P
