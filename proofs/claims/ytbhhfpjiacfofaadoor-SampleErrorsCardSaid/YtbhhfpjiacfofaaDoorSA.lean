import Derived.Test.YtbhhfpjiacfofaaDoorMA
import Derived.Test.YtbhhfpjiacfofaaDoorPx0
import Derived.Laws.BitsLemmas
namespace Go.Proofs.YtbhhfpjiacfofaaDoor.P
open Go.RowKit Go.Proofs.YtbhhfpjiacfofaaDoorW.PrintWords Go.Proofs.YtbhhfpjiacfofaaDoorW.PrintLast Go.Proofs.YtbhhfpjiacfofaaDoorW.PrintMore Go.Proofs.YtbhhfpjiacfofaaDoor.FM
set_option linter.unusedVariables false
set_option linter.unusedSimpArgs false

/-! strings as lists of bytes -/
def S (l:List UInt8):ByteArray:=⟨l.toArray⟩
theorem S_of (s:ByteArray):s=S s.data.toList:=rfl
theorem S_size (l:List UInt8):(S l).size=l.length:=rfl
theorem S_append (a b:List UInt8):S a++S b=S (a++b):=by
  have h:(S a++S b).data.toList=a++b:=by simp[S]
  rw[S_of (S a++S b),h]
theorem w64 {x:Int} (h1: -9223372036854775808≤x) (h2:x≤9223372036854775807):wrap64 x=x:=by unfold wrap64;omega
theorem Ev.if_pos {α:Type} {c:Prop} [Decidable c] {a b:Nat→Option α} {r:α} (h:c) (k:Ev a r):Ev (fun n=>if c then a n else b n) r:=by
  simpa only[_root_.if_pos h] using k
theorem Ev.if_neg {α:Type} {c:Prop} [Decidable c] {a b:Nat→Option α} {r:α} (h:¬c) (k:Ev b r):Ev (fun n=>if c then a n else b n) r:=by
  simpa only[_root_.if_neg h] using k
end Go.Proofs.YtbhhfpjiacfofaaDoor.P
namespace Go.Proofs.YtbhhfpjiacfofaaDoor.P
open Go.RowKit Go.Proofs.YtbhhfpjiacfofaaDoorW.PrintWords Go.Proofs.YtbhhfpjiacfofaaDoorW.PrintLast Go.Proofs.YtbhhfpjiacfofaaDoorW.PrintMore Go.Proofs.YtbhhfpjiacfofaaDoor.FM
set_option linter.unusedVariables false
set_option linter.unusedSimpArgs false

/-! the sum -/
end Go.Proofs.YtbhhfpjiacfofaaDoor.P
namespace Go.Proofs.YtbhhfpjiacfofaaDoor.P
open Go.RowKit Go.Proofs.YtbhhfpjiacfofaaDoorW.PrintWords Go.Proofs.YtbhhfpjiacfofaaDoorW.PrintLast Go.Proofs.YtbhhfpjiacfofaaDoorW.PrintMore Go.Proofs.YtbhhfpjiacfofaaDoor.FM
set_option linter.unusedVariables false
set_option linter.unusedSimpArgs false

/-! an int's digits -/
end Go.Proofs.YtbhhfpjiacfofaaDoor.P
namespace Go.Proofs.YtbhhfpjiacfofaaDoor.P
open Go.RowKit Go.Proofs.YtbhhfpjiacfofaaDoorW.PrintWords Go.Proofs.YtbhhfpjiacfofaaDoorW.PrintLast Go.Proofs.YtbhhfpjiacfofaaDoorW.PrintMore Go.Proofs.YtbhhfpjiacfofaaDoor.FM
set_option linter.unusedVariables false
set_option linter.unusedSimpArgs false

/-! the order -/
/-! what is left -/
/-! a number as an int -/
/-! noughts -/
end Go.Proofs.YtbhhfpjiacfofaaDoor.P
namespace Go.Proofs.YtbhhfpjiacfofaaDoor.P
open Go.RowKit Go.Proofs.YtbhhfpjiacfofaaDoorW.PrintWords Go.Proofs.YtbhhfpjiacfofaaDoorW.PrintLast Go.Proofs.YtbhhfpjiacfofaaDoorW.PrintMore Go.Proofs.YtbhhfpjiacfofaaDoor.FM
set_option linter.unusedVariables false
set_option linter.unusedSimpArgs false

end Go.Proofs.YtbhhfpjiacfofaaDoor.P
namespace Go.Proofs.YtbhhfpjiacfofaaDoor.P
open Go.RowKit Go.Proofs.YtbhhfpjiacfofaaDoorW.PrintWords Go.Proofs.YtbhhfpjiacfofaaDoorW.PrintLast Go.Proofs.YtbhhfpjiacfofaaDoorW.PrintMore Go.Proofs.YtbhhfpjiacfofaaDoor.FM
set_option linter.unusedVariables false
set_option linter.unusedSimpArgs false

/-- the last bits of an int -/
theorem and64 (j:Nat) (hj:j≤63) (n m:Int) (hm:(BitVec.ofInt 64 m).toNat=2 ^ j-1):Go.bits .and .i64 n m=n%((2 ^ j:Nat):Int):=by
  have key:(BitVec.ofInt 64 n &&& BitVec.ofInt 64 m).toNat=(n%((2 ^ 64:Nat):Int)).toNat%2 ^ j:=by
    rw[BitVec.toNat_and,BitVec.toNat_ofInt,hm,Nat.and_two_pow_sub_one_eq_mod]
  show IntKind.i64.wrap ((BitVec.ofInt 64 n &&& BitVec.ofInt 64 m).toNat:Nat)=_
  rw[key,IntKind.wrap_i64]
  have h1:(n%((2 ^ 64:Nat):Int)).toNat%2 ^ j<2 ^ 63:=Nat.lt_of_lt_of_le (Nat.mod_lt _ (Nat.pow_pos (by omega))) (Nat.pow_le_pow_right (by omega) hj)
  have h2:(((n%((2 ^ 64:Nat):Int)).toNat%2 ^ j:Nat):Int)=n%((2 ^ j:Nat):Int):=by
    rw[Int.natCast_emod,Int.toNat_of_nonneg (Int.emod_nonneg _ (by decide))]
    exact Int.emod_emod_of_dvd n (Int.natCast_dvd_natCast.2 (Nat.pow_dvd_pow 2 (by omega)))
  rw[← h2]
  have h3:(2:Nat) ^ 63=9223372036854775808:=by decide
  rw[h3] at h1
  clear h2 key hm
  omega
theorem Ev.yes {b:Bool} (h:b=true):Ev (fun _=>some b) true:=by rw[h];exact Ev.now true
/-- the last bits, as a number -/
theorem low64 (j:Nat) (hj:j≤63) (n m:Int) (hm:(BitVec.ofInt 64 m).toNat=2 ^ j-1):∃x:Nat,Go.bits .and .i64 n m=x∧x<2 ^ j:=by
  rw[and64 j hj n m hm]
  have h1:=Int.emod_nonneg n (b:=((2 ^ j:Nat):Int)) (by have:=Nat.pow_pos (a:=2) (n:=j) (by omega);omega)
  have h2:=Int.emod_lt_of_pos n (b:=((2 ^ j:Nat):Int)) (by have:=Nat.pow_pos (a:=2) (n:=j) (by omega);omega)
  exact⟨(n%((2 ^ j:Nat):Int)).toNat,by omega,by omega⟩
end Go.Proofs.YtbhhfpjiacfofaaDoor.P
