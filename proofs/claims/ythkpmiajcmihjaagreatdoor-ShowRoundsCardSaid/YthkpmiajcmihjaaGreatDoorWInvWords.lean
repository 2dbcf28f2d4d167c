import Derived.Test.YthkpmiajcmihjaaGreatDoorWInv
import Derived.Test.YthkpmiajcmihjaaGreatDoorWFootNe
namespace Go.Proofs.YthkpmiajcmihjaaGreatDoorW.PrintWords
open Go.RowKit
end Go.Proofs.YthkpmiajcmihjaaGreatDoorW.PrintWords
namespace Go.Proofs.YthkpmiajcmihjaaGreatDoorW.PrintLast
section
variable {ops : Array Oper} {a : Act} {o og : Oper} {g : Nat} {t : Tmp} {u : Bool}
end
end Go.Proofs.YthkpmiajcmihjaaGreatDoorW.PrintLast
