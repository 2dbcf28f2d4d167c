import Derived.Test.YthkpmiajcmihjaaDoorWInv
import Derived.Test.YthkpmiajcmihjaaDoorWFootNe
namespace Go.Proofs.YthkpmiajcmihjaaDoorW.PrintWords
open Go.RowKit
end Go.Proofs.YthkpmiajcmihjaaDoorW.PrintWords
namespace Go.Proofs.YthkpmiajcmihjaaDoorW.PrintLast
section
variable {ops : Array Oper} {a : Act} {o og : Oper} {g : Nat} {t : Tmp} {u : Bool}
end
end Go.Proofs.YthkpmiajcmihjaaDoorW.PrintLast
