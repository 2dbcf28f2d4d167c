import Derived.Test.YtlkiaeipbekpkaaDoorWInv
import Derived.Test.YtlkiaeipbekpkaaDoorWFootNe
namespace Go.Proofs.YtlkiaeipbekpkaaDoorW.PrintWords
open Go.RowKit
end Go.Proofs.YtlkiaeipbekpkaaDoorW.PrintWords
namespace Go.Proofs.YtlkiaeipbekpkaaDoorW.PrintLast
section
variable {ops : Array Oper} {a : Act} {o og : Oper} {g : Nat} {t : Tmp} {u : Bool}
end
end Go.Proofs.YtlkiaeipbekpkaaDoorW.PrintLast
