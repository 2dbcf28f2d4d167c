import Derived.Test.YtbhhfpjiacfofaaDoorWInv
import Derived.Test.YtbhhfpjiacfofaaDoorWFootNe
namespace Go.Proofs.YtbhhfpjiacfofaaDoorW.PrintWords
open Go.RowKit
end Go.Proofs.YtbhhfpjiacfofaaDoorW.PrintWords
namespace Go.Proofs.YtbhhfpjiacfofaaDoorW.PrintLast
section
variable {ops:Array Oper} {a:Act} {o og:Oper} {g:Nat} {t:Tmp} {u:Bool}
end
end Go.Proofs.YtbhhfpjiacfofaaDoorW.PrintLast
