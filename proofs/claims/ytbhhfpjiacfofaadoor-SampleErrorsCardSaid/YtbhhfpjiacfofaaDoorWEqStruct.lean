import Derived.Test.YtbhhfpjiacfofaaDoorWWords
import Derived.Laws.StructEq
namespace Go.Proofs.YtbhhfpjiacfofaaDoorW.PrintWords
open Go.RowKit
section
variable {P:Program} {d:Nat} {xs ys:Array Value} {f:Field} {fs:List Field} {a b:Value} {r s:Bool} {w:World}
end
end Go.Proofs.YtbhhfpjiacfofaaDoorW.PrintWords
