import Derived.Test.YtoegmienlhgjnaaDoorWInv
import Derived.Test.YtoegmienlhgjnaaDoorWFootNe
namespace Go.Proofs.YtoegmienlhgjnaaDoorW.PrintWords
open Go.RowKit
end Go.Proofs.YtoegmienlhgjnaaDoorW.PrintWords
namespace Go.Proofs.YtoegmienlhgjnaaDoorW.PrintLast
section
variable {ops : Array Oper} {a : Act} {o og : Oper} {g : Nat} {t : Tmp} {u : Bool}
end
end Go.Proofs.YtoegmienlhgjnaaDoorW.PrintLast
