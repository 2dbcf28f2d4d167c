import Derived.Test.YtnpohgoacbpcjaaDoorWInv
import Derived.Test.YtnpohgoacbpcjaaDoorWFootNe
namespace Go.Proofs.YtnpohgoacbpcjaaDoorW.PrintWords
open Go.RowKit
end Go.Proofs.YtnpohgoacbpcjaaDoorW.PrintWords
namespace Go.Proofs.YtnpohgoacbpcjaaDoorW.PrintLast
section
variable {ops : Array Oper} {a : Act} {o og : Oper} {g : Nat} {t : Tmp} {u : Bool}
end
end Go.Proofs.YtnpohgoacbpcjaaDoorW.PrintLast
