import Derived.Test.YtnpohgoacbpcjaaGreatDoorWInv
import Derived.Test.YtnpohgoacbpcjaaGreatDoorWFootNe
namespace Go.Proofs.YtnpohgoacbpcjaaGreatDoorW.PrintWords
open Go.RowKit
end Go.Proofs.YtnpohgoacbpcjaaGreatDoorW.PrintWords
namespace Go.Proofs.YtnpohgoacbpcjaaGreatDoorW.PrintLast
section
variable {ops : Array Oper} {a : Act} {o og : Oper} {g : Nat} {t : Tmp} {u : Bool}
end
end Go.Proofs.YtnpohgoacbpcjaaGreatDoorW.PrintLast
