import Derived.Test.YtcokjmnkieakiaaDoorWInv
import Derived.Test.YtcokjmnkieakiaaDoorWFootNe
namespace Go.Proofs.YtcokjmnkieakiaaDoorW.PrintWords
open Go.RowKit
end Go.Proofs.YtcokjmnkieakiaaDoorW.PrintWords
namespace Go.Proofs.YtcokjmnkieakiaaDoorW.PrintLast
section
variable {ops:Array Oper} {a:Act} {o og:Oper} {g:Nat} {t:Tmp} {u:Bool}
end
end Go.Proofs.YtcokjmnkieakiaaDoorW.PrintLast
