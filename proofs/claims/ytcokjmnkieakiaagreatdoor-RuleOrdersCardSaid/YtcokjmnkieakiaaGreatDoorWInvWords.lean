import Derived.Test.YtcokjmnkieakiaaGreatDoorWInv
import Derived.Test.YtcokjmnkieakiaaGreatDoorWFootNe
namespace Go.Proofs.YtcokjmnkieakiaaGreatDoorW.PrintWords
open Go.RowKit
end Go.Proofs.YtcokjmnkieakiaaGreatDoorW.PrintWords
namespace Go.Proofs.YtcokjmnkieakiaaGreatDoorW.PrintLast
section
variable {ops:Array Oper} {a:Act} {o og:Oper} {g:Nat} {t:Tmp} {u:Bool}
end
end Go.Proofs.YtcokjmnkieakiaaGreatDoorW.PrintLast
