import Derived.Test.YtadagjgkanlmdaaGreatDoorWInv
import Derived.Test.YtadagjgkanlmdaaGreatDoorWFootNe
namespace Go.Proofs.YtadagjgkanlmdaaGreatDoorW.PrintWords
open Go.RowKit
end Go.Proofs.YtadagjgkanlmdaaGreatDoorW.PrintWords
namespace Go.Proofs.YtadagjgkanlmdaaGreatDoorW.PrintLast
section
variable {ops:Array Oper} {a:Act} {o og:Oper} {g:Nat} {t:Tmp} {u:Bool}
end
end Go.Proofs.YtadagjgkanlmdaaGreatDoorW.PrintLast
