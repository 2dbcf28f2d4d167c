-- written by a program of this session (wip/p2)
import Derived.Test.YtefacokhmmpiaaaDoorProg
import Derived.Below
import Derived.Deep.Draws
import Derived.Deep.AppendLies
import Derived.Maps.AppendAt
import Derived.OwnWalk
import Derived.Laws.BytesArg
import Derived.Laws.MakeOwn
import Derived.Laws.OwnMore
import Derived.Deep.OwnRows
import Derived.Tactics
import Derived.Lib.ConvBytes
import Derived.Laws.Slices
import Derived.WalkKit
import Derived.KernelRfl
import Derived.RowKit3
import Derived.Deep.LoopGhost
import Derived.Deep.QuietTactic
import Derived.BigQuiet
import Derived.WideLaws
import Derived.Deep.DeepCutAuto
import Derived.Deep.CutBlock
import Derived.Deep.RegionHeld3
import Derived.Laws.Rows
import Derived.Lib.AppendStr
import Derived.ArgAppend
import Derived.Laws.IdiomCopy
import Derived.OrdersHeld
import Derived.Laws.BitsLemmas
import Derived.RowKit
import Derived.Test.YtefacokhmmpiaaaDoorWWords
import Derived.Test.YtefacokhmmpiaaaDoorWLast
import Derived.Test.YtefacokhmmpiaaaDoorWTab
import Derived.Test.YtefacokhmmpiaaaDoorWFour
import Derived.Test.YtefacokhmmpiaaaDoorWQPut
import Derived.Test.YtefacokhmmpiaaaDoorWApart
import Derived.Test.YtefacokhmmpiaaaDoorWArr
import Derived.Test.YtefacokhmmpiaaaDoorWZeros
import Derived.Test.YtefacokhmmpiaaaDoorWFoot
import Derived.Test.YtefacokhmmpiaaaDoorWKept
import Derived.Test.YtefacokhmmpiaaaDoorWShare
import Derived.Test.YtefacokhmmpiaaaDoorWN
import Derived.Test.YtefacokhmmpiaaaDoorWFootNe
import Derived.Test.YtefacokhmmpiaaaDoorWAt
import Derived.Test.YtefacokhmmpiaaaDoorWEqStruct
import Derived.Test.YtefacokhmmpiaaaDoorWRepsOne
import Derived.Test.YtefacokhmmpiaaaDoorWInv
import Derived.Test.YtefacokhmmpiaaaDoorWInvWords
import Derived.Test.YtefacokhmmpiaaaDoorWGuard
import Derived.Test.YtefacokhmmpiaaaDoorWNEv
import Derived.Test.YtefacokhmmpiaaaDoorWMore
import Derived.Test.YtefacokhmmpiaaaDoorShelf
import Derived.Lib.ConvBytes
namespace Go.Proofs.YtefacokhmmpiaaaDoor.P
open Go.RowKit Go.Proofs.YtefacokhmmpiaaaDoorW.PrintWords Go.Proofs.YtefacokhmmpiaaaDoorW.PrintLast Go.Proofs.YtefacokhmmpiaaaDoorW.PrintMore
attribute [local go_sem] max2_int min2_int max_two min_two max_three min_three max_four min_four   -- for this text's walks alone
set_option linter.unusedVariables false
set_option linter.unusedSimpArgs false

theorem given_isEmpty (l : List UInt8) : l.isEmpty = !(l != []) := by cases l <;> rfl


def errW : Option Int → Value
  | none => .nilIface
  | some c => .iface 0 (.int .i64 c)
theorem errW_none : errW none = .nilIface := rfl
theorem errW_some (c : Int) : errW (some c) = .iface 0 (.int .i64 c) := rfl

theorem info5 : (Tryd.prog.info? 5).map (fun i => (i.zero, i.size, i.bytes)) = some (some (.int .u8 0), 1, 1) := by kernel_rfl
theorem info9 : (Tryd.prog.info? 9).map (fun i => (i.zero, i.size, i.bytes)) = some (some (.string ⟨#[]⟩), 1, 16) := by kernel_rfl
-- the values' own types

end Go.Proofs.YtefacokhmmpiaaaDoor.P
