-- trimmed by trims.py
-- Written by a program of the session (wip/tools) out of the translation, over the kit's print; with pieces of the session's own.
import Derived.Test.YtkdmdnihkhhpiaaProg
import Derived.Below
import Derived.Deep.Draws
import Derived.Deep.AppendLies
import Derived.Maps.AppendAt
import Derived.OwnWalk
import Derived.Laws.BytesArg
import Derived.Laws.MakeOwn
import Derived.Laws.OwnMore
import Derived.Deep.OwnRows
import Derived.Tactics
import Derived.Lib.ConvBytes
import Derived.Laws.Slices
import Derived.WalkKit
import Derived.KernelRfl
import Derived.RowKit3
import Derived.Deep.LoopGhost
import Derived.Deep.QuietTactic
import Derived.BigQuiet
import Derived.WideLaws
import Derived.Deep.DeepCutAuto
import Derived.Deep.CutBlock
import Derived.Deep.RegionHeld3
import Derived.Laws.Rows
import Derived.Lib.AppendStr
import Derived.ArgAppend
import Derived.Laws.IdiomCopy
import Derived.OrdersHeld
import Derived.Laws.BitsLemmas
import Derived.RowKit
import Derived.Maps.Own
import Derived.Maps.OwnSet
import Derived.Maps.OwnOps
import Derived.Maps.Views
import Derived.Lib.Hide
import Derived.Outline
import Derived.RangeFuncNested
import Derived.RangeFuncBound
import Derived.RangeFuncCalls
import Derived.RangeFuncLeaves
import Derived.Shelf.Abstract
import Derived.Shelf.RegionOpen
import Derived.OwnWalkIn
import Derived.TacticsInMore
import Derived.LoopNIn
import Derived.LoopIn
import Derived.OneCell
import Derived.Lib.UnsafeStr
import Derived.Test.YtkdmdnihkhhpiaaSpec
import Derived.Test.YtkdmdnihkhhpiaaBase
import Derived.Test.YtkdmdnihkhhpiaaWWords
import Derived.Test.YtkdmdnihkhhpiaaWLast
import Derived.Test.YtkdmdnihkhhpiaaWTab
import Derived.Test.YtkdmdnihkhhpiaaWFour
import Derived.Test.YtkdmdnihkhhpiaaWQPut
import Derived.Test.YtkdmdnihkhhpiaaWApart
import Derived.Test.YtkdmdnihkhhpiaaWArr
import Derived.Test.YtkdmdnihkhhpiaaWZeros
import Derived.Test.YtkdmdnihkhhpiaaWFoot
import Derived.Test.YtkdmdnihkhhpiaaWKept
import Derived.Test.YtkdmdnihkhhpiaaWShare
import Derived.Test.YtkdmdnihkhhpiaaWN
import Derived.Test.YtkdmdnihkhhpiaaWFootNe
import Derived.Test.YtkdmdnihkhhpiaaWAt
import Derived.Test.YtkdmdnihkhhpiaaWEqStruct
import Derived.Test.YtkdmdnihkhhpiaaWRepsOne
import Derived.Test.YtkdmdnihkhhpiaaWInv
import Derived.Test.YtkdmdnihkhhpiaaWInvWords
import Derived.Test.YtkdmdnihkhhpiaaWGuard
import Derived.Test.YtkdmdnihkhhpiaaWNEv
import Derived.Test.YtkdmdnihkhhpiaaWMore
namespace Go.Proofs.Ytkdmdnihkhhpiaa.Pr
open Go.RowKit Go.Proofs.YtkdmdnihkhhpiaaW.PrintWords Go.Proofs.YtkdmdnihkhhpiaaW.PrintLast Go.Proofs.YtkdmdnihkhhpiaaW.PrintMore
attribute [local go_sem] max2_int min2_int max_two min_two max_three min_three max_four min_four   -- for this text's walks alone
set_option linter.unusedVariables false
set_option linter.unusedSimpArgs false
open Go.Proofs.Ytkdmdnihkhhpiaa.Sp


def errW : Option Int → Value
  | none => .nilIface
  | some c => .iface 0 (.int .i64 c)
theorem errW_none : errW none = .nilIface := rfl
theorem errW_some (c : Int) : errW (some c) = .iface 0 (.int .i64 c) := rfl

theorem info25 : (Try.prog.info? 25).map (fun i => (i.zero, i.size, i.bytes)) = some (some (.int .u16 0), 1, 2) := by kernel_rfl
-- the values' own types

end Go.Proofs.Ytkdmdnihkhhpiaa.Pr
