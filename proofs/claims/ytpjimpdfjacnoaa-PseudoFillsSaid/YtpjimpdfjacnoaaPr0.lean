-- Written by a program of the session (wip/tools) out of the translation, over the kit's print; with pieces of the session's own.
import Derived.Test.YtpjimpdfjacnoaaProg
import Derived.Below
import Derived.Deep.Draws
import Derived.Deep.AppendLies
import Derived.Maps.AppendAt
import Derived.OwnWalk
import Derived.Laws.BytesArg
import Derived.Laws.MakeOwn
import Derived.Laws.OwnMore
import Derived.Deep.OwnRows
import Derived.Tactics
import Derived.Lib.ConvBytes
import Derived.Laws.Slices
import Derived.WalkKit
import Derived.KernelRfl
import Derived.RowKit3
import Derived.Deep.LoopGhost
import Derived.Deep.QuietTactic
import Derived.BigQuiet
import Derived.WideLaws
import Derived.Deep.DeepCutAuto
import Derived.Deep.CutBlock
import Derived.Deep.RegionHeld3
import Derived.Laws.Rows
import Derived.Lib.AppendStr
import Derived.ArgAppend
import Derived.Laws.IdiomCopy
import Derived.OrdersHeld
import Derived.Laws.BitsLemmas
import Derived.RowKit
import Derived.Maps.Own
import Derived.Maps.OwnSet
import Derived.Maps.OwnOps
import Derived.Maps.Views
import Derived.Lib.Hide
import Derived.Outline
import Derived.RangeFuncNested
import Derived.RangeFuncBound
import Derived.RangeFuncCalls
import Derived.RangeFuncLeaves
import Derived.Shelf.Abstract
import Derived.Shelf.RegionOpen
import Derived.OwnWalkIn
import Derived.TacticsInMore
import Derived.LoopNIn
import Derived.LoopIn
import Derived.OneCell
import Derived.Lib.UnsafeStr
import Derived.Test.YtpjimpdfjacnoaaSpec
import Derived.Test.YtpjimpdfjacnoaaBase
import Derived.Test.YtpjimpdfjacnoaaWWords
import Derived.Test.YtpjimpdfjacnoaaWLast
import Derived.Test.YtpjimpdfjacnoaaWTab
import Derived.Test.YtpjimpdfjacnoaaWFour
import Derived.Test.YtpjimpdfjacnoaaWQPut
import Derived.Test.YtpjimpdfjacnoaaWApart
import Derived.Test.YtpjimpdfjacnoaaWArr
import Derived.Test.YtpjimpdfjacnoaaWZeros
import Derived.Test.YtpjimpdfjacnoaaWFoot
import Derived.Test.YtpjimpdfjacnoaaWKept
import Derived.Test.YtpjimpdfjacnoaaWShare
import Derived.Test.YtpjimpdfjacnoaaWN
import Derived.Test.YtpjimpdfjacnoaaWFootNe
import Derived.Test.YtpjimpdfjacnoaaWAt
import Derived.Test.YtpjimpdfjacnoaaWEqStruct
import Derived.Test.YtpjimpdfjacnoaaWRepsOne
import Derived.Test.YtpjimpdfjacnoaaWInv
import Derived.Test.YtpjimpdfjacnoaaWInvWords
import Derived.Test.YtpjimpdfjacnoaaWGuard
import Derived.Test.YtpjimpdfjacnoaaWNEv
import Derived.Test.YtpjimpdfjacnoaaWMore
namespace Go.Proofs.Ytpjimpdfjacnoaa.Pr
open Go.RowKit Go.Proofs.YtpjimpdfjacnoaaW.PrintWords Go.Proofs.YtpjimpdfjacnoaaW.PrintLast Go.Proofs.YtpjimpdfjacnoaaW.PrintMore
attribute [local go_sem] max2_int min2_int max_two min_two max_three min_three max_four min_four   -- for this text's walks alone
set_option linter.unusedVariables false
set_option linter.unusedSimpArgs false
open Go.Proofs.Ytpjimpdfjacnoaa.Sp


def errW : Option Int → Value
  | none => .nilIface
  | some c => .iface 0 (.int .i64 c)
theorem errW_none : errW none = .nilIface := rfl
theorem errW_some (c : Int) : errW (some c) = .iface 0 (.int .i64 c) := rfl

theorem info3 : (Try.prog.info? 3).map (fun i => (i.zero, i.size, i.bytes)) = some (some (.int .i64 0), 1, 8) := by kernel_rfl
theorem info5 : (Try.prog.info? 5).map (fun i => (i.zero, i.size, i.bytes)) = some (some (.int .u8 0), 1, 1) := by kernel_rfl
theorem info24 : (Try.prog.info? 24).map (fun i => (i.zero, i.size, i.bytes)) = some (some (.int .u16 0), 1, 2) := by kernel_rfl
-- the values' own types

end Go.Proofs.Ytpjimpdfjacnoaa.Pr
