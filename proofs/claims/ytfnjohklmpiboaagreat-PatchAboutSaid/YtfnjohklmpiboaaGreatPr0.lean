-- trimmed by trims.py
-- Written by a program of the session (wip/tools) out of the translation, over the kit's print; with pieces of the session's own.
import Derived.Test.YtfnjohklmpiboaaGreatProg
import Derived.Below
import Derived.Deep.Draws
import Derived.Deep.AppendLies
import Derived.Maps.AppendAt
import Derived.OwnWalk
import Derived.Laws.BytesArg
import Derived.Laws.MakeOwn
import Derived.Laws.OwnMore
import Derived.Deep.OwnRows
import Derived.Tactics
import Derived.Lib.ConvBytes
import Derived.Laws.Slices
import Derived.WalkKit
import Derived.KernelRfl
import Derived.RowKit3
import Derived.Deep.LoopGhost
import Derived.Deep.QuietTactic
import Derived.BigQuiet
import Derived.WideLaws
import Derived.Deep.DeepCutAuto
import Derived.Deep.CutBlock
import Derived.Deep.RegionHeld3
import Derived.Laws.Rows
import Derived.Lib.AppendStr
import Derived.ArgAppend
import Derived.Laws.IdiomCopy
import Derived.OrdersHeld
import Derived.Laws.BitsLemmas
import Derived.RowKit
import Derived.Maps.Own
import Derived.Maps.OwnSet
import Derived.Maps.OwnOps
import Derived.Maps.Views
import Derived.Lib.Hide
import Derived.Outline
import Derived.RangeFuncNested
import Derived.RangeFuncBound
import Derived.RangeFuncCalls
import Derived.RangeFuncLeaves
import Derived.Shelf.Abstract
import Derived.Shelf.RegionOpen
import Derived.OwnWalkIn
import Derived.TacticsInMore
import Derived.LoopNIn
import Derived.LoopIn
import Derived.OneCell
import Derived.Lib.UnsafeStr
import Derived.Test.YtfnjohklmpiboaaGreatSpec
import Derived.Test.YtfnjohklmpiboaaGreatBase
import Derived.Test.YtfnjohklmpiboaaGreatWWords
import Derived.Test.YtfnjohklmpiboaaGreatWLast
import Derived.Test.YtfnjohklmpiboaaGreatWTab
import Derived.Test.YtfnjohklmpiboaaGreatWFour
import Derived.Test.YtfnjohklmpiboaaGreatWQPut
import Derived.Test.YtfnjohklmpiboaaGreatWApart
import Derived.Test.YtfnjohklmpiboaaGreatWArr
import Derived.Test.YtfnjohklmpiboaaGreatWZeros
import Derived.Test.YtfnjohklmpiboaaGreatWFoot
import Derived.Test.YtfnjohklmpiboaaGreatWKept
import Derived.Test.YtfnjohklmpiboaaGreatWShare
import Derived.Test.YtfnjohklmpiboaaGreatWN
import Derived.Test.YtfnjohklmpiboaaGreatWFootNe
import Derived.Test.YtfnjohklmpiboaaGreatWAt
import Derived.Test.YtfnjohklmpiboaaGreatWEqStruct
import Derived.Test.YtfnjohklmpiboaaGreatWRepsOne
import Derived.Test.YtfnjohklmpiboaaGreatWInv
import Derived.Test.YtfnjohklmpiboaaGreatWInvWords
import Derived.Test.YtfnjohklmpiboaaGreatWGuard
import Derived.Test.YtfnjohklmpiboaaGreatWNEv
import Derived.Test.YtfnjohklmpiboaaGreatWMore
namespace Go.Proofs.YtfnjohklmpiboaaGreat.Pr
open Go.RowKit Go.Proofs.YtfnjohklmpiboaaGreatW.PrintWords Go.Proofs.YtfnjohklmpiboaaGreatW.PrintLast Go.Proofs.YtfnjohklmpiboaaGreatW.PrintMore
attribute [local go_sem] max2_int min2_int max_two min_two max_three min_three max_four min_four   -- for this text's walks alone
set_option linter.unusedVariables false
set_option linter.unusedSimpArgs false
open Go.Proofs.YtfnjohklmpiboaaGreat.Sp


def errW : Option Int → Value
  | none => .nilIface
  | some c => .iface 0 (.int .i64 c)
theorem errW_none : errW none = .nilIface := rfl
theorem errW_some (c : Int) : errW (some c) = .iface 0 (.int .i64 c) := rfl

theorem info3 : (Tryz.prog.info? 3).map (fun i => (i.zero, i.size, i.bytes)) = some (some (.int .i64 0), 1, 8) := by kernel_rfl
theorem info5 : (Tryz.prog.info? 5).map (fun i => (i.zero, i.size, i.bytes)) = some (some (.int .u8 0), 1, 1) := by kernel_rfl
/-! #### struct type 97 -/
structure S97 where
  f0 : Int
  f1 : Int
  f2 : Int
  f3 : Int
  f4 : Int
  f5 : Int
  f6 : Int
  f7 : Int
  f8 : ByteArray
/-! #### struct type 134 -/
structure S134 where
  f0 : Int
  f1 : Int
  f2 : Int
  f3 : Int
  f4 : Int
  f5 : Int
  f6 : Int
  f7 : ByteArray
/-! #### struct type 49 -/
structure S49 where
  f0 : Int
  f1 : Int
  f2 : Int
  f3 : Int
  f4 : Int
/-! #### struct type 51 -/
structure S51 where
  f0 : Int
  f1 : Int
  f2 : Int
  f3 : S49
  f4 : Int
  f5 : Int
  f6 : Int
  f7 : Int
  f8 : Int
  f9 : Int
/-! #### struct type 27 -/
structure S27 where
  f0 : Int
  f1 : Int
  f2 : Int
  f3 : Int
end Go.Proofs.YtfnjohklmpiboaaGreat.Pr
