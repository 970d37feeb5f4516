-- trimmed by trims.py
-- Written by a program of the session (wip/tools) out of the translation, over the kit's print; with pieces of the session's own.
import Derived.Test.YthdaldicdhpnoaaProg
import Derived.Below
import Derived.Deep.Draws
import Derived.Deep.AppendLies
import Derived.Maps.AppendAt
import Derived.OwnWalk
import Derived.Laws.BytesArg
import Derived.Laws.MakeOwn
import Derived.Laws.OwnMore
import Derived.Deep.OwnRows
import Derived.Tactics
import Derived.Lib.ConvBytes
import Derived.Laws.Slices
import Derived.WalkKit
import Derived.KernelRfl
import Derived.RowKit3
import Derived.Deep.LoopGhost
import Derived.Deep.QuietTactic
import Derived.BigQuiet
import Derived.WideLaws
import Derived.Deep.DeepCutAuto
import Derived.Deep.CutBlock
import Derived.Deep.RegionHeld3
import Derived.Laws.Rows
import Derived.Lib.AppendStr
import Derived.ArgAppend
import Derived.Laws.IdiomCopy
import Derived.OrdersHeld
import Derived.Laws.BitsLemmas
import Derived.RowKit
import Derived.Maps.Own
import Derived.Maps.OwnSet
import Derived.Maps.OwnOps
import Derived.Maps.Views
import Derived.Lib.Hide
import Derived.Outline
import Derived.RangeFuncNested
import Derived.RangeFuncBound
import Derived.RangeFuncCalls
import Derived.RangeFuncLeaves
import Derived.Shelf.Abstract
import Derived.Shelf.RegionOpen
import Derived.OwnWalkIn
import Derived.TacticsInMore
import Derived.LoopNIn
import Derived.LoopIn
import Derived.OneCell
import Derived.Lib.UnsafeStr
import Derived.Shelf.Strings.Builder1
import Derived.Test.YthdaldicdhpnoaaShelf
import Derived.Test.YthdaldicdhpnoaaSpec
import Derived.Test.YthdaldicdhpnoaaBase
import Derived.Test.YthdaldicdhpnoaaWWords
import Derived.Test.YthdaldicdhpnoaaWLast
import Derived.Test.YthdaldicdhpnoaaWTab
import Derived.Test.YthdaldicdhpnoaaWFour
import Derived.Test.YthdaldicdhpnoaaWQPut
import Derived.Test.YthdaldicdhpnoaaWApart
import Derived.Test.YthdaldicdhpnoaaWArr
import Derived.Test.YthdaldicdhpnoaaWZeros
import Derived.Test.YthdaldicdhpnoaaWFoot
import Derived.Test.YthdaldicdhpnoaaWKept
import Derived.Test.YthdaldicdhpnoaaWShare
import Derived.Test.YthdaldicdhpnoaaWN
import Derived.Test.YthdaldicdhpnoaaWFootNe
import Derived.Test.YthdaldicdhpnoaaWAt
import Derived.Test.YthdaldicdhpnoaaWEqStruct
import Derived.Test.YthdaldicdhpnoaaWRepsOne
import Derived.Test.YthdaldicdhpnoaaWInv
import Derived.Test.YthdaldicdhpnoaaWInvWords
import Derived.Test.YthdaldicdhpnoaaWGuard
import Derived.Test.YthdaldicdhpnoaaWNEv
import Derived.Test.YthdaldicdhpnoaaWMore
namespace Go.Proofs.Ythdaldicdhpnoaa.Pr
open Go.RowKit Go.Proofs.YthdaldicdhpnoaaW.PrintWords Go.Proofs.YthdaldicdhpnoaaW.PrintLast Go.Proofs.YthdaldicdhpnoaaW.PrintMore
attribute [local go_sem] max2_int min2_int max_two min_two max_three min_three max_four min_four   -- for this text's walks alone
set_option linter.unusedVariables false
set_option linter.unusedSimpArgs false
open Go.Proofs.Ythdaldicdhpnoaa.Sp


def errW : Option Int → Value
  | none => .nilIface
  | some c => .iface 0 (.int .i64 c)
theorem errW_none : errW none = .nilIface := rfl
theorem errW_some (c : Int) : errW (some c) = .iface 0 (.int .i64 c) := rfl

theorem info5 : (Try.prog.info? 5).map (fun i => (i.zero, i.size, i.bytes)) = some (some (.int .u8 0), 1, 1) := by kernel_rfl
-- the values' own types
/-! #### struct type 24 -/
structure S24 where
  f0 : Int
  f1 : Int
  f2 : Int
  f3 : Int
  f4 : Int
  f5 : Int
  f6 : Int
  f7 : Int
  f8 : ByteArray
end Go.Proofs.Ythdaldicdhpnoaa.Pr
