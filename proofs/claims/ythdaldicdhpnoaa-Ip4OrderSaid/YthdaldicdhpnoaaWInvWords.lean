-- trimmed by trims.py
import Derived.Test.YthdaldicdhpnoaaWInv
import Derived.Test.YthdaldicdhpnoaaWFootNe
namespace Go.Proofs.YthdaldicdhpnoaaW.PrintWords
open Go.RowKit
end Go.Proofs.YthdaldicdhpnoaaW.PrintWords
namespace Go.Proofs.YthdaldicdhpnoaaW.PrintLast
section
variable {ops : Array Oper} {a : Act} {o og : Oper} {g : Nat} {t : Tmp} {u : Bool}
end
end Go.Proofs.YthdaldicdhpnoaaW.PrintLast
