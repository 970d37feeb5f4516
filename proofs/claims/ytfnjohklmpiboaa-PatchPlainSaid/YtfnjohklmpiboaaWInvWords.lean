-- trimmed by trims.py
import Derived.Test.YtfnjohklmpiboaaWInv
import Derived.Test.YtfnjohklmpiboaaWFootNe
namespace Go.Proofs.YtfnjohklmpiboaaW.PrintWords
open Go.RowKit
end Go.Proofs.YtfnjohklmpiboaaW.PrintWords
namespace Go.Proofs.YtfnjohklmpiboaaW.PrintLast
section
variable {ops : Array Oper} {a : Act} {o og : Oper} {g : Nat} {t : Tmp} {u : Bool}
end
end Go.Proofs.YtfnjohklmpiboaaW.PrintLast
