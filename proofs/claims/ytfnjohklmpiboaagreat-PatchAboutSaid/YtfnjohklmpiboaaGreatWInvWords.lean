-- trimmed by trims.py
import Derived.Test.YtfnjohklmpiboaaGreatWInv
import Derived.Test.YtfnjohklmpiboaaGreatWFootNe
namespace Go.Proofs.YtfnjohklmpiboaaGreatW.PrintWords
open Go.RowKit
end Go.Proofs.YtfnjohklmpiboaaGreatW.PrintWords
namespace Go.Proofs.YtfnjohklmpiboaaGreatW.PrintLast
section
variable {ops : Array Oper} {a : Act} {o og : Oper} {g : Nat} {t : Tmp} {u : Bool}
end
end Go.Proofs.YtfnjohklmpiboaaGreatW.PrintLast
