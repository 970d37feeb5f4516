-- trimmed by trims.py
import Derived.Test.YtkganedlhcepfaaWInv
import Derived.Test.YtkganedlhcepfaaWFootNe
namespace Go.Proofs.YtkganedlhcepfaaW.PrintWords
open Go.RowKit
end Go.Proofs.YtkganedlhcepfaaW.PrintWords
namespace Go.Proofs.YtkganedlhcepfaaW.PrintLast
section
variable {ops : Array Oper} {a : Act} {o og : Oper} {g : Nat} {t : Tmp} {u : Bool}
end
end Go.Proofs.YtkganedlhcepfaaW.PrintLast
