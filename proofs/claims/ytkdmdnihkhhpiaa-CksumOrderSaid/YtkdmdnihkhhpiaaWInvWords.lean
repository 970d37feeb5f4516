-- trimmed by trims.py
import Derived.Test.YtkdmdnihkhhpiaaWInv
import Derived.Test.YtkdmdnihkhhpiaaWFootNe
namespace Go.Proofs.YtkdmdnihkhhpiaaW.PrintWords
open Go.RowKit
end Go.Proofs.YtkdmdnihkhhpiaaW.PrintWords
namespace Go.Proofs.YtkdmdnihkhhpiaaW.PrintLast
section
variable {ops : Array Oper} {a : Act} {o og : Oper} {g : Nat} {t : Tmp} {u : Bool}
end
end Go.Proofs.YtkdmdnihkhhpiaaW.PrintLast
