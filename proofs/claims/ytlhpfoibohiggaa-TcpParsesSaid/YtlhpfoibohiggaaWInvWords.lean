-- Words of the kit's print (OWN=1), those that are used here.
import Derived.Test.YtlhpfoibohiggaaWInv
import Derived.Test.YtlhpfoibohiggaaWFootNe
namespace Go.Proofs.YtlhpfoibohiggaaW.PrintWords
open Go.RowKit
end Go.Proofs.YtlhpfoibohiggaaW.PrintWords
namespace Go.Proofs.YtlhpfoibohiggaaW.PrintLast
section
variable {ops : Array Oper} {a : Act} {o og : Oper} {g : Nat} {t : Tmp} {u : Bool}
end
end Go.Proofs.YtlhpfoibohiggaaW.PrintLast
