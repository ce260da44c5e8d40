-- A trimmed copy of words that the kit's print laid: what this claim does not name is left out.
import Derived.Test.YtgicgdiklinomaaWInv
import Derived.Test.YtgicgdiklinomaaWFootNe
namespace Go.Proofs.YtgicgdiklinomaaW.PrintWords
open Go.RowKit
end Go.Proofs.YtgicgdiklinomaaW.PrintWords
namespace Go.Proofs.YtgicgdiklinomaaW.PrintLast
section
variable {ops : Array Oper} {a : Act} {o og : Oper} {g : Nat} {t : Tmp} {u : Bool}
end
end Go.Proofs.YtgicgdiklinomaaW.PrintLast
