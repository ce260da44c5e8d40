-- A trimmed copy of words that the kit's print laid: what this claim does not name is left out.
import Derived.Test.YtookjdhfpbmjkaaWInv
import Derived.Test.YtookjdhfpbmjkaaWFootNe
namespace Go.Proofs.YtookjdhfpbmjkaaW.PrintWords
open Go.RowKit
end Go.Proofs.YtookjdhfpbmjkaaW.PrintWords
namespace Go.Proofs.YtookjdhfpbmjkaaW.PrintLast
section
variable {ops : Array Oper} {a : Act} {o og : Oper} {g : Nat} {t : Tmp} {u : Bool}
end
end Go.Proofs.YtookjdhfpbmjkaaW.PrintLast
