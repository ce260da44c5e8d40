-- A trimmed copy of words that the kit's print laid: what this claim does not name is left out.
import Derived.Test.YtookjdhfpbmjkaaWTab
/-! ### 56. Four, five, six operations that may come up next, in any order -/
namespace Go.Proofs.YtookjdhfpbmjkaaW.PrintLast
section
variable {P : Program} {ops : Array Oper} {Q : Exit → Act → World → Prop} {md : Region.Mode} {S : World → Prop} {ds : List Nat} {T : Bool × List (List Nat × List Nat)}
end
end Go.Proofs.YtookjdhfpbmjkaaW.PrintLast
