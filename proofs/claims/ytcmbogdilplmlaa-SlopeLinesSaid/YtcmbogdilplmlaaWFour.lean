-- Words that print.sh laid; what this seat does not name was left out (wip/trimw.py).
import Derived.Test.YtcmbogdilplmlaaWTab
/-! ### 56. Four, five, six operations that may come up next, in any order -/
namespace Go.Proofs.YtcmbogdilplmlaaW.PrintLast
section
variable {P : Program} {ops : Array Oper} {Q : Exit → Act → World → Prop} {md : Region.Mode} {S : World → Prop} {ds : List Nat} {T : Bool × List (List Nat × List Nat)}
end
end Go.Proofs.YtcmbogdilplmlaaW.PrintLast
