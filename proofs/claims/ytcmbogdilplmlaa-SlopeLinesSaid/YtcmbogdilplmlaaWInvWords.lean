-- Words that print.sh laid; what this seat does not name was left out (wip/trimw.py).
import Derived.Test.YtcmbogdilplmlaaWInv
import Derived.Test.YtcmbogdilplmlaaWFootNe
namespace Go.Proofs.YtcmbogdilplmlaaW.PrintWords
open Go.RowKit
end Go.Proofs.YtcmbogdilplmlaaW.PrintWords
namespace Go.Proofs.YtcmbogdilplmlaaW.PrintLast
section
variable {ops : Array Oper} {a : Act} {o og : Oper} {g : Nat} {t : Tmp} {u : Bool}
end
end Go.Proofs.YtcmbogdilplmlaaW.PrintLast
