-- Words that print.sh laid; what this seat does not name was left out (wip/trimw.py).
import Derived.Test.YtpfhlimcemkneaaWInv
import Derived.Test.YtpfhlimcemkneaaWFootNe
namespace Go.Proofs.YtpfhlimcemkneaaW.PrintWords
open Go.RowKit
end Go.Proofs.YtpfhlimcemkneaaW.PrintWords
namespace Go.Proofs.YtpfhlimcemkneaaW.PrintLast
section
variable {ops : Array Oper} {a : Act} {o og : Oper} {g : Nat} {t : Tmp} {u : Bool}
end
end Go.Proofs.YtpfhlimcemkneaaW.PrintLast
