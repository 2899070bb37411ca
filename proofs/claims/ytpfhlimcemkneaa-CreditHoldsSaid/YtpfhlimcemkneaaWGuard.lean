-- Words that print.sh laid; what this seat does not name was left out (wip/trimw.py).
import Derived.Test.YtpfhlimcemkneaaWWords
/-! ### 58. A guarded operation whose guard is known to want it: the same goal without the guard -/
namespace Go.Proofs.YtpfhlimcemkneaaW.PrintWords
open Go.RowKit
section
variable {P : Program} {ops : Array Oper} {rest : List Oper} {o : Oper} {a : Act} {Q : Exit → Act → World → Prop} {W : World}
end
end Go.Proofs.YtpfhlimcemkneaaW.PrintWords
