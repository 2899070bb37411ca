/- A number has just this logarithm and this power, and a factor is just this. -/
import Derived.Test.YtpfhlimcemkneaaPx6
import Derived.Test.YtpfhlimcemkneaaEsr
set_option linter.unusedVariables false
set_option linter.unusedSimpArgs false
namespace Go.Proofs.Ytpfhlimcemkneaa.Pure
open Go.RowKit Go.Proofs.Th Go.Proofs.Ee Go.Proofs.YtpfhlimcemkneaaW.PrintWords Go.Proofs.YtpfhlimcemkneaaW.PrintMore Go.Proofs.Ytpfhlimcemkneaa.P
theorem ExpoDoes : P.pacemakerlaw04_ExpoDoes.Pure := by
  intro a n w0 w1
  refine ⟨400, ?_⟩
  unfold P.pacemakerlaw04_ExpoDoes.f
  rw [powered_eq 400 (by decide)]
  simp only [Option.bind_some]
  rw [if_pos trivial, Log2_eq 400 (by decide), rLog2_eq 400 (by decide)]
  simp only [Option.bind_some]
  rw [if_pos trivial, Exp2_eq 400 (by decide), rExp2_eq 400 (by decide)]
  simp only [Option.bind_some]
  rw [if_pos trivial, Factor_eq 400 (by decide), rFactor_eq 400 (by decide)]
  simp
end Go.Proofs.Ytpfhlimcemkneaa.Pure
