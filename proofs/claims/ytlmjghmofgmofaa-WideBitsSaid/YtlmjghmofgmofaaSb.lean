/- The document's rows of layer 1, as its laws ask them. -/
import Derived.Test.YtlmjghmofgmofaaPx7
import Derived.Test.YtlmjghmofgmofaaSd
set_option linter.unusedVariables false
set_option linter.unusedSimpArgs false
namespace Go.Proofs.Ytlmjghmofgmofaa.P
open Go.RowKit Go.Proofs.Th Go.Proofs.YtlmjghmofgmofaaW.PrintWords Go.Proofs.YtlmjghmofgmofaaW.PrintMore
theorem broad_eq (k : Nat) (hk : 40 ≤ k) : pacemakerlaw01_broad.f k = some true := by
  unfold pacemakerlaw01_broad.f
  rw [wide_Div_eq (h := 3) (l := 1) (d := 6) k hk (by decide) (by decide) (by decide) (by decide) (by decide) (by decide)]
  simp only [Option.bind_some]
  rw [wide_Sub_eq (by decide) (by decide) (by decide) (by decide) (by decide) (by decide) (by decide) (by decide)]
  simp only [Option.bind_some]
  rw [wide_Div_zero]
  simp only [Option.bind_some]
  rw [wide_Mul_eq (by decide) (by decide) (by decide) (by decide)]
  simp only [Option.bind_some]
  rw [wide_Len_eq k (by omega) (by decide) (by decide) (by decide) (by decide)]
  decide +kernel
end Go.Proofs.Ytlmjghmofgmofaa.P
