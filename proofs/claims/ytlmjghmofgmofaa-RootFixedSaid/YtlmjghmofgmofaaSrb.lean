/- The document's rows of layer 3, as its laws ask them. -/
import Derived.Test.YtlmjghmofgmofaaPx19
import Derived.Test.YtlmjghmofgmofaaSq
set_option linter.unusedVariables false
set_option linter.unusedSimpArgs false
namespace Go.Proofs.Ytlmjghmofgmofaa.P
open Go.RowKit Go.Proofs.Th Go.Proofs.YtlmjghmofgmofaaW.PrintWords Go.Proofs.YtlmjghmofgmofaaW.PrintMore
theorem isq24 : isq 24 = 4 := isq_eq (a := 24) (s := 4) (by decide) (by decide) (by decide)
theorem isq25 : isq 25 = 5 := isq_eq (a := 25) (s := 5) (by decide) (by decide) (by decide)
theorem isq41 : isq 2199023255552 = 1482910 := isq_eq (a := 2199023255552) (s := 1482910) (by decide) (by decide) (by decide)
theorem isq16 : isq (2 * 8) = 4 := isq_eq (a := 2 * 8) (s := 4) (by decide) (by decide) (by decide)
theorem rooted_eq (k : Nat) (hk : 70 ≤ k) : pacemakerlaw03_rooted.f k = some true := by
  have h1 : root_Log.f k 0 = some (-1) := root_Log_eq k (by omega) (by decide) (by decide)
  have h2 : root_Log.f k 255 = some 7 := root_Log_eq k (by omega) (by decide) (by decide)
  have h3 : root_Log.f k 256 = some 8 := root_Log_eq k (by omega) (by decide) (by decide)
  have h4 : root_Sqrt.f k 24 = some 4 := by rw [root_Sqrt_eq k hk (by decide) (by decide), isq24]
  have h5 : root_Sqrt.f k 25 = some 5 := by rw [root_Sqrt_eq k hk (by decide) (by decide), isq25]
  have e6 : min (2097152 : Int) 4611686018427387904 * 1048576 = 2199023255552 := by decide
  have h6 : root_Root.f k 2097152 = some 1482910 := by rw [root_Root_eq k hk, if_neg (show ¬ (2097152 : Int) ≤ 0 by decide), e6, isq41]
  have h7 : root_Mean.f k 2 8 = some 4 := by rw [root_Mean_eq k hk (by decide) (by decide) (by decide) (by decide), isq16]
  unfold pacemakerlaw03_rooted.f
  rw [h1, h2, h3, h4, h5, h6, h7]
  rfl
end Go.Proofs.Ytlmjghmofgmofaa.P
