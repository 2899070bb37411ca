/- The mean of two numbers is between both, and the same the other way round. -/
import Derived.Test.YtlmjghmofgmofaaPx23
import Derived.Test.YtlmjghmofgmofaaSrb
set_option linter.unusedVariables false
set_option linter.unusedSimpArgs false
namespace Go.Proofs.Ytlmjghmofgmofaa.Pure
open Go.RowKit Go.Proofs.Th Go.Proofs.YtlmjghmofgmofaaW.PrintWords Go.Proofs.YtlmjghmofgmofaaW.PrintMore Go.Proofs.Ytlmjghmofgmofaa.P
theorem RootMean (x y : Int) (w0 : (Lit.int .u64 x).wf = true) (w1 : (Lit.int .u64 y).wf = true) :
    ∃ k, P.pacemakerlaw03_RootMean.f k x y = some true := by
  obtain ⟨x0, x1⟩ := wf_u64 w0
  obtain ⟨y0, y1⟩ := wf_u64 w1
  refine ⟨1000, ?_⟩
  unfold P.pacemakerlaw03_RootMean.f
  rw [rooted_eq 1000 (by decide), root_Mean_eq 1000 (by decide) x0 x1 y0 y1, root_Mean_eq 1000 (by decide) y0 y1 x0 x1, root_Mean_eq 1000 (by decide) x0 x1 x0 x1, Int.mul_comm y x]
  have ex : (x + 1) * (x + 1) = x * x + 2 * x + 1 := by grind
  have e : isq (x * x) = x := isq_eq x0 (Int.le_refl _) (by omega)
  have hlo : isq (x * y) ≥ mn x y := by
    unfold mn
    split
    · exact isq_ge_of y0 (Int.mul_le_mul_of_nonneg_right (by omega) y0)
    · exact isq_ge_of x0 (Int.mul_le_mul_of_nonneg_left (by omega) x0)
  have hhi : isq (x * y) ≤ mx x y := by
    have p0 : 0 ≤ x * y := Int.mul_nonneg x0 y0
    unfold mx
    split
    · have h1 : x * y ≤ y * y := Int.mul_le_mul_of_nonneg_right (by omega) y0
      have h2 : (y + 1) * (y + 1) = y * y + 2 * y + 1 := by grind
      have := isq_lt_of (s := y + 1) p0 (by omega) (by omega)
      omega
    · have h1 : x * y ≤ x * x := Int.mul_le_mul_of_nonneg_left (by omega) x0
      have h2 : (x + 1) * (x + 1) = x * x + 2 * x + 1 := by grind
      have := isq_lt_of (s := x + 1) p0 (by omega) (by omega)
      omega
  simp only [Option.bind_some, if_true]
  rw [if_pos hlo, if_pos hhi, e]
  simp
end Go.Proofs.Ytlmjghmofgmofaa.Pure
