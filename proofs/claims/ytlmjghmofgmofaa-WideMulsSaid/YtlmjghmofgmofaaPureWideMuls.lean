/- Two numbers have just the product, and the quotient and what is left, that the reference tells. -/
import Derived.Test.YtlmjghmofgmofaaPx9
import Derived.Test.YtlmjghmofgmofaaSb
import Derived.Test.YtlmjghmofgmofaaSr
set_option linter.unusedVariables false
set_option linter.unusedSimpArgs false
namespace Go.Proofs.Ytlmjghmofgmofaa.Pure
open Go.RowKit Go.Proofs.Th Go.Proofs.YtlmjghmofgmofaaW.PrintWords Go.Proofs.YtlmjghmofgmofaaW.PrintMore Go.Proofs.Ytlmjghmofgmofaa.P
theorem WideMuls (a0 a1 x y : Int) (w0 : (Lit.int .u64 a0).wf = true) (w1 : (Lit.int .u64 a1).wf = true) (w2 : (Lit.int .u64 x).wf = true) (w3 : (Lit.int .u64 y).wf = true) :
    ∃ k, P.pacemakerlaw01_WideMuls.f k a0 a1 x y = some true := by
  obtain ⟨h0, h1⟩ := wf_u64 w0
  obtain ⟨l0, l1⟩ := wf_u64 w1
  obtain ⟨x0, x1⟩ := wf_u64 w2
  obtain ⟨y0, y1⟩ := wf_u64 w3
  refine ⟨1000, ?_⟩
  unfold P.pacemakerlaw01_WideMuls.f
  by_cases hx : x = 0
  · subst hx
    rw [wide_Div_zero, ref_Div_zero]
    simp only [Option.bind_some]
    rw [broad_eq 1000 (by decide)]
    simp only [Option.bind_some, if_true]
    rw [wide_Mul_eq x0 x1 y0 y1, ref_Mul_eq 1000 (by decide) x0 x1 y0 y1]
    simp
  · rw [wide_Div_eq 1000 (by decide) h0 h1 l0 l1 (by omega) x1, ref_Div_eq 1000 (by decide) h0 h1 l0 l1 (by omega) x1]
    simp only [Option.bind_some]
    rw [broad_eq 1000 (by decide)]
    simp only [Option.bind_some, if_true]
    rw [wide_Mul_eq x0 x1 y0 y1, ref_Mul_eq 1000 (by decide) x0 x1 y0 y1]
    simp
end Go.Proofs.Ytlmjghmofgmofaa.Pure
