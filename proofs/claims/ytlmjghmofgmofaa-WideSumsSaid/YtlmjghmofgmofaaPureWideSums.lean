/- Two numbers have just the sum and the difference, and stand just so, as the reference tells. -/
import Derived.Test.YtlmjghmofgmofaaPx16
import Derived.Test.YtlmjghmofgmofaaSb
import Derived.Test.YtlmjghmofgmofaaSr
set_option linter.unusedVariables false
set_option linter.unusedSimpArgs false
namespace Go.Proofs.Ytlmjghmofgmofaa.Pure
open Go.RowKit Go.Proofs.Th Go.Proofs.YtlmjghmofgmofaaW.PrintWords Go.Proofs.YtlmjghmofgmofaaW.PrintMore Go.Proofs.Ytlmjghmofgmofaa.P
theorem WideSums (a0 a1 b0 b1 : Int) (w0 : (Lit.int .u64 a0).wf = true) (w1 : (Lit.int .u64 a1).wf = true) (w2 : (Lit.int .u64 b0).wf = true) (w3 : (Lit.int .u64 b1).wf = true) :
    ∃ k, P.pacemakerlaw01_WideSums.f k a0 a1 b0 b1 = some true := by
  obtain ⟨h0, h1⟩ := wf_u64 w0
  obtain ⟨l0, l1⟩ := wf_u64 w1
  obtain ⟨x0, x1⟩ := wf_u64 w2
  obtain ⟨y0, y1⟩ := wf_u64 w3
  refine ⟨1000, ?_⟩
  unfold P.pacemakerlaw01_WideSums.f
  rw [wide_Add_eq h0 h1 l0 l1 x0 x1 y0 y1, ref_Add_eq 1000 (by decide) h0 h1 l0 l1 x0 x1 y0 y1, wide_Sub_eq h0 h1 l0 l1 x0 x1 y0 y1, ref_Sub_eq 1000 (by decide) h0 h1 l0 l1 x0 x1 y0 y1]
  simp only [Option.bind_some]
  rw [broad_eq 1000 (by decide)]
  simp only [Option.bind_some, if_true, beq_self_eq_true, Bool.and_self]
  rw [wide_Cmp_eq l0 l1 y0 y1, ref_Cmp_eq 1000 (by decide) h0 h1 l0 l1 x0 x1 y0 y1]
  simp
end Go.Proofs.Ytlmjghmofgmofaa.Pure
