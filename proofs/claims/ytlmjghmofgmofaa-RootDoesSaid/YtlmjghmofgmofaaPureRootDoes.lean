/- Numbers have just the roots, the mean and the logarithm that the reference tells. -/
import Derived.Test.YtlmjghmofgmofaaPx21
import Derived.Test.YtlmjghmofgmofaaSrb
import Derived.Test.YtlmjghmofgmofaaSr3
set_option linter.unusedVariables false
set_option linter.unusedSimpArgs false
namespace Go.Proofs.Ytlmjghmofgmofaa.Pure
open Go.RowKit Go.Proofs.Th Go.Proofs.YtlmjghmofgmofaaW.PrintWords Go.Proofs.YtlmjghmofgmofaaW.PrintMore Go.Proofs.Ytlmjghmofgmofaa.P
theorem RootDoes (a0 a1 x y n : Int) (w0 : (Lit.int .u64 a0).wf = true) (w1 : (Lit.int .u64 a1).wf = true) (w2 : (Lit.int .u64 x).wf = true) (w3 : (Lit.int .u64 y).wf = true) (w4 : (Lit.int .i64 n).wf = true) :
    ∃ k, P.pacemakerlaw03_RootDoes.f k a0 a1 x y n = some true := by
  obtain ⟨h0, h1⟩ := wf_u64 w0
  obtain ⟨l0, l1⟩ := wf_u64 w1
  obtain ⟨x0, x1⟩ := wf_u64 w2
  obtain ⟨y0, y1⟩ := wf_u64 w3
  refine ⟨1000, ?_⟩
  unfold P.pacemakerlaw03_RootDoes.f
  rw [rooted_eq 1000 (by decide), root_SqrtWide_eq 1000 (by decide) h0 h1 l0 l1, ref_SqrtWide_eq 1000 (by decide) h0 h1 l0 l1, root_Sqrt_eq 1000 (by decide) x0 x1, ref_Sqrt_eq 1000 (by decide) x0 x1, root_Log_eq 1000 (by decide) x0 x1, ref_Log_eq 1000 (by decide) x0 x1, root_Root_eq 1000 (by decide), ref_Root_eq 1000 (by decide), root_Mean_eq 1000 (by decide) x0 x1 y0 y1, ref_Mean_eq 1000 (by decide) x0 x1 y0 y1]
  simp only [Option.bind_some, if_true, beq_self_eq_true]
end Go.Proofs.Ytlmjghmofgmofaa.Pure
