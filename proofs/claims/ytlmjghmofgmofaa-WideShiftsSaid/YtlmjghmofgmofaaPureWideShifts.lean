/- A number is shifted both ways, and has as many bits, just as the reference tells. -/
import Derived.Test.YtlmjghmofgmofaaPx14
import Derived.Test.YtlmjghmofgmofaaSb
import Derived.Test.YtlmjghmofgmofaaSr
set_option linter.unusedVariables false
set_option linter.unusedSimpArgs false
namespace Go.Proofs.Ytlmjghmofgmofaa.Pure
open Go.RowKit Go.Proofs.Th Go.Proofs.YtlmjghmofgmofaaW.PrintWords Go.Proofs.YtlmjghmofgmofaaW.PrintMore Go.Proofs.Ytlmjghmofgmofaa.P
theorem WideShifts (a0 a1 n : Int) (w0 : (Lit.int .u64 a0).wf = true) (w1 : (Lit.int .u64 a1).wf = true) (w2 : (Lit.int .i64 n).wf = true) :
    ∃ k, P.pacemakerlaw01_WideShifts.f k a0 a1 n = some true := by
  obtain ⟨h0, h1⟩ := wf_u64 w0
  obtain ⟨l0, l1⟩ := wf_u64 w1
  obtain ⟨n0, n1⟩ := wf_i64 w2
  refine ⟨1000, ?_⟩
  unfold P.pacemakerlaw01_WideShifts.f
  rw [broad_eq 1000 (by decide)]
  simp only [Option.bind_some, if_true]
  by_cases hn : n < 0
  · rw [wide_Left_neg hn, ref_Left_neg 1000 hn, wide_Right_neg hn, ref_Right_neg 1000 hn]
    simp only [Option.bind_some, beq_self_eq_true, Bool.and_self, if_true]
    rw [wide_Len_eq 1000 (by decide) h0 h1 l0 l1, ref_Len_eq 1000 (by decide) h0 h1 l0 l1]
    simp
  · rw [wide_Left_eq (by omega) n1 h0 h1 l0 l1, ref_Left_eq 1000 (by decide) (by omega) h0 h1 l0 l1, wide_Right_eq (by omega) n1 h0 h1 l0 l1, ref_Right_eq 1000 (by decide) (by omega) h0 h1 l0 l1]
    simp only [Option.bind_some, beq_self_eq_true, Bool.and_self, if_true]
    rw [wide_Len_eq 1000 (by decide) h0 h1 l0 l1, ref_Len_eq 1000 (by decide) h0 h1 l0 l1]
    simp
end Go.Proofs.Ytlmjghmofgmofaa.Pure
