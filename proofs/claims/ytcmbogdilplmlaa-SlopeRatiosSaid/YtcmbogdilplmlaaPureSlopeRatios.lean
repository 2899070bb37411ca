/- Two numbers are just so much by one another, as the reference tells. -/
import Derived.Test.YtcmbogdilplmlaaPx9
import Derived.Test.YtcmbogdilplmlaaS15
set_option linter.unusedVariables false
set_option linter.unusedSimpArgs false
namespace Go.Proofs.Ytcmbogdilplmlaa.Pure
open Go.RowKit Go.Proofs.Th Go.Proofs.YtcmbogdilplmlaaW.PrintWords Go.Proofs.YtcmbogdilplmlaaW.PrintMore Go.Proofs.Ytcmbogdilplmlaa.P
theorem SlopeRatios (a0 a1 b0 b1 : Int) (w0 : (Lit.int .u64 a0).wf = true) (w1 : (Lit.int .u64 a1).wf = true) (w2 : (Lit.int .u64 b0).wf = true) (w3 : (Lit.int .u64 b1).wf = true) :
    ∃ k, P.pacemakerlaw10_SlopeRatios.f k a0 a1 b0 b1 = some true := by
  obtain ⟨h0, h1⟩ := wf_u64 w0
  obtain ⟨l0, l1⟩ := wf_u64 w1
  obtain ⟨x0, x1⟩ := wf_u64 w2
  obtain ⟨y0, y1⟩ := wf_u64 w3
  refine ⟨1000, ?_⟩
  have e : slope_Ratio.f a0 a1 b0 b1 = some (ratioI (W a0 a1) (W b0 b1)) := by
    unfold slope_Ratio.f
    rw [if_pos ⟨h0, h1, l0, l1, x0, x1, y0, y1⟩]
  unfold P.pacemakerlaw10_SlopeRatios.f
  rw [fitted_eq 1000 (by decide)]
  simp only [Option.bind_some, if_true]
  rw [e, refRatio_eq 1000 (by decide) h0 h1 l0 l1 x0 x1 y0 y1]
  simp only [Option.bind_some, beq_self_eq_true]
end Go.Proofs.Ytcmbogdilplmlaa.Pure
