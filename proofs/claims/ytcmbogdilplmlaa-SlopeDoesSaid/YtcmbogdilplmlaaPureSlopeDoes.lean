/- An account has just this mean, spread and grade, as the reference tells. -/
import Derived.Test.YtcmbogdilplmlaaPx15
import Derived.Test.YtcmbogdilplmlaaS16
set_option linter.unusedVariables false
set_option linter.unusedSimpArgs false
namespace Go.Proofs.Ytcmbogdilplmlaa.Pure
open Go.RowKit Go.Proofs.Th Go.Proofs.YtcmbogdilplmlaaW.PrintWords Go.Proofs.YtcmbogdilplmlaaW.PrintMore Go.Proofs.Ytcmbogdilplmlaa.P
theorem SlopeDoes (a0 a1 a2 a3 a4 a5 a6 a7 a8 a9 a10 a11 a12 a13 a14 : Int) (_ : (Lit.int .i64 a0).wf = true) (_ : (Lit.int .i64 a1).wf = true) (_ : (Lit.int .i64 a2).wf = true) (_ : (Lit.int .i64 a3).wf = true) (_ : (Lit.int .i64 a4).wf = true) (_ : (Lit.int .i64 a5).wf = true) (_ : (Lit.int .i64 a6).wf = true) (_ : (Lit.int .i64 a7).wf = true) (_ : (Lit.int .i64 a8).wf = true) (_ : (Lit.int .i64 a9).wf = true) (_ : (Lit.int .i64 a10).wf = true) (_ : (Lit.int .i64 a11).wf = true) (_ : (Lit.int .i64 a12).wf = true) (_ : (Lit.int .i64 a13).wf = true) (_ : (Lit.int .i64 a14).wf = true) : ∃ k, P.pacemakerlaw10_SlopeDoes.f k a0 a1 a2 a3 a4 a5 a6 a7 a8 a9 a10 a11 a12 a13 a14 = some true := by
  refine ⟨1000, ?_⟩
  obtain ⟨m, m1, m2⟩ := refMean_is a0 a1 a2 a3 a4 a5 a6 a7 a8 a9 a10 a11 a12 a13 a14 1000 (by decide)
  obtain ⟨d, d1, d2⟩ := refDev_is a0 a1 a2 a3 a4 a5 a6 a7 a8 a9 a10 a11 a12 a13 a14 1000 (by decide)
  obtain ⟨g, g1, g2⟩ := refGrade_is a0 a1 a2 a3 a4 a5 a6 a7 a8 a9 a10 a11 a12 a13 a14 1000 (by decide)
  unfold P.pacemakerlaw10_SlopeDoes.f
  rw [fitted_eq 1000 (by decide), m1, m2, d1, d2, g1, g2]
  simp only [Option.bind_some, if_true, beq_self_eq_true]
end Go.Proofs.Ytcmbogdilplmlaa.Pure
