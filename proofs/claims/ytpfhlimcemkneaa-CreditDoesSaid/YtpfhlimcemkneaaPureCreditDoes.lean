/- A credit is right, begins, is filled, taken from and waited for just as the reference tells. -/
import Derived.Test.YtpfhlimcemkneaaPx29
import Derived.Test.YtpfhlimcemkneaaCrr
set_option linter.unusedVariables false
set_option linter.unusedSimpArgs false
namespace Go.Proofs.Ytpfhlimcemkneaa.Pure
open Go.RowKit Go.Proofs.Th Go.Proofs.YtpfhlimcemkneaaW.PrintWords Go.Proofs.YtpfhlimcemkneaaW.PrintMore Go.Proofs.Ytpfhlimcemkneaa.P
theorem CreditDoes (b t h r u s : Int) (w0 : (Lit.int .i64 b).wf = true) (w1 : (Lit.int .i64 t).wf = true) (w2 : (Lit.int .i64 h).wf = true) (w3 : (Lit.int .i64 r).wf = true) (w4 : (Lit.int .i64 u).wf = true) (w5 : (Lit.int .i64 s).wf = true) :
    ∃ k, P.pacemakerlaw25_CreditDoes.f k b t h r u s = some true := by
  obtain ⟨h0, h1⟩ := wf_i64 w2
  obtain ⟨r0, r1⟩ := wf_i64 w3
  obtain ⟨s0, s1⟩ := wf_i64 w5
  refine ⟨1000, ?_⟩
  unfold P.pacemakerlaw25_CreditDoes.f
  rw [credit_New_eq 1000 (by decide), rNew_eq 1000 (by decide), credit_Fill_eq 1000 (by decide), rFill_eq 1000 (by decide), credit_Take_eq 1000 (by decide), rTake_eq, credited_eq 1000 (by decide), credit_Is_eq, rIs_eq, credit_Wait_eq 1000 (by decide) h0 h1 r1 s1, rWait_eq 1000 (by decide) h0 h1 r1 s1]
  simp only [Option.bind_some, if_true, beq_self_eq_true, Bool.and_self]
end Go.Proofs.Ytpfhlimcemkneaa.Pure
