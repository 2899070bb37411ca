/- The power of a logarithm is the number, or less by no more than its 1048576th part, and two parts. -/
import Derived.Test.YtpfhlimcemkneaaPx8
import Derived.Test.YtpfhlimcemkneaaEt
set_option linter.unusedVariables false
set_option linter.unusedSimpArgs false
namespace Go.Proofs.Ytpfhlimcemkneaa.Pure
open Go.RowKit Go.Proofs.Th Go.Proofs.Ee Go.Proofs.YtpfhlimcemkneaaW.PrintWords Go.Proofs.YtpfhlimcemkneaaW.PrintMore Go.Proofs.Ytpfhlimcemkneaa.P
theorem ExpoBack : P.pacemakerlaw04_ExpoBack.Pure := by
  intro a w0
  refine ⟨200, ?_⟩
  unfold P.pacemakerlaw04_ExpoBack.f
  rw [Log2_eq 200 (by decide)]
  simp only [Option.bind_some]
  by_cases h : a ≤ 0
  · have e : L a = -4611686018427387904 := by unfold L; rw [if_pos h]
    rw [if_pos h, powered_eq 200 (by decide)]
    simp only [Option.bind_some]
    rw [if_pos trivial, if_pos e, Exp2_eq 200 (by decide), e, E_low (by decide)]
    rfl
  · have e : L a = Lg (min a 4611686018427387904) := by unfold L; rw [if_neg h]
    rw [if_neg h, clamp_eq]
    simp only [Option.bind_some]
    rw [Exp2_eq 200 (by decide), e, show max (-4611686018427387904) (min a 4611686018427387904) = min a 4611686018427387904 by omega]
    simp only [Option.bind_some]
    rw [powered_eq 200 (by decide)]
    simp only [Option.bind_some]
    rw [if_pos trivial]
    have c0 : 0 < min a 4611686018427387904 := by omega
    have c1 : min a 4611686018427387904 ≤ 4611686018427387904 := by omega
    generalize min a 4611686018427387904 = c at *
    have hb : E (Lg c) ≤ c ∧ c - c / 1048576 - 2 ≤ E (Lg c) := by
      by_cases ht : c = 4611686018427387904
      · subst ht
        rw [Lg_top, E_high (by decide)]
        decide
      · exact back c0 (by omega)
    rw [if_pos hb.1, Int.tdiv_eq_ediv_of_nonneg (by omega), wrap64_id (x := c / 1048576) (by omega) (by omega), wrap64_id (x := c - c / 1048576) (by omega) (by omega), wrap64_id (x := c - c / 1048576 - 2) (by omega) (by omega), decide_eq_true hb.2]
end Go.Proofs.Ytpfhlimcemkneaa.Pure
