/- A product divided by one of both is the other one, with what is added below it left over. -/
import Derived.Test.YtlmjghmofgmofaaPx11
import Derived.Test.YtlmjghmofgmofaaSb
set_option linter.unusedVariables false
set_option linter.unusedSimpArgs false
namespace Go.Proofs.Ytlmjghmofgmofaa.Pure
open Go.RowKit Go.Proofs.Th Go.Proofs.YtlmjghmofgmofaaW.PrintWords Go.Proofs.YtlmjghmofgmofaaW.PrintMore Go.Proofs.Ytlmjghmofgmofaa.P
theorem WideWhole (a0 a1 x y m : Int) (w0 : (Lit.int .u64 a0).wf = true) (w1 : (Lit.int .u64 a1).wf = true) (w2 : (Lit.int .u64 x).wf = true) (w3 : (Lit.int .u64 y).wf = true) (w4 : (Lit.int .u64 m).wf = true) :
    ∃ k, P.pacemakerlaw01_WideWhole.f k a0 a1 x y m = some true := by
  obtain ⟨h0, h1⟩ := wf_u64 w0
  obtain ⟨l0, l1⟩ := wf_u64 w1
  obtain ⟨x0, x1⟩ := wf_u64 w2
  obtain ⟨y0, y1⟩ := wf_u64 w3
  obtain ⟨m0, m1⟩ := wf_u64 w4
  refine ⟨1000, ?_⟩
  unfold P.pacemakerlaw01_WideWhole.f
  by_cases hy : y = 0
  · subst hy
    rw [wide_Div_zero]
    simp only [Option.bind_some, if_true]
    rw [broad_eq 1000 (by decide)]
    simp
  · have r0 : 0 ≤ m % y := Int.emod_nonneg _ hy
    have r1 : m % y < y := Int.emod_lt_of_pos _ (by omega)
    have p0 : 0 ≤ x * y := Int.mul_nonneg x0 y0
    have p1 : x * y ≤ 18446744073709551615 * y := Int.mul_le_mul_of_nonneg_right (by omega) y0
    rw [wide_Div_eq 1000 (by decide) h0 h1 l0 l1 (by omega) y1]
    simp only [Option.bind_some]
    rw [if_neg hy, wide_Mul_eq x0 x1 y0 y1, Int.tmod_eq_emod_of_nonneg m0]
    simp only [Option.bind_some]
    rw [wide_Add_eq (hi_nn p0) (hi_lt (by omega)) (lo_nn _) (lo_lt _) (by decide) (by decide) r0 (by omega)]
    simp only [Option.bind_some]
    have e0 : W 0 (m % y) = m % y := by unfold W; omega
    rw [W_hl, e0, Int.emod_eq_of_lt (a := x * y + m % y) (by omega) (by omega)]
    rw [wide_Div_eq 1000 (by decide) (hi_nn (by omega)) (hi_lt (by omega)) (lo_nn _) (lo_lt _) (by omega) y1]
    simp only [Option.bind_some]
    rw [broad_eq 1000 (by decide), W_hl]
    have e1 : (x * y + m % y) / y = x := by rw [Int.add_comm, Int.add_mul_ediv_right _ _ hy, Int.ediv_eq_zero_of_lt r0 r1]; omega
    have e2 : (x * y + m % y) % y = m % y := by rw [Int.add_comm, Int.add_mul_emod_self_right, Int.emod_eq_of_lt r0 r1]
    have e3 : (x * y + m % y) / 340282366920938463463374607431768211456 = 0 := Int.ediv_eq_zero_of_lt (by omega) (by omega)
    have e4 : hi64 x = 0 := by unfold hi64; omega
    have e5 : lo64 x = x := by unfold lo64; omega
    rw [e1, e2, e3, e4, e5]
    simp only [Option.bind_some, if_true, beq_self_eq_true, Bool.and_self]
    rw [if_pos (Int.emod_lt_of_pos _ (by omega))]
end Go.Proofs.Ytlmjghmofgmofaa.Pure
