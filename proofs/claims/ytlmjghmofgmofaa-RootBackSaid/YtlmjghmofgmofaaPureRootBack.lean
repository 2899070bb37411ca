/- A root of a square is the number, of less than the next square, too; it grows with what it is taken of. -/
import Derived.Test.YtlmjghmofgmofaaPx26
import Derived.Test.YtlmjghmofgmofaaSrb
set_option linter.unusedVariables false
set_option linter.unusedSimpArgs false
namespace Go.Proofs.Ytlmjghmofgmofaa.Pure
open Go.RowKit Go.Proofs.Th Go.Proofs.YtlmjghmofgmofaaW.PrintWords Go.Proofs.YtlmjghmofgmofaaW.PrintMore Go.Proofs.Ytlmjghmofgmofaa.P
theorem back_j0 {h l h' l' : Int} (k : Nat) (hk : 200 ≤ k) (a0 : 0 ≤ h) (a1 : h < 18446744073709551616) (b0 : 0 ≤ l) (b1 : l < 18446744073709551616) (c0 : 0 ≤ h') (c1 : h' < 18446744073709551616) (d0 : 0 ≤ l') (d1 : l' < 18446744073709551616) :
    P.pacemakerlaw03_RootBack.j0 k false h l h' l' = some true := by
  obtain ⟨k, rfl⟩ : ∃ m, k = m + 1 := ⟨k - 1, by omega⟩
  simp only [P.pacemakerlaw03_RootBack.j0]
  rw [if_neg (by decide), rooted_eq k (by omega)]
  simp only [Option.bind_some, if_true]
  rw [wide_Cmp_eq b0 b1 d0 d1]
  simp only [Option.bind_some]
  rw [root_Sqrt_eq k (by omega) b0 b1, root_SqrtWide_eq k (by omega) (by decide) (by decide) b0 b1, W0, root_SqrtWide_eq k (by omega) a0 a1 b0 b1, root_SqrtWide_eq k (by omega) c0 c1 d0 d1]
  simp only [Option.bind_some, beq_self_eq_true]
  by_cases hlt : W h' l' < W h l
  · have hpo : (if W h l < W h' l' then (-1 : Int) else if W h' l' < W h l then 1 else 0) > 0 := by
      rw [if_neg (by omega), if_pos hlt]; decide
    rw [if_pos hpo]
  · have hng : ¬ (if W h l < W h' l' then (-1 : Int) else if W h' l' < W h l then 1 else 0) > 0 := by
      split
      · decide
      · decide
    rw [if_neg hng, if_pos (isq_mono (W_nn a0 b0) (by omega))]
theorem RootBack (x a0 a1 b0 b1 : Int) (w0 : (Lit.int .u64 x).wf = true) (w1 : (Lit.int .u64 a0).wf = true) (w2 : (Lit.int .u64 a1).wf = true) (w3 : (Lit.int .u64 b0).wf = true) (w4 : (Lit.int .u64 b1).wf = true) :
    ∃ k, P.pacemakerlaw03_RootBack.f k x a0 a1 b0 b1 = some true := by
  obtain ⟨x0, x1⟩ := wf_u64 w0
  obtain ⟨h0, h1⟩ := wf_u64 w1
  obtain ⟨l0, l1⟩ := wf_u64 w2
  obtain ⟨u0, u1⟩ := wf_u64 w3
  obtain ⟨v0, v1⟩ := wf_u64 w4
  refine ⟨1000, ?_⟩
  have p0 : 0 ≤ x * x := Int.mul_nonneg x0 x0
  have p1 : x * x ≤ 18446744073709551615 * 18446744073709551615 := Int.mul_le_mul (by omega) (by omega) x0 (by decide)
  have e1 : (x + 1) * (x + 1) = x * x + 2 * x + 1 := by grind
  unfold P.pacemakerlaw03_RootBack.f
  rw [wide_Mul_eq x0 x1 x0 x1]
  simp only [Option.bind_some]
  rw [wide_Add_eq (hi_nn p0) (hi_lt (by omega)) (lo_nn _) (lo_lt _) (by decide) (by decide) x0 x1, W_hl, W0, Int.emod_eq_of_lt (a := x * x + x) (by omega) (by omega)]
  simp only [Option.bind_some]
  rw [wide_Add_eq (hi_nn (by omega)) (hi_lt (by omega)) (lo_nn _) (lo_lt _) (by decide) (by decide) x0 x1, W_hl, W0, Int.emod_eq_of_lt (a := x * x + x + x) (by omega) (by omega)]
  simp only [Option.bind_some]
  rw [root_SqrtWide_eq 1000 (by decide) (hi_nn p0) (hi_lt (by omega)) (lo_nn _) (lo_lt _), root_SqrtWide_eq 1000 (by decide) (hi_nn (v := x * x + x) (by omega)) (hi_lt (by omega)) (lo_nn _) (lo_lt _), root_SqrtWide_eq 1000 (by decide) (hi_nn (v := x * x + x + x) (by omega)) (hi_lt (by omega)) (lo_nn _) (lo_lt _), W_hl, W_hl, W_hl]
  simp only [Option.bind_some]
  rw [isq_eq (a := x * x) x0 (by omega) (by omega), isq_eq (a := x * x + x) x0 (by omega) (by omega), isq_eq (a := x * x + x + x) x0 (by omega) (by omega), if_pos rfl, if_pos rfl, show (x != x) = false by simp]
  exact back_j0 1000 (by decide) h0 h1 l0 l1 u0 u1 v0 v1
end Go.Proofs.Ytlmjghmofgmofaa.Pure
