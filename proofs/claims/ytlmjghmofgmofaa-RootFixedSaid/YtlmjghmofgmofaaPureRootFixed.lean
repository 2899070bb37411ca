/- The root of a fixed number, times itself, is not above it, and that of one part more is; of a square it is the number. -/
import Derived.Test.YtlmjghmofgmofaaPx25
import Derived.Test.YtlmjghmofgmofaaSrb
set_option linter.unusedVariables false
set_option linter.unusedSimpArgs false
namespace Go.Proofs.Ytlmjghmofgmofaa.Pure
open Go.RowKit Go.Proofs.Th Go.Proofs.YtlmjghmofgmofaaW.PrintWords Go.Proofs.YtlmjghmofgmofaaW.PrintMore Go.Proofs.Ytlmjghmofgmofaa.P
theorem of_eq (n : Int) : fix_Of.f n = some (max (-4398046511104) (min n 4398046511104) * 1048576) := by
  unfold fix_Of.f mx mn
  congr 2
  omega
theorem fixed_j1 {a : Int} (k : Nat) (hk : 100 ≤ k) (h0 : 0 < a) : P.pacemakerlaw03_RootFixed.j1 k a false = some true := by
  obtain ⟨k, rfl⟩ : ∃ m, k = m + 1 := ⟨k - 1, by omega⟩
  simp only [P.pacemakerlaw03_RootFixed.j1]
  rw [if_neg (by decide), rooted_eq k (by omega), Int.tmod_eq_emod_of_nonneg (by omega)]
  simp only [Option.bind_some, if_true]
  have n0 : 0 ≤ a % 2097152 := Int.emod_nonneg _ (by decide)
  have n1 : a % 2097152 ≤ 2097151 := by omega
  generalize a % 2097152 = n at *
  have p0 : 0 ≤ n * n := Int.mul_nonneg n0 n0
  have p1 : n * n ≤ 2097151 * 2097151 := Int.mul_le_mul n1 n1 n0 (by decide)
  rw [wrap64_id (by omega) (by omega), of_eq, of_eq, show max (-4398046511104) (min (n * n) 4398046511104) = n * n by omega, show max (-4398046511104) (min n 4398046511104) = n by omega]
  simp only [Option.bind_some]
  rw [root_Root_eq k (by omega)]
  simp only [Option.bind_some]
  by_cases hn : n = 0
  · subst hn; rfl
  · have hpos : 0 < n * n := by
      have : 1 * 1 ≤ n * n := Int.mul_le_mul (by omega) (by omega) (by decide) n0
      omega
    rw [if_neg (by omega), show min (n * n * 1048576) 4611686018427387904 = n * n * 1048576 by omega]
    have e : isq (n * n * 1048576 * 1048576) = n * 1048576 := by
      have e1 : n * 1048576 * (n * 1048576) = n * n * 1048576 * 1048576 := by grind
      have e2 : (n * 1048576 + 1) * (n * 1048576 + 1) = n * n * 1048576 * 1048576 + 2 * (n * 1048576) + 1 := by grind
      exact isq_eq (by omega) (by omega) (by omega)
    rw [e]
    simp
theorem RootFixed (a : Int) (w0 : (Lit.int .i64 a).wf = true) : ∃ k, P.pacemakerlaw03_RootFixed.f k a = some true := by
  obtain ⟨h0, h1⟩ := wf_i64 w0
  refine ⟨1000, ?_⟩
  unfold P.pacemakerlaw03_RootFixed.f
  rw [root_Root_eq 1000 (by decide)]
  simp only [Option.bind_some]
  by_cases hz : a ≤ 0
  · rw [if_pos hz, if_pos hz, rooted_eq 1000 (by decide)]
    simp
  · rw [if_neg hz, if_neg hz]
    generalize hc : min a 4611686018427387904 = c
    have c0 : 0 < c := by omega
    have c1 : c ≤ 4611686018427387904 := by omega
    have sle := isq_le (a := c * 1048576) (by omega)
    have slt := isq_lt (a := c * 1048576) (by omega)
    have s0 := isq_nn (c * 1048576)
    have s1 := isq_lt_of (a := c * 1048576) (s := 2199023255553) (by omega) (by decide) (by omega)
    generalize isq (c * 1048576) = s at *
    have q0 : 0 ≤ s * s := Int.mul_nonneg s0 s0
    rw [if_neg (by omega), decide_eq_false (by omega)]
    obtain ⟨k, hk⟩ : ∃ k : Nat, (1000 : Nat) = k + 1 := ⟨999, rfl⟩
    rw [hk]
    simp only [P.pacemakerlaw03_RootFixed.j0]
    rw [if_neg (by decide), clamp_eq]
    simp only [Option.bind_some]
    rw [show max (-4611686018427387904) (min a 4611686018427387904) = c by omega, wrap64_id (x := s + 1) (by omega) (by omega), u64_id (x := c) (by omega) (by omega), u64_id (x := s) (by omega) (by omega), u64_id (x := s + 1) (by omega) (by omega)]
    rw [wide_Mul_eq (x := c) (by omega) (by omega) (by decide) (by decide), wide_Mul_eq s0 (by omega) s0 (by omega), wide_Mul_eq (x := s + 1) (by omega) (by omega) (by omega) (by omega)]
    simp only [Option.bind_some]
    rw [wide_Cmp_eq (lo_nn _) (lo_lt _) (lo_nn _) (lo_lt _), wide_Cmp_eq (lo_nn _) (lo_lt _) (lo_nn _) (lo_lt _), W_hl, W_hl, W_hl]
    simp only [Option.bind_some]
    have k1 : ¬ (if s * s < c * 1048576 then (-1 : Int) else if c * 1048576 < s * s then 1 else 0) > 0 := by
      split
      · decide
      · rw [if_neg (by omega)]; decide
    rw [if_neg k1, if_neg (show ¬ (s + 1) * (s + 1) < c * 1048576 by omega), if_pos slt, decide_eq_false (by decide)]
    exact fixed_j1 k (by omega) (by omega)
end Go.Proofs.Ytlmjghmofgmofaa.Pure
