/- A root's square is not above the number, and that of one more is; so is a power of two, and twice that. -/
import Derived.Test.YtlmjghmofgmofaaPx22
import Derived.Test.YtlmjghmofgmofaaSrb
set_option linter.unusedVariables false
set_option linter.unusedSimpArgs false
namespace Go.Proofs.Ytlmjghmofgmofaa.Pure
open Go.RowKit Go.Proofs.Th Go.Proofs.YtlmjghmofgmofaaW.PrintWords Go.Proofs.YtlmjghmofgmofaaW.PrintMore Go.Proofs.Ytlmjghmofgmofaa.P
theorem sq_le_M {a : Int} (h0 : 0 ≤ a) (h1 : a < 18446744073709551616) : 0 ≤ a * a ∧ a * a < 340282366920938463463374607431768211456 := by
  refine ⟨Int.mul_nonneg h0 h0, ?_⟩
  have : a * a ≤ 18446744073709551615 * 18446744073709551615 := Int.mul_le_mul (by omega) (by omega) h0 (by decide)
  omega
theorem squares_j0 {h l : Int} (k : Nat) (hk : 200 ≤ k) (b0 : 0 ≤ l) (b1 : l < 18446744073709551616) : P.pacemakerlaw03_RootSquares.j0 k false h l = some true := by
  obtain ⟨k, rfl⟩ : ∃ m, k = m + 1 := ⟨k - 1, by omega⟩
  simp only [P.pacemakerlaw03_RootSquares.j0]
  rw [if_neg (by decide), root_Log_eq k (by omega) b0 b1, rooted_eq k (by omega)]
  simp only [Option.bind_some, if_true]
  by_cases hz : l = 0
  · subst hz; rw [if_pos rfl, blen_zero]; rfl
  · rw [if_neg hz]
    have hp := blen_pos (v := l) (by omega) (by omega)
    have hb := blen_le (v := l) (b := 64) b0 (by omega) (by rw [show (2 : Int) ^ 64 = 18446744073709551616 from rfl]; omega)
    have g1 := blen_lt (v := l) b0 (by omega)
    have g2 := blen_ge (v := l) (by omega) (by omega)
    obtain ⟨n, hn⟩ : ∃ n : Nat, blen l = n + 1 := ⟨blen l - 1, by omega⟩
    have pn := two_pow_pos n
    have hpow : (2 : Int) ^ (n + 1) = 2 * 2 ^ n := by rw [Int.pow_succ]; omega
    rw [hn] at g1 g2
    have q1 := pow_le64 (n := n) (by omega)
    have e1 : W 0 1 = 1 := rfl
    rw [hn, show ((n + 1 : Nat) : Int) - 1 = (n : Int) by omega, if_pos (by omega), if_pos (by omega), wide_Left_eq (by omega) (by omega) (by decide) (by decide) (by decide) (by decide), wide_Left_eq (n := wrap64 ((n : Int) + 1)) (by rw [wrap64_id (by omega) (by omega)]; omega) (by rw [wrap64_id (by omega) (by omega)]; omega) (by decide) (by decide) (by decide) (by decide)]
    simp only [Option.bind_some]
    rw [wrap64_id (by omega) (by omega), Int.toNat_natCast, show ((n : Int) + 1).toNat = n + 1 by omega, e1, Int.one_mul, Int.one_mul, Int.emod_eq_of_lt (a := 2 ^ n) (by omega) (by omega), Int.emod_eq_of_lt (a := 2 ^ (n + 1)) (by omega) (by omega)]
    rw [wide_Cmp_eq (lo_nn _) (lo_lt _) b0 b1, wide_Cmp_eq (lo_nn _) (lo_lt _) b0 b1, W_hl, W_hl, W0]
    simp only [Option.bind_some]
    have c1 : (if (2 : Int) ^ n < l then (-1 : Int) else if l < 2 ^ n then 1 else 0) ≤ 0 := by
      split
      · decide
      · rw [if_neg (by omega)]; decide
    have c2 : (if (2 : Int) ^ (n + 1) < l then (-1 : Int) else if l < 2 ^ (n + 1) then 1 else 0) > 0 := by
      rw [if_neg (by omega), if_pos (by omega)]; decide
    rw [if_pos c1, decide_eq_true c2]
theorem RootSquares (a0 a1 : Int) (w0 : (Lit.int .u64 a0).wf = true) (w1 : (Lit.int .u64 a1).wf = true) :
    ∃ k, P.pacemakerlaw03_RootSquares.f k a0 a1 = some true := by
  obtain ⟨h0, h1⟩ := wf_u64 w0
  obtain ⟨l0, l1⟩ := wf_u64 w1
  refine ⟨1000, ?_⟩
  have v0 := W_nn h0 l0; have v1 := W_lt h1 l1
  have s0 := isq_nn (W a0 a1)
  have s1 := isq_lt64 v0 v1
  have sle := isq_le v0
  have slt := isq_lt v0
  have p := sq_le_M s0 s1
  unfold P.pacemakerlaw03_RootSquares.f
  rw [root_SqrtWide_eq 1000 (by decide) h0 h1 l0 l1]
  simp only [Option.bind_some]
  rw [wide_Mul_eq s0 s1 s0 s1]
  simp only [Option.bind_some]
  rw [wide_Cmp_eq (lo_nn _) (lo_lt _) l0 l1, W_hl]
  simp only [Option.bind_some]
  have c1 : ¬ (if isq (W a0 a1) * isq (W a0 a1) < W a0 a1 then (-1 : Int) else if W a0 a1 < isq (W a0 a1) * isq (W a0 a1) then 1 else 0) > 0 := by
    split
    · decide
    · rw [if_neg (by omega)]; decide
  rw [if_neg c1]
  by_cases hs : isq (W a0 a1) < 18446744073709551615
  · rw [if_pos hs, u64_id (x := isq (W a0 a1) + 1) (by omega) (by omega), wide_Mul_eq (by omega) (by omega) (by omega) (by omega)]
    simp only [Option.bind_some]
    rw [wide_Cmp_eq (lo_nn _) (lo_lt _) l0 l1, W_hl, if_neg (show ¬ (isq (W a0 a1) + 1) * (isq (W a0 a1) + 1) < W a0 a1 by omega), if_pos slt]
    simp only [Option.bind_some]
    exact squares_j0 1000 (by decide) l0 l1
  · rw [if_neg hs]
    exact squares_j0 1000 (by decide) l0 l1
end Go.Proofs.Ytlmjghmofgmofaa.Pure
