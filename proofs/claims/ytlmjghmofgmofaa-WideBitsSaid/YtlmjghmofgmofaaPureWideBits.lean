/- A number has as many bits as it is shifted to be none; shifted to the left and back it is the same, if none is lost; shifted by one it is twice itself. -/
import Derived.Test.YtlmjghmofgmofaaPx18
import Derived.Test.YtlmjghmofgmofaaSb
set_option linter.unusedVariables false
set_option linter.unusedSimpArgs false
namespace Go.Proofs.Ytlmjghmofgmofaa.Pure
open Go.RowKit Go.Proofs.Th Go.Proofs.YtlmjghmofgmofaaW.PrintWords Go.Proofs.YtlmjghmofgmofaaW.PrintMore Go.Proofs.Ytlmjghmofgmofaa.P
theorem shl_mod {v : Int} {n m : Nat} (h : n + m = 128) : v * 2 ^ n % 340282366920938463463374607431768211456 = v % 2 ^ m * 2 ^ n := by
  have e : (340282366920938463463374607431768211456 : Int) = 2 ^ n * 2 ^ m := by rw [← Int.pow_add, h]; rfl
  rw [e, Int.mul_comm v, Int.mul_emod_mul_of_pos _ _ (two_pow_pos n), Int.mul_comm]
theorem shl_zero {v : Int} {n : Nat} (h : 128 ≤ n) : v * 2 ^ n % 340282366920938463463374607431768211456 = 0 := by
  rw [show n = (n - 128) + 128 by omega, Int.pow_add, show (2 : Int) ^ 128 = 340282366920938463463374607431768211456 from rfl, ← Int.mul_assoc]
  exact Int.mul_emod_left _ _
theorem hl_beq {u h l : Int} (l0 : 0 ≤ l) (l1 : l < 18446744073709551616) : (hi64 u == h && (lo64 u == l)) = decide (u = W h l) := by
  rw [Bool.eq_iff_iff]
  simp only [Bool.and_eq_true, beq_iff_eq, decide_eq_true_eq]
  constructor
  · rintro ⟨rfl, rfl⟩; exact (W_hl u).symm
  · rintro rfl; exact ⟨hi_W l0 l1, lo_W l0 l1⟩
theorem bits_j1 {h l n : Int} (k : Nat) (hk : 200 ≤ k) (a0 : 0 ≤ h) (a1 : h < 18446744073709551616) (b0 : 0 ≤ l) (b1 : l < 18446744073709551616) (n0 : -9223372036854775808 ≤ n) (n1 : n ≤ 9223372036854775807) (b : Bool) (hb : b = decide (n < 0 ∨ 127 < n)) :
    P.pacemakerlaw01_WideBits.j1 k n (blen (W h l)) b h l 0 0 = some true := by
  obtain ⟨k, rfl⟩ : ∃ m, k = m + 1 := ⟨k - 1, by omega⟩
  have w0 := W_nn a0 b0; have w1 := W_lt a1 b1
  simp only [P.pacemakerlaw01_WideBits.j1]
  rw [broad_eq k (by omega)]
  simp only [Option.bind_some, if_true]
  by_cases hn : n < 0
  · rw [if_pos (by rw [hb]; simp [hn]), if_pos hn, wide_Left_neg hn]
    simp
  · by_cases hn2 : 127 < n
    · rw [if_pos (by rw [hb]; simp [hn2]), if_neg hn, if_pos (by omega), wide_Left_eq (by omega) n1 a0 a1 b0 b1, shl_zero (by omega)]
      rfl
    · obtain ⟨m, rfl⟩ := Int.eq_ofNat_of_zero_le (show 0 ≤ n by omega)
      have hp := two_pow_pos m
      have e1 : W h l * 2 ^ m % 340282366920938463463374607431768211456 = W h l % 2 ^ (128 - m) * 2 ^ m := shl_mod (by omega)
      have k0 := mod_nn (W h l) (128 - m)
      have k1 := mod_lt (W h l) (128 - m)
      have k2 := pow_le128 (n := 128 - m) (by omega)
      have e2 : W h l % 2 ^ (128 - m) * 2 ^ m / 2 ^ m = W h l % 2 ^ (128 - m) := Int.mul_ediv_cancel _ (by omega)
      have x0 : 0 ≤ W h l * 2 ^ m % 340282366920938463463374607431768211456 := by omega
      have x1 : W h l * 2 ^ m % 340282366920938463463374607431768211456 < 340282366920938463463374607431768211456 := by omega
      have kle : W h l % 2 ^ (128 - m) ≤ W h l := by
        have q1 := Int.mul_ediv_add_emod (W h l) (2 ^ (128 - m))
        have q2 : 0 ≤ 2 ^ (128 - m) * (W h l / 2 ^ (128 - m)) := Int.mul_nonneg (Int.le_of_lt (two_pow_pos _)) (Int.ediv_nonneg w0 (Int.le_of_lt (two_pow_pos _)))
        omega
      rw [if_neg (by rw [hb]; simp; omega), wide_Left_eq (by omega) n1 a0 a1 b0 b1]
      simp only [Option.bind_some]
      rw [Int.toNat_natCast, wide_Right_eq (by omega) n1 (hi_nn x0) (hi_lt x1) (lo_nn _) (lo_lt _), W_hl, Int.toNat_natCast, e1, e2]
      simp only [Option.bind_some]
      rw [hl_beq b0 b1, wrap64_id (by omega) (by omega)]
      have iff1 : decide (W h l % 2 ^ (128 - m) = W h l) = decide ((blen (W h l) : Int) ≤ 128 - (m : Int)) := by
        rw [decide_eq_decide]
        constructor
        · intro e
          have := blen_le w0 w1 (b := 128 - m) (by omega)
          omega
        · intro e
          have h1 := blen_lt w0 w1
          have h2 := (pow_le_pow_iff (a := blen (W h l)) (b := 128 - m)).2 (by omega)
          exact Int.emod_eq_of_lt w0 (by omega)
      rw [iff1, if_pos (by simp), wide_Cmp_eq (lo_nn _) (lo_lt _) b0 b1, W_hl]
      simp only [Option.bind_some]
      congr 1
      rw [decide_eq_true_iff]
      split
      · decide
      · rw [if_neg (by omega)]; decide
theorem bits_j0 {h l n : Int} (k : Nat) (hk : 300 ≤ k) (a0 : 0 ≤ h) (a1 : h < 18446744073709551616) (b0 : 0 ≤ l) (b1 : l < 18446744073709551616) (n0 : -9223372036854775808 ≤ n) (n1 : n ≤ 9223372036854775807) :
    P.pacemakerlaw01_WideBits.j0 k n (blen (W h l)) false h l 0 0 = some true := by
  obtain ⟨k, rfl⟩ : ∃ m, k = m + 1 := ⟨k - 1, by omega⟩
  simp only [P.pacemakerlaw01_WideBits.j0]
  rw [if_neg (by decide), wide_Add_eq a0 a1 b0 b1 a0 a1 b0 b1, wide_Left_eq (by decide) (by decide) a0 a1 b0 b1]
  simp only [Option.bind_some]
  rw [show W h l * 2 ^ (1 : Int).toNat = W h l + W h l by rw [show (1 : Int).toNat = 1 from rfl, Int.pow_one]; omega]
  rw [if_neg (by simp)]
  by_cases hn : n < 0
  · rw [if_pos hn]; exact bits_j1 k (by omega) a0 a1 b0 b1 n0 n1 _ (by simp [hn])
  · rw [if_neg hn]; exact bits_j1 k (by omega) a0 a1 b0 b1 n0 n1 _ (by simp [hn])
theorem WideBits (a0 a1 n : Int) (w0 : (Lit.int .u64 a0).wf = true) (w1 : (Lit.int .u64 a1).wf = true) (w2 : (Lit.int .i64 n).wf = true) :
    ∃ k, P.pacemakerlaw01_WideBits.f k a0 a1 n = some true := by
  obtain ⟨h0, h1⟩ := wf_u64 w0
  obtain ⟨l0, l1⟩ := wf_u64 w1
  obtain ⟨n0, n1⟩ := wf_i64 w2
  refine ⟨1000, ?_⟩
  have v0 := W_nn h0 l0; have v1 := W_lt h1 l1
  have b128 := blen_128 v0 v1
  unfold P.pacemakerlaw01_WideBits.f
  rw [wide_Len_eq 1000 (by decide) h0 h1 l0 l1]
  simp only [Option.bind_some]
  rw [if_neg (by omega), if_neg (by omega), wide_Right_eq (by omega) (by omega) h0 h1 l0 l1, Int.toNat_natCast, Int.ediv_eq_zero_of_lt v0 (blen_lt v0 v1)]
  simp only [Option.bind_some]
  rw [if_neg (by decide)]
  by_cases hz : (blen (W a0 a1) : Int) > 0
  · have vp : 0 < W a0 a1 := by
      by_cases h : W a0 a1 = 0
      · rw [h, blen_zero] at hz; simp at hz
      · omega
    have e1 : W a0 a1 / 2 ^ (blen (W a0 a1) - 1) = 1 := by
      have g1 := blen_lt v0 v1
      have g2 := blen_ge vp v1
      have e : (2 : Int) ^ blen (W a0 a1) = 2 * 2 ^ (blen (W a0 a1) - 1) := by
        rw [show blen (W a0 a1) = (blen (W a0 a1) - 1) + 1 by omega, Int.pow_succ]
        simp only [Nat.add_sub_cancel]
        omega
      have hp := two_pow_pos (blen (W a0 a1) - 1)
      generalize (2 : Int) ^ (blen (W a0 a1) - 1) = p at *
      have q1 : W a0 a1 / p < 2 := Int.ediv_lt_of_lt_mul hp (by omega)
      have q2 : 1 ≤ W a0 a1 / p := (Int.le_ediv_iff_mul_le hp).2 (by omega)
      omega
    rw [if_pos hz, wrap64_id (by omega) (by omega), wide_Right_eq (by omega) (by omega) h0 h1 l0 l1, show ((blen (W a0 a1) : Int) - 1).toNat = blen (W a0 a1) - 1 by omega, e1]
    simp only [Option.bind_some]
    exact bits_j0 1000 (by decide) h0 h1 l0 l1 n0 n1
  · rw [if_neg hz]
    exact bits_j0 1000 (by decide) h0 h1 l0 l1 n0 n1
end Go.Proofs.Ytlmjghmofgmofaa.Pure
