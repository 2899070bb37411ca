/- What layer 3's functions tell, as the print spells them: whole roots, lengths, means. -/
import Derived.Test.YtpfhlimcemkneaaPx4
import Derived.Test.YtpfhlimcemkneaaPx3
import Derived.Test.YtpfhlimcemkneaaSw
set_option linter.unusedVariables false
set_option linter.unusedSimpArgs false
namespace Go.Proofs.Ytpfhlimcemkneaa.P
open Go.RowKit Go.Proofs.Th Go.Proofs.YtpfhlimcemkneaaW.PrintWords Go.Proofs.YtpfhlimcemkneaaW.PrintMore

theorem sqrt_or {q : Int} {d : Nat} (q0 : 0 ≤ q) (hd : d < 64) (hlt : q * 2 ^ (d + 1) + 2 ^ (d + 1) ≤ 18446744073709551616) : Go.bits .or .u64 (q * 2 ^ (d + 1)) (2 ^ d) = (2 * q + 1) * 2 ^ d := by
  have hp := two_pow_pos d
  have hpow : (2 : Int) ^ (d + 1) = 2 * 2 ^ d := by rw [Int.pow_succ]; omega
  have e : q * 2 ^ (d + 1) = 2 * q * 2 ^ d := by rw [hpow]; grind
  have h0 : 0 ≤ q * 2 ^ (d + 1) := Int.mul_nonneg q0 (by omega)
  rw [or_bit h0 (by omega) hd (by rw [e, Int.mul_ediv_cancel _ (by omega)]; omega), e]
  grind

theorem sqrt_l0 {h l : Int} (a0 : 0 ≤ h) (a1 : h < 18446744073709551616) (b0 : 0 ≤ l) (b1 : l < 18446744073709551616) {m : Nat} (hm : m ≤ 64) (d : Nat) :
    ∀ (k : Nat) (q : Int), d + 1 ≤ k → d ≤ m → 0 ≤ q → q * 2 ^ d + 2 ^ d ≤ 18446744073709551616 → q * 2 ^ d * (q * 2 ^ d) ≤ W h l → W h l < (q * 2 ^ d + 2 ^ d) * (q * 2 ^ d + 2 ^ d) →
    root_SqrtWide.l0 k (q * 2 ^ d) m m ((m : Int) - d) h l = some (isq (W h l)) := by
  have w0 := W_nn a0 b0; have w1 := W_lt a1 b1
  induction d with
  | zero =>
    intro k q hk hd q0 hb hlo hhi
    obtain ⟨k, rfl⟩ : ∃ n, k = n + 1 := ⟨k - 1, by omega⟩
    simp only [root_SqrtWide.l0]
    simp only [Int.pow_zero, Int.mul_one] at *
    rw [if_neg (by omega), isq_eq q0 hlo hhi]
  | succ d ih =>
    intro k q hk hd q0 hb hlo hhi
    obtain ⟨k, rfl⟩ : ∃ n, k = n + 1 := ⟨k - 1, by omega⟩
    have hp := two_pow_pos d
    have hpow : (2 : Int) ^ (d + 1) = 2 * 2 ^ d := by rw [Int.pow_succ]; omega
    have e : q * 2 ^ (d + 1) = 2 * q * 2 ^ d := by rw [hpow]; grind
    have et : (2 * q + 1) * 2 ^ d = q * 2 ^ (d + 1) + 2 ^ d := by rw [hpow]; grind
    have h0 : 0 ≤ q * 2 ^ (d + 1) := Int.mul_nonneg q0 (by omega)
    have hshl : shl .u64 1 (wrap64 (wrap64 ((m : Int) - 1) - ((m : Int) - ((d + 1 : Nat) : Int)))) = 2 ^ d := by
      rw [wrap64_id (x := (m : Int) - 1) (by omega) (by omega), wrap64_id (by omega) (by omega), show (m : Int) - 1 - ((m : Int) - ((d + 1 : Nat) : Int)) = (d : Int) by omega, shl_lt64 (by omega), Int.one_mul, Int.toNat_natCast]
      have := (pow_lt_pow_iff (a := d) (b := 64)).2 (by omega)
      rw [show (2 : Int) ^ 64 = 18446744073709551616 from rfl] at this
      exact Int.emod_eq_of_lt (by omega) this
    simp only [root_SqrtWide.l0]
    rw [if_pos (by omega), hshl, if_pos (by rw [wrap64_id (x := (m : Int) - 1) (by omega) (by omega), wrap64_id (by omega) (by omega)]; omega), sqrt_or q0 (by omega) hb]
    have t0 : 0 ≤ (2 * q + 1) * 2 ^ d := by omega
    have t1 : (2 * q + 1) * 2 ^ d < 18446744073709551616 := by omega
    rw [wide_Mul_eq t0 t1 t0 t1]
    simp only [Option.bind_some]
    rw [wide_Cmp_eq (lo_nn _) (lo_lt _) b0 b1, W_hl, wrap64_id (x := (m : Int) - ((d + 1 : Nat) : Int) + 1) (by omega) (by omega), show (m : Int) - ((d + 1 : Nat) : Int) + 1 = (m : Int) - d by omega]
    simp only [Option.bind_some]
    by_cases c : W h l < (2 * q + 1) * 2 ^ d * ((2 * q + 1) * 2 ^ d)
    · have hyes : (if (2 * q + 1) * 2 ^ d * ((2 * q + 1) * 2 ^ d) < W h l then (-1 : Int) else if W h l < (2 * q + 1) * 2 ^ d * ((2 * q + 1) * 2 ^ d) then 1 else 0) > 0 := by
        rw [if_neg (by omega), if_pos c]; decide
      rw [if_pos hyes, e]
      refine ih k (2 * q) (by omega) (by omega) (by omega) (by omega) (by rw [← e]; exact hlo) ?_
      have e2 : 2 * q * 2 ^ d + 2 ^ d = (2 * q + 1) * 2 ^ d := by grind
      rw [e2]; exact c
    · have e3 : (2 * q + 1) * 2 ^ d + 2 ^ d = q * 2 ^ (d + 1) + 2 ^ (d + 1) := by rw [hpow]; grind
      have hno : ¬ ((if (2 * q + 1) * 2 ^ d * ((2 * q + 1) * 2 ^ d) < W h l then (-1 : Int) else if W h l < (2 * q + 1) * 2 ^ d * ((2 * q + 1) * 2 ^ d) then 1 else 0) > 0) := by
        split
        · decide
        · decide
      rw [if_neg hno]
      exact ih k (2 * q + 1) (by omega) (by omega) (by omega) (by omega) (by omega) (by rw [e3]; exact hhi)

theorem root_SqrtWide_eq {h l : Int} (k : Nat) (hk : 70 ≤ k) (a0 : 0 ≤ h) (a1 : h < 18446744073709551616) (b0 : 0 ≤ l) (b1 : l < 18446744073709551616) :
    root_SqrtWide.f k h l = some (isq (W h l)) := by
  unfold root_SqrtWide.f
  have w0 := W_nn a0 b0; have w1 := W_lt a1 b1
  have hb := blen_128 w0 w1
  rw [wide_Len_eq k (by omega) a0 a1 b0 b1]
  simp only [Option.bind_some]
  rw [wrap64_id (x := (blen (W h l) : Int) + 1) (by omega) (by omega), Int.tdiv_eq_ediv_of_nonneg (by omega), wrap64_id (by omega) (by omega)]
  obtain ⟨m, hm⟩ : ∃ m : Nat, m = (blen (W h l) + 1) / 2 := ⟨_, rfl⟩
  rw [show ((blen (W h l) : Int) + 1) / 2 = (m : Int) by omega]
  have hlt := blen_lt w0 w1
  have hle := (pow_le_pow_iff (a := blen (W h l)) (b := m + m)).2 (by omega)
  have hpw := pow_le64 (n := m) (by omega)
  have := sqrt_l0 a0 a1 b0 b1 (m := m) (by omega) m k 0 (by omega) (by omega) (by omega) (by omega) (by rw [Int.zero_mul]; exact w0) (by rw [Int.zero_mul, Int.zero_add, ← Int.pow_add]; omega)
  rwa [Int.zero_mul, Int.sub_self] at this

theorem isq_lt64 {a : Int} (h0 : 0 ≤ a) (h1 : a < 340282366920938463463374607431768211456) : isq a < 18446744073709551616 := isq_lt_of h0 (by decide) (by omega)
theorem W0 (x : Int) : W 0 x = x := by unfold W; omega
theorem root_Log_eq {x : Int} (k : Nat) (hk : 1 ≤ k) (x0 : 0 ≤ x) (x1 : x < 18446744073709551616) : root_Log.f k x = some ((blen x : Int) - 1) := by
  unfold root_Log.f
  have hb := blen_128 x0 (by omega)
  rw [wide_Len_eq k hk (by decide) (by decide) x0 x1, W0]
  simp only [Option.bind_some]
  rw [wrap64_id (by omega) (by omega)]
theorem clamp_eq (a : Int) : fix_Clamp.f a = some (max (-4611686018427387904) (min a 4611686018427387904)) := by
  unfold fix_Clamp.f mx mn
  congr 1
  omega
end Go.Proofs.Ytpfhlimcemkneaa.P
