/- What the reference of layer 1 tells: bit by bit, the same numbers. -/
import Derived.Test.YtpfhlimcemkneaaPx23
import Derived.Test.YtpfhlimcemkneaaPx26
import Derived.Test.YtpfhlimcemkneaaPx25
import Derived.Test.YtpfhlimcemkneaaPx24
import Derived.Test.YtpfhlimcemkneaaPx27
import Derived.Test.YtpfhlimcemkneaaSw
set_option linter.unusedVariables false
set_option linter.unusedSimpArgs false
namespace Go.Proofs.Ytpfhlimcemkneaa.P
open Go.RowKit Go.Proofs.Th Go.Proofs.YtpfhlimcemkneaaW.PrintWords Go.Proofs.YtpfhlimcemkneaaW.PrintMore

theorem ref_bit {h l : Int} {i : Int} (i0 : 0 ≤ i) (i1 : i < 128) (a0 : 0 ≤ h) (a1 : h < 18446744073709551616) (b0 : 0 ≤ l) (b1 : l < 18446744073709551616) :
    pacemakerref01_bit.f h l i = some (W h l / 2 ^ i.toNat % 2) := by
  unfold pacemakerref01_bit.f
  by_cases hi : i ≥ 64
  · rw [if_pos hi, wrap64_id (by omega) (by omega), if_pos (by omega), shr_lt64 (by omega), W_bit_hi (by omega) b0 b1, show (i - 64).toNat = i.toNat - 64 by omega]
    rw [Int.tmod_eq_emod_of_nonneg (Int.ediv_nonneg a0 (Int.le_of_lt (two_pow_pos _)))]
  · rw [if_neg hi, if_pos i0, shr_lt64 (by omega), W_bit_lo (by omega) a0 b0 b1]
    rw [Int.tmod_eq_emod_of_nonneg (Int.ediv_nonneg b0 (Int.le_of_lt (two_pow_pos _)))]

theorem shl_one {n : Int} (h : n < 64) : shl .u64 1 n = 2 ^ n.toNat := by
  rw [shl_lt64 (by omega), Int.one_mul]
  have hp := two_pow_pos n.toNat
  have := (pow_lt_pow_iff (a := n.toNat) (b := 64)).2 (by omega)
  rw [show (2 : Int) ^ 64 = 18446744073709551616 from rfl] at this
  exact Int.emod_eq_of_lt (by omega) this

theorem ref_set {h l : Int} {i : Int} (i0 : 0 ≤ i) (i1 : i < 128) (a0 : 0 ≤ h) (a1 : h < 18446744073709551616) (b0 : 0 ≤ l) (b1 : l < 18446744073709551616) (hb : W h l / 2 ^ i.toNat % 2 = 0) :
    pacemakerref01_set.f h l i = some (hi64 (W h l + 2 ^ i.toNat), lo64 (W h l + 2 ^ i.toNat)) := by
  unfold pacemakerref01_set.f
  by_cases hi : i ≥ 64
  · rw [W_bit_hi (by omega) b0 b1] at hb
    rw [if_pos hi, wrap64_id (by omega) (by omega), if_pos (by omega), shl_one (by omega), show (i - 64).toNat = i.toNat - 64 by omega, or_bit a0 a1 (by omega) hb]
    have e : W h l + 2 ^ i.toNat = W (h + 2 ^ (i.toNat - 64)) l := by
      have : (2 : Int) ^ i.toNat = 2 ^ (i.toNat - 64) * 18446744073709551616 := by
        rw [show (18446744073709551616 : Int) = 2 ^ 64 from rfl, ← Int.pow_add]; congr 1; omega
      rw [this]; unfold W; grind
    rw [e, hi_W b0 b1, lo_W b0 b1]
  · rw [W_bit_lo (by omega) a0 b0 b1] at hb
    rw [if_neg hi, if_pos i0, shl_one (by omega), or_bit b0 b1 (by omega) hb]
    have hlt := or_bit_lt b0 b1 (by omega) hb
    have hp := two_pow_pos i.toNat
    have e : W h l + 2 ^ i.toNat = W h (l + 2 ^ i.toNat) := by unfold W; omega
    rw [e, hi_W (by omega) hlt, lo_W (by omega) hlt]

/-- The same, on a number by its own halves. -/
theorem ref_set_hl {v : Int} {i : Int} (i0 : 0 ≤ i) (i1 : i < 128) (v0 : 0 ≤ v) (v1 : v < 340282366920938463463374607431768211456) (hb : v / 2 ^ i.toNat % 2 = 0) :
    pacemakerref01_set.f (hi64 v) (lo64 v) i = some (hi64 (v + 2 ^ i.toNat), lo64 (v + 2 ^ i.toNat)) := by
  have := ref_set (h := hi64 v) (l := lo64 v) i0 i1 (hi_nn v0) (hi_lt v1) (lo_nn v) (lo_lt v) (by rw [W_hl]; exact hb)
  rwa [W_hl] at this

/-! ### Add -/
theorem ref_Add_l0 {h l h' l' : Int} (a0 : 0 ≤ h) (a1 : h < 18446744073709551616) (b0 : 0 ≤ l) (b1 : l < 18446744073709551616) (c0 : 0 ≤ h') (c1 : h' < 18446744073709551616) (d0 : 0 ≤ l') (d1 : l' < 18446744073709551616) (d : Nat) :
    ∀ (k i : Nat) (c v : Int), d + 1 ≤ k → i + d = 128 → 0 ≤ c → c ≤ 1 → 0 ≤ v → v < 2 ^ i → v + c * 2 ^ i = W h l % 2 ^ i + W h' l' % 2 ^ i →
    pacemakerref01_Add.l0 k c i h l h' l' (hi64 v) (lo64 v) = some (hi64 ((W h l + W h' l') % 340282366920938463463374607431768211456), lo64 ((W h l + W h' l') % 340282366920938463463374607431768211456), (W h l + W h' l') / 340282366920938463463374607431768211456) := by
  have hw0 := W_nn a0 b0; have hw1 := W_lt a1 b1
  have hx0 := W_nn c0 d0; have hx1 := W_lt c1 d1
  induction d with
  | zero =>
    intro k i c v hk hi c0' c1' v0 v1 he
    obtain ⟨k, rfl⟩ : ∃ m, k = m + 1 := ⟨k - 1, by omega⟩
    obtain rfl : i = 128 := by omega
    rw [show (2 : Int) ^ 128 = 340282366920938463463374607431768211456 from rfl] at he v1
    simp only [pacemakerref01_Add.l0]
    rw [if_neg (by decide)]
    congr 2
    · congr 1; omega
    · congr 1
      · congr 1; omega
      · omega
  | succ d ih =>
    intro k i c v hk hi c0' c1' v0 v1 he
    obtain ⟨k, rfl⟩ : ∃ m, k = m + 1 := ⟨k - 1, by omega⟩
    have hp := two_pow_pos i
    have hple := pow_le128 (n := i) (by omega)
    have m1 := mod_succ (W h l) i
    have m2 := mod_succ (W h' l') i
    have ea := bit_cases (W h l) i
    have eb := bit_cases (W h' l') i
    have hvs := ref_set_hl (v := v) (i := (i : Int)) (by omega) (by omega) v0 (by omega) (by rw [Int.toNat_natCast, div_small v0 v1]; rfl)
    rw [Int.toNat_natCast] at hvs
    simp only [pacemakerref01_Add.l0]
    rw [if_pos (by omega), ref_bit (by omega) (by omega) a0 a1 b0 b1]
    simp only [Option.bind_some]
    rw [ref_bit (by omega) (by omega) c0 c1 d0 d1]
    simp only [Option.bind_some]
    rw [Int.toNat_natCast]
    have hpow : (2 : Int) ^ (i + 1) = 2 * 2 ^ i := by rw [Int.pow_succ]; omega
    generalize W h l / 2 ^ i % 2 = x at *
    generalize W h' l' / 2 ^ i % 2 = y at *
    rw [u64_id (x := x + y) (by omega) (by omega), u64_id (x := x + y + c) (by omega) (by omega), Int.tmod_eq_emod_of_nonneg (by omega), Int.tdiv_eq_ediv_of_nonneg (by omega), u64_id (x := (x + y + c) / 2) (by omega) (by omega), wrap64_id (by omega) (by omega)]
    have ei : ((i : Int) + 1) = ((i + 1 : Nat) : Int) := by omega
    have hcases : (x + y + c) % 2 = 1 ∧ v + 2 ^ i + (x + y + c) / 2 * 2 ^ (i + 1) = W h l % 2 ^ (i + 1) + W h' l' % 2 ^ (i + 1) ∨ (x + y + c) % 2 = 0 ∧ v + (x + y + c) / 2 * 2 ^ (i + 1) = W h l % 2 ^ (i + 1) + W h' l' % 2 ^ (i + 1) := by
      rw [m1, m2, hpow]
      obtain rfl | rfl := ea <;> obtain rfl | rfl := eb <;> (have hc : c = 0 ∨ c = 1 := by omega) <;> obtain rfl | rfl := hc <;> simp at he ⊢ <;> omega
    rcases hcases with ⟨hc, hv⟩ | ⟨hc, hv⟩
    · rw [if_pos hc, hvs]
      simp only [Option.bind_some]
      rw [ei]
      exact ih k (i + 1) _ _ (by omega) (by omega) (by omega) (by omega) (by omega) (by omega) hv
    · rw [if_neg (by omega), ei]
      exact ih k (i + 1) _ _ (by omega) (by omega) (by omega) (by omega) (by omega) (by omega) hv
theorem ref_Add_eq {h l h' l' : Int} (k : Nat) (hk : 130 ≤ k) (a0 : 0 ≤ h) (a1 : h < 18446744073709551616) (b0 : 0 ≤ l) (b1 : l < 18446744073709551616) (c0 : 0 ≤ h') (c1 : h' < 18446744073709551616) (d0 : 0 ≤ l') (d1 : l' < 18446744073709551616) :
    pacemakerref01_Add.f k h l h' l' = some (hi64 ((W h l + W h' l') % 340282366920938463463374607431768211456), lo64 ((W h l + W h' l') % 340282366920938463463374607431768211456), (W h l + W h' l') / 340282366920938463463374607431768211456) :=
  ref_Add_l0 a0 a1 b0 b1 c0 c1 d0 d1 128 k 0 0 0 (by omega) (by omega) (by omega) (by omega) (by omega) (by decide) (by simp [Int.emod_one])

/-! ### Sub -/
theorem ref_Sub_l0 {h l h' l' : Int} (a0 : 0 ≤ h) (a1 : h < 18446744073709551616) (b0 : 0 ≤ l) (b1 : l < 18446744073709551616) (c0 : 0 ≤ h') (c1 : h' < 18446744073709551616) (d0 : 0 ≤ l') (d1 : l' < 18446744073709551616) (d : Nat) :
    ∀ (k i : Nat) (c v : Int), d + 1 ≤ k → i + d = 128 → 0 ≤ c → c ≤ 1 → 0 ≤ v → v < 2 ^ i → v - c * 2 ^ i = W h l % 2 ^ i - W h' l' % 2 ^ i →
    pacemakerref01_Sub.l0 k c i h l h' l' (hi64 v) (lo64 v) = some (hi64 ((W h l - W h' l') % 340282366920938463463374607431768211456), lo64 ((W h l - W h' l') % 340282366920938463463374607431768211456), if W h l < W h' l' then 1 else 0) := by
  have hw0 := W_nn a0 b0; have hw1 := W_lt a1 b1
  have hx0 := W_nn c0 d0; have hx1 := W_lt c1 d1
  induction d with
  | zero =>
    intro k i c v hk hi c0' c1' v0 v1 he
    obtain ⟨k, rfl⟩ : ∃ m, k = m + 1 := ⟨k - 1, by omega⟩
    obtain rfl : i = 128 := by omega
    rw [show (2 : Int) ^ 128 = 340282366920938463463374607431768211456 from rfl] at he v1
    simp only [pacemakerref01_Sub.l0]
    rw [if_neg (by decide)]
    congr 2
    · congr 1; omega
    · congr 1
      · congr 1; omega
      · split <;> omega
  | succ d ih =>
    intro k i c v hk hi c0' c1' v0 v1 he
    obtain ⟨k, rfl⟩ : ∃ m, k = m + 1 := ⟨k - 1, by omega⟩
    have hp := two_pow_pos i
    have hple := pow_le128 (n := i) (by omega)
    have m1 := mod_succ (W h l) i
    have m2 := mod_succ (W h' l') i
    have ea := bit_cases (W h l) i
    have eb := bit_cases (W h' l') i
    have hvs := ref_set_hl (v := v) (i := (i : Int)) (by omega) (by omega) v0 (by omega) (by rw [Int.toNat_natCast, div_small v0 v1]; rfl)
    rw [Int.toNat_natCast] at hvs
    simp only [pacemakerref01_Sub.l0]
    rw [if_pos (by omega), ref_bit (by omega) (by omega) a0 a1 b0 b1]
    simp only [Option.bind_some]
    rw [ref_bit (by omega) (by omega) c0 c1 d0 d1]
    simp only [Option.bind_some]
    rw [Int.toNat_natCast]
    have hpow : (2 : Int) ^ (i + 1) = 2 * 2 ^ i := by rw [Int.pow_succ]; omega
    generalize W h l / 2 ^ i % 2 = x at *
    generalize W h' l' / 2 ^ i % 2 = y at *
    rw [u64_id (x := 2 + x) (by omega) (by omega), u64_id (x := 2 + x - y) (by omega) (by omega), u64_id (x := 2 + x - y - c) (by omega) (by omega), Int.tmod_eq_emod_of_nonneg (by omega), wrap64_id (by omega) (by omega)]
    have ei : ((i : Int) + 1) = ((i + 1 : Nat) : Int) := by omega
    have hv' : ∀ c' v' : Int, 2 * c' + (2 + x - y - c) - (2 + x - y - c) % 2 = 2 → v' = v + (2 + x - y - c) % 2 * 2 ^ i → 0 ≤ v' ∧ v' < 2 ^ (i + 1) ∧ v' - c' * 2 ^ (i + 1) = W h l % 2 ^ (i + 1) - W h' l' % 2 ^ (i + 1) := by
      intro c' v' hc' hv'
      rw [m1, m2, hpow]
      subst hv'
      obtain rfl | rfl := ea <;> obtain rfl | rfl := eb <;> (have hc : c = 0 ∨ c = 1 := by omega) <;> obtain rfl | rfl := hc <;> simp at he hc' ⊢ <;> (have h1 : c' = 0 ∨ c' = 1 := by omega) <;> obtain rfl | rfl := h1 <;> first | omega | (simp at hc' ⊢; omega)
    by_cases hc : (2 + x - y - c) % 2 = 1
    · rw [if_pos hc, hvs]
      simp only [Option.bind_some]
      rw [hc] at hv'
      by_cases h2 : 2 + x - y - c < 2
      · rw [if_pos h2, ei]
        obtain ⟨q1, q2, q3⟩ := hv' 1 (v + 2 ^ i) (by omega) (by omega)
        exact ih k (i + 1) _ _ (by omega) (by omega) (by omega) (by omega) q1 q2 q3
      · rw [if_neg h2, ei]
        obtain ⟨q1, q2, q3⟩ := hv' 0 (v + 2 ^ i) (by omega) (by omega)
        exact ih k (i + 1) _ _ (by omega) (by omega) (by omega) (by omega) q1 q2 q3
    · rw [if_neg hc]
      rw [show (2 + x - y - c) % 2 = 0 by omega] at hv'
      by_cases h2 : 2 + x - y - c < 2
      · rw [if_pos h2, ei]
        obtain ⟨q1, q2, q3⟩ := hv' 1 v (by omega) (by omega)
        exact ih k (i + 1) _ _ (by omega) (by omega) (by omega) (by omega) q1 q2 q3
      · rw [if_neg h2, ei]
        obtain ⟨q1, q2, q3⟩ := hv' 0 v (by omega) (by omega)
        exact ih k (i + 1) _ _ (by omega) (by omega) (by omega) (by omega) q1 q2 q3
theorem ref_Sub_eq {h l h' l' : Int} (k : Nat) (hk : 130 ≤ k) (a0 : 0 ≤ h) (a1 : h < 18446744073709551616) (b0 : 0 ≤ l) (b1 : l < 18446744073709551616) (c0 : 0 ≤ h') (c1 : h' < 18446744073709551616) (d0 : 0 ≤ l') (d1 : l' < 18446744073709551616) :
    pacemakerref01_Sub.f k h l h' l' = some (hi64 ((W h l - W h' l') % 340282366920938463463374607431768211456), lo64 ((W h l - W h' l') % 340282366920938463463374607431768211456), if W h l < W h' l' then 1 else 0) :=
  ref_Sub_l0 a0 a1 b0 b1 c0 c1 d0 d1 128 k 0 0 0 (by omega) (by omega) (by omega) (by omega) (by omega) (by decide) (by simp [Int.emod_one])

/-! ### Cmp -/
theorem ref_Cmp_l0 {h l h' l' : Int} (a0 : 0 ≤ h) (a1 : h < 18446744073709551616) (b0 : 0 ≤ l) (b1 : l < 18446744073709551616) (c0 : 0 ≤ h') (c1 : h' < 18446744073709551616) (d0 : 0 ≤ l') (d1 : l' < 18446744073709551616) (d : Nat) :
    ∀ (k : Nat), d + 1 ≤ k → d ≤ 128 → W h l / 2 ^ d = W h' l' / 2 ^ d →
    pacemakerref01_Cmp.l0 k ((d : Int) - 1) h l h' l' = some (if W h l < W h' l' then -1 else if W h' l' < W h l then 1 else 0) := by
  induction d with
  | zero =>
    intro k hk hd he
    obtain ⟨k, rfl⟩ : ∃ m, k = m + 1 := ⟨k - 1, by omega⟩
    simp only [pacemakerref01_Cmp.l0]
    rw [if_neg (by omega)]
    simp at he
    rw [if_neg (by omega), if_neg (by omega)]
  | succ d ih =>
    intro k hk hd he
    obtain ⟨k, rfl⟩ : ∃ m, k = m + 1 := ⟨k - 1, by omega⟩
    have s1 := div_succ (W h l) d
    have s2 := div_succ (W h' l') d
    have ea := bit_cases (W h l) d
    have eb := bit_cases (W h' l') d
    have q1 := ref_bit (i := (d : Int)) (by omega) (by omega) a0 a1 b0 b1
    have q2 := ref_bit (i := (d : Int)) (by omega) (by omega) c0 c1 d0 d1
    rw [Int.toNat_natCast] at q1 q2
    have hlt : ∀ a b : Int, a / 2 ^ d < b / 2 ^ d → a < b := by
      intro a b hab
      apply Int.lt_of_not_ge
      intro c
      have := Int.ediv_le_ediv (two_pow_pos d) c
      omega
    simp only [pacemakerref01_Cmp.l0]
    rw [show ((d + 1 : Nat) : Int) - 1 = (d : Int) by omega, if_pos (by omega), q1]
    simp only [Option.bind_some]
    rw [q2]
    simp only [Option.bind_some]
    by_cases c1 : W h l / 2 ^ d % 2 < W h' l' / 2 ^ d % 2
    · rw [if_pos c1, if_pos (hlt _ _ (by omega))]
    · rw [if_neg c1]
      by_cases c2 : W h l / 2 ^ d % 2 > W h' l' / 2 ^ d % 2
      · rw [if_pos c2]
        have := hlt (W h' l') (W h l) (by omega)
        rw [if_neg (by omega), if_pos this]
      · rw [if_neg c2, wrap64_id (by omega) (by omega)]
        exact ih k (by omega) (by omega) (by omega)
theorem ref_Cmp_eq {h l h' l' : Int} (k : Nat) (hk : 130 ≤ k) (a0 : 0 ≤ h) (a1 : h < 18446744073709551616) (b0 : 0 ≤ l) (b1 : l < 18446744073709551616) (c0 : 0 ≤ h') (c1 : h' < 18446744073709551616) (d0 : 0 ≤ l') (d1 : l' < 18446744073709551616) :
    pacemakerref01_Cmp.f k h l h' l' = some (if W h l < W h' l' then -1 else if W h' l' < W h l then 1 else 0) := by
  have := ref_Cmp_l0 a0 a1 b0 b1 c0 c1 d0 d1 128 k (by omega) (by omega) (by
    rw [div_small (W_nn a0 b0) (W_lt a1 b1), div_small (W_nn c0 d0) (W_lt c1 d1)])
  exact this


/-! ### Left -/
theorem ref_Left_done {h l n v0 v1 i : Int} {k : Nat} (hk : 2 ≤ k) (hi : 128 ≤ i ∨ 128 ≤ n) : pacemakerref01_Left.l0 k n i h l v0 v1 = some (v0, v1) := by
  obtain ⟨k, rfl⟩ : ∃ m, k = m + 1 + 1 := ⟨k - 2, by omega⟩
  simp only [pacemakerref01_Left.l0]
  by_cases c : i < 128
  · rw [if_pos c, decide_eq_false (by omega)]
    simp only [pacemakerref01_Left.j1]
    rw [if_neg (by decide)]
  · rw [if_neg c]
    simp only [pacemakerref01_Left.j1]
    rw [if_neg (by decide)]
theorem mul_pow_mod {v : Int} {n m : Nat} (h : n + m = 128) : v * 2 ^ n % 340282366920938463463374607431768211456 = v % 2 ^ m * 2 ^ n := by
  have e : (340282366920938463463374607431768211456 : Int) = 2 ^ n * 2 ^ m := by rw [← Int.pow_add, h]; rfl
  rw [e, Int.mul_comm v, Int.mul_emod_mul_of_pos _ _ (two_pow_pos n), Int.mul_comm]
theorem ref_Left_l0 {h l : Int} {n : Nat} (hn : n < 128) (a0 : 0 ≤ h) (a1 : h < 18446744073709551616) (b0 : 0 ≤ l) (b1 : l < 18446744073709551616) (d : Nat) :
    ∀ (k i : Nat) (v : Int), 2 * d + 2 ≤ k → i + d = 128 → (i + n ≤ 128 → v = W h l % 2 ^ i * 2 ^ n) → (128 ≤ i + n → v = W h l * 2 ^ n % 340282366920938463463374607431768211456) →
    pacemakerref01_Left.l0 k n i h l (hi64 v) (lo64 v) = some (hi64 (W h l * 2 ^ n % 340282366920938463463374607431768211456), lo64 (W h l * 2 ^ n % 340282366920938463463374607431768211456)) := by
  induction d with
  | zero =>
    intro k i v hk hi he1 he2
    rw [ref_Left_done (by omega) (.inl (by omega)), he2 (by omega)]
  | succ d ih =>
    intro k i v hk hi he1 he2
    obtain ⟨k, rfl⟩ : ∃ m, k = m + 1 + 1 := ⟨k - 2, by omega⟩
    simp only [pacemakerref01_Left.l0]
    rw [if_pos (by omega), decide_eq_true (by omega)]
    simp only [pacemakerref01_Left.j1, if_true]
    rw [wrap64_id (x := (i : Int) + (n : Int)) (by omega) (by omega), wrap64_id (x := (i : Int) + 1) (by omega) (by omega)]
    have ei : ((i : Int) + 1) = ((i + 1 : Nat) : Int) := by omega
    by_cases hin : i + n < 128
    · have hv := he1 (by omega)
      rw [if_pos (by omega), ref_bit (by omega) (by omega) a0 a1 b0 b1]
      simp only [Option.bind_some]
      rw [Int.toNat_natCast]
      have ms := mod_succ (W h l) i
      have hp := two_pow_pos i
      have hpn := two_pow_pos n
      have hpa : (2 : Int) ^ (i + n) = 2 ^ i * 2 ^ n := Int.pow_add 2 i n
      have hm0 := mod_nn (W h l) i
      have hm1 := mod_lt (W h l) i
      have v0 : 0 ≤ v := by rw [hv]; exact Int.mul_nonneg hm0 (by omega)
      have v1 : v < 2 ^ (i + n) := by rw [hv, hpa]; exact Int.mul_lt_mul_of_pos_right hm1 hpn
      have hple := pow_le128 (n := i + n) (by omega)
      have hfin : ∀ v' : Int, v' = W h l % 2 ^ (i + 1) * 2 ^ n → (128 ≤ i + 1 + n → v' = W h l * 2 ^ n % 340282366920938463463374607431768211456) := by
        intro v' hv' hge
        rw [hv', ← mul_pow_mod (m := i + 1) (by omega)]
      by_cases hb : W h l / 2 ^ i % 2 = 1
      · rw [if_pos hb]
        have hs := ref_set_hl (v := v) (i := ((i + n : Nat) : Int)) (by omega) (by omega) v0 (by omega) (by rw [Int.toNat_natCast, div_small v0 v1]; rfl)
        rw [Int.toNat_natCast, Int.natCast_add] at hs
        rw [hs]
        simp only [Option.bind_some]
        rw [ei]
        have hv' : v + 2 ^ (i + n) = W h l % 2 ^ (i + 1) * 2 ^ n := by rw [ms, hb, hpa, hv]; grind
        exact ih k (i + 1) _ (by omega) (by omega) (fun _ => hv') (hfin _ hv')
      · rw [if_neg hb, ei]
        have hv' : v = W h l % 2 ^ (i + 1) * 2 ^ n := by rw [ms, show W h l / 2 ^ i % 2 = 0 by omega, hv]; grind
        exact ih k (i + 1) _ (by omega) (by omega) (fun _ => hv') (hfin _ hv')
    · rw [if_neg (by omega), ei]
      exact ih k (i + 1) v (by omega) (by omega) (fun hc => absurd hc (by omega)) (fun _ => he2 (by omega))
theorem ref_Left_neg {h l n : Int} (k : Nat) (hn : n < 0) : pacemakerref01_Left.f k h l n = some (h, l) := by unfold pacemakerref01_Left.f; rw [if_pos hn]
theorem ref_Left_eq {h l n : Int} (k : Nat) (hk : 260 ≤ k) (hn : 0 ≤ n) (a0 : 0 ≤ h) (a1 : h < 18446744073709551616) (b0 : 0 ≤ l) (b1 : l < 18446744073709551616) :
    pacemakerref01_Left.f k h l n = some (hi64 (W h l * 2 ^ n.toNat % 340282366920938463463374607431768211456), lo64 (W h l * 2 ^ n.toNat % 340282366920938463463374607431768211456)) := by
  unfold pacemakerref01_Left.f
  rw [if_neg (by omega)]
  by_cases c : n < 128
  · obtain ⟨m, rfl⟩ := Int.eq_ofNat_of_zero_le hn
    rw [Int.toNat_natCast]
    exact ref_Left_l0 (by omega) a0 a1 b0 b1 128 k 0 0 (by omega) (by omega) (fun _ => by simp [Int.emod_one]) (fun hc => absurd hc (by omega))
  · rw [ref_Left_done (by omega) (.inr (by omega))]
    have e : W h l * 2 ^ n.toNat % 340282366920938463463374607431768211456 = 0 := by
      rw [show n.toNat = (n - 128).toNat + 128 by omega, Int.pow_add, show (2 : Int) ^ 128 = 340282366920938463463374607431768211456 from rfl, ← Int.mul_assoc]
      exact Int.mul_emod_left _ _
    rw [e]; rfl



/-! ### Div -/
theorem ref_Div_l0 {h l y : Int} (a0 : 0 ≤ h) (a1 : h < 18446744073709551616) (b0 : 0 ≤ l) (b1 : l < 18446744073709551616) (y0 : 0 < y) (y1 : y < 18446744073709551616) (d : Nat) :
    ∀ (k : Nat) (v r : Int), 2 * d + 300 ≤ k → d ≤ 128 → v = W h l / 2 ^ d / y * 2 ^ d → r = W h l / 2 ^ d % y →
    pacemakerref01_Div.l0 k ((d : Int) - 1) h l (hi64 v) (lo64 v) (hi64 r) (lo64 r) 0 y = some (hi64 (W h l / y), lo64 (W h l / y), W h l % y, 0) := by
  have hw0 := W_nn a0 b0; have hw1 := W_lt a1 b1
  induction d with
  | zero =>
    intro k v r hk hd hv hr
    obtain ⟨k, rfl⟩ : ∃ m, k = m + 1 := ⟨k - 1, by omega⟩
    simp only [pacemakerref01_Div.l0]
    rw [if_neg (by omega)]
    simp only [Int.pow_zero, Int.ediv_one, Int.mul_one] at hv hr
    rw [hv, hr]
    have h1 := Int.emod_lt_of_pos (W h l) y0
    have h2 := Int.emod_nonneg (W h l) (by omega : y ≠ 0)
    have : lo64 (W h l % y) = W h l % y := by unfold lo64; omega
    rw [this]
  | succ d ih =>
    intro k v r hk hd hv hr
    obtain ⟨k, rfl⟩ : ∃ m, k = m + 1 + 1 := ⟨k - 2, by omega⟩
    have hp := two_pow_pos d
    have ds := div_succ (W h l) d
    have eb := bit_cases (W h l) d
    have hpow : (2 : Int) ^ (d + 1) = 2 * 2 ^ d := by rw [Int.pow_succ]; omega
    have hr0 : 0 ≤ r := by rw [hr]; exact Int.emod_nonneg _ (by omega)
    have hr1 : r < y := by rw [hr]; exact Int.emod_lt_of_pos _ y0
    have hA0 : 0 ≤ W h l / 2 ^ (d + 1) := Int.ediv_nonneg hw0 (by have := two_pow_pos (d + 1); omega)
    have hQ0 : 0 ≤ W h l / 2 ^ (d + 1) / y := Int.ediv_nonneg hA0 (by omega)
    have hdm := Int.mul_ediv_add_emod (W h l / 2 ^ (d + 1)) y
    rw [← hr] at hdm
    have hfull : W h l / 2 ^ d = y * (2 * (W h l / 2 ^ (d + 1) / y)) + (2 * r + W h l / 2 ^ d % 2) := by
      have : y * (2 * (W h l / 2 ^ (d + 1) / y)) = 2 * (y * (W h l / 2 ^ (d + 1) / y)) := by grind
      omega
    have hv' : v = 2 * (W h l / 2 ^ (d + 1) / y) * 2 ^ d := by rw [hv, hpow]; grind
    have hv0 : 0 ≤ v := by rw [hv']; exact Int.mul_nonneg (by omega) (by omega)
    have hq1 := ref_bit (i := (d : Int)) (by omega) (by omega) a0 a1 b0 b1
    rw [Int.toNat_natCast] at hq1
    -- the quotient so far, and its bit
    have hq : ∀ b' : Int, 0 ≤ b' → (W h l / 2 ^ d / y = 2 * (W h l / 2 ^ (d + 1) / y) + b' → (2 * (W h l / 2 ^ (d + 1) / y) + b') * 2 ^ d ≤ W h l) := by
      intro b' _ hb'
      rw [← hb']
      have h1 : W h l / 2 ^ d / y ≤ W h l / 2 ^ d := Int.ediv_le_self _ (Int.ediv_nonneg hw0 (by omega))
      have h2 := Int.mul_le_mul_of_nonneg_right h1 (Int.le_of_lt hp)
      have h3 := Int.ediv_mul_le (W h l) (b := 2 ^ d) (by omega)
      omega
    simp only [pacemakerref01_Div.l0]
    rw [show ((d + 1 : Nat) : Int) - 1 = (d : Int) by omega, if_pos (by omega), ref_Left_eq (k + 1) (by omega) (by decide) (hi_nn hr0) (hi_lt (by omega)) (lo_nn _) (lo_lt _)]
    simp only [Option.bind_some]
    rw [W_hl, show r * 2 ^ (1 : Int).toNat = 2 * r by rw [show (1 : Int).toNat = 1 from rfl, Int.pow_one]; omega, Int.emod_eq_of_lt (a := 2 * r) (by omega) (by omega), hq1]
    simp only [Option.bind_some]
    have main : ∀ s : Int, s = 2 * r + W h l / 2 ^ d % 2 → pacemakerref01_Div.j1 (k + 1) d h l (hi64 v) (lo64 v) (hi64 s) (lo64 s) 0 y = some (hi64 (W h l / y), lo64 (W h l / y), W h l % y, 0) := by
      intro s hs
      have hs0 : 0 ≤ s := by omega
      have hs1 : s < 340282366920938463463374607431768211456 := by omega
      have e0 : W 0 y = y := by unfold W; omega
      simp only [pacemakerref01_Div.j1]
      rw [ref_Cmp_eq k (by omega) (hi_nn hs0) (hi_lt hs1) (lo_nn _) (lo_lt _) (by decide) (by decide) (by omega) y1]
      simp only [Option.bind_some]
      rw [W_hl, e0, wrap64_id (by omega) (by omega)]
      rw [← hs] at hfull
      by_cases c : s < y
      · rw [if_pos c, if_neg (by decide)]
        have e1 : W h l / 2 ^ d / y = 2 * (W h l / 2 ^ (d + 1) / y) := by
          conv => lhs; rw [hfull]
          rw [Int.add_comm, Int.add_mul_ediv_left _ _ (by omega), Int.ediv_eq_zero_of_lt hs0 c]; omega
        have e2 : W h l / 2 ^ d % y = s := by
          conv => lhs; rw [hfull]
          rw [Int.add_comm, Int.add_mul_emod_self_left, Int.emod_eq_of_lt hs0 c]
        exact ih k v s (by omega) (by omega) (by rw [e1, hv']) e2.symm
      · rw [if_neg c]
        have hge : (if y < s then (1 : Int) else 0) ≥ 0 := by split <;> decide
        rw [if_pos hge, ref_Sub_eq k (by omega) (hi_nn hs0) (hi_lt hs1) (lo_nn _) (lo_lt _) (by decide) (by decide) (by omega) y1]
        simp only [Option.bind_some]
        rw [W_hl, e0, Int.emod_eq_of_lt (a := s - y) (by omega) (by omega)]
        have e1 : W h l / 2 ^ d / y = 2 * (W h l / 2 ^ (d + 1) / y) + 1 := by
          conv => lhs; rw [hfull]
          rw [Int.add_comm, Int.add_mul_ediv_left _ _ (by omega), show s = (s - y) + y * 1 by omega, Int.add_mul_ediv_left _ _ (by omega), Int.ediv_eq_zero_of_lt (by omega) (by omega)]; omega
        have e2 : W h l / 2 ^ d % y = s - y := by
          conv => lhs; rw [hfull]
          rw [Int.add_comm, Int.add_mul_emod_self_left, show s = (s - y) + y * 1 by omega, Int.add_mul_emod_self_left, Int.emod_eq_of_lt (by omega) (by omega)]; omega
        have hbound := hq 1 (by decide) e1
        rw [Int.add_mul, Int.one_mul, ← hv'] at hbound
        have hset := ref_set_hl (v := v) (i := (d : Int)) (by omega) (by omega) hv0 (by omega) (by rw [Int.toNat_natCast, hv', Int.mul_ediv_cancel _ (by omega)]; omega)
        rw [Int.toNat_natCast] at hset
        rw [hset]
        simp only [Option.bind_some]
        refine ih k (v + 2 ^ d) (s - y) (by omega) (by omega) ?_ e2.symm
        rw [e1, Int.add_mul, Int.one_mul, ← hv']
    by_cases hb : W h l / 2 ^ d % 2 = 1
    · rw [if_pos hb]
      have hset := ref_set_hl (v := 2 * r) (i := 0) (by decide) (by decide) (by omega) (by omega) (by rw [show (0 : Int).toNat = 0 from rfl, Int.pow_zero, Int.ediv_one]; omega)
      rw [show (0 : Int).toNat = 0 from rfl, Int.pow_zero] at hset
      rw [hset]
      simp only [Option.bind_some]
      exact main _ (by omega)
    · rw [if_neg hb]
      exact main _ (by omega)
theorem ref_Div_zero {h l : Int} (k : Nat) : pacemakerref01_Div.f k h l 0 = some (0, 0, 0, 1) := by unfold pacemakerref01_Div.f; rw [if_pos rfl]
theorem ref_Div_eq {h l y : Int} (k : Nat) (hk : 600 ≤ k) (a0 : 0 ≤ h) (a1 : h < 18446744073709551616) (b0 : 0 ≤ l) (b1 : l < 18446744073709551616) (y0 : 0 < y) (y1 : y < 18446744073709551616) :
    pacemakerref01_Div.f k h l y = some (hi64 (W h l / y), lo64 (W h l / y), W h l % y, 0) := by
  unfold pacemakerref01_Div.f
  rw [if_neg (by omega)]
  have e : W h l / 2 ^ 128 = 0 := div_small (W_nn a0 b0) (W_lt a1 b1)
  exact ref_Div_l0 a0 a1 b0 b1 y0 y1 128 k 0 0 (by omega) (by omega) (by rw [e]; simp) (by rw [e]; simp)
end Go.Proofs.Ytpfhlimcemkneaa.P
