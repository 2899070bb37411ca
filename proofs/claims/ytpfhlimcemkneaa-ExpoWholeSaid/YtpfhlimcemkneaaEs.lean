/- What the printed functions of expo compute. -/
import Derived.Test.YtpfhlimcemkneaaPx3
import Derived.Test.YtpfhlimcemkneaaPx4
import Derived.Test.YtpfhlimcemkneaaEf
import Derived.Test.YtpfhlimcemkneaaSq
import Derived.Laws.Bits128
set_option linter.unusedVariables false
set_option linter.unusedSimpArgs false
namespace Go.Proofs.Ytpfhlimcemkneaa.P
open Go.RowKit Go.Proofs.Th Go.Proofs.Ee Go.Proofs.YtpfhlimcemkneaaW.PrintWords Go.Proofs.YtpfhlimcemkneaaW.PrintMore
theorem rt_ex : ∃ g : Nat → Nat, ∀ c, g c = isqN (c * 1152921504606846976) := ⟨_, fun _ => rfl⟩
/-- The rounded root of a factor, under a name that does not unfold. -/
noncomputable def rt : Nat → Nat := Classical.choose rt_ex
theorem rt_is (c : Nat) : rt c = isqN (c * 1152921504606846976) := Classical.choose_spec rt_ex c
theorem hrt : Rt rt := fun c => by rw [rt_is]; exact isqN_spec _
theorem i64_and1 (n : Int) : Go.bits .and .i64 n 1 = n % 2 := by
  have h127 : (BitVec.ofInt 64 1).toNat = 2 ^ 1 - 1 := by decide
  have key : (BitVec.ofInt 64 n &&& BitVec.ofInt 64 1).toNat = (n % ((2 ^ 64 : Nat) : Int)).toNat % 2 ^ 1 := by
    rw [BitVec.toNat_and, BitVec.toNat_ofInt, h127, Nat.and_two_pow_sub_one_eq_mod]
  show IntKind.i64.wrap ((BitVec.ofInt 64 n &&& BitVec.ofInt 64 1).toNat : Nat) = n % 2
  rw [key, IntKind.wrap_i64]
  omega
/-- A bit put to an even number, below 0 too. -/
theorem i64_or1 {n b : Int} (h0 : -9223372036854775808 ≤ n) (h1 : n ≤ 9223372036854775807) (he : n % 2 = 0) (b0 : 0 ≤ b) (b1 : b ≤ 1) : Go.bits .or .i64 n b = n + b := by
  obtain ⟨c, rfl⟩ := Int.eq_ofNat_of_zero_le b0
  have hc : c = 0 ∨ c = 1 := by omega
  have k1 : (BitVec.ofInt 64 (c : Int)).toNat = c := by rw [BitVec.toNat_ofInt]; omega
  have key : (BitVec.ofInt 64 n ||| BitVec.ofInt 64 (c : Int)).toNat = (n % 18446744073709551616).toNat + c := by
    rw [BitVec.toNat_or, BitVec.toNat_ofInt, k1]
    have e : ((2 ^ 64 : Nat) : Int) = 18446744073709551616 := by decide
    rw [e]
    rcases hc with rfl | rfl
    · simp
    · have := nat_or_bit (n % 18446744073709551616).toNat 0 (by omega)
      simpa using this
  show IntKind.i64.wrap ((BitVec.ofInt 64 n ||| BitVec.ofInt 64 (c : Int)).toNat : Nat) = n + c
  rw [key, IntKind.wrap_i64]
  omega
theorem product_eq {x y s : Int} (x0 : 0 ≤ x) (x1 : x < 18446744073709551616) (y0 : 0 ≤ y) (y1 : y < 18446744073709551616) (s0 : 0 ≤ s) (s1 : s ≤ 64) (h : x * y / 2 ^ s.toNat < 18446744073709551616) :
    expo_product.f x y s = some (x * y / 2 ^ s.toNat) := by
  unfold expo_product.f
  have p0 : 0 ≤ x * y := Int.mul_nonneg x0 y0
  have p1 : x * y < 340282366920938463463374607431768211456 := by
    have a := Int.mul_le_mul (show x ≤ 18446744073709551615 by omega) (show y ≤ 18446744073709551615 by omega) y0 (by decide)
    omega
  rw [wide_Mul_eq x0 x1 y0 y1]
  simp only [Option.bind_some]
  rw [wide_Right_eq s0 (by omega) (hi_nn p0) (hi_lt p1) (lo_nn _) (lo_lt _), W_hl]
  simp only [Option.bind_some]
  have q0 : 0 ≤ x * y / 2 ^ s.toNat := Int.ediv_nonneg p0 (Int.le_of_lt (two_pow_pos _))
  generalize x * y / 2 ^ s.toNat = q at *
  unfold lo64
  rw [Int.emod_eq_of_lt q0 h]
theorem next_eq {m : Nat} (h : In m) : expo_Log2.next (m : Int) = some (if m * m / 4611686018427387904 < 9223372036854775808 then (0, ((m * m / 4611686018427387904 : Nat) : Int)) else (1, ((m * m / 4611686018427387904 / 2 : Nat) : Int))) := by
  have hs := sq_in h
  have h1 := h.2
  unfold expo_Log2.next
  have e62 : (2 : Int) ^ (62 : Int).toNat = 4611686018427387904 := by decide
  have em : (m : Int) * (m : Int) = ((m * m : Nat) : Int) := by simp
  rw [product_eq (by omega) (by omega) (by omega) (by omega) (by decide) (by decide) (by rw [e62, em]; omega), e62, em]
  simp only [Option.bind_some]
  generalize m * m = q at *
  by_cases c : q / 4611686018427387904 < 9223372036854775808
  · rw [if_pos c, if_pos (by omega)]; simp
  · rw [if_neg c, if_neg (by omega)]; simp
theorem log_l0 (d : Nat) : ∀ (k : Nat) (l i : Int) (m : Nat), d + 1 ≤ k → i + d = 20 → 0 ≤ i → In m → -1099511627776 ≤ l * 2 ^ d → (l + 1) * 2 ^ d ≤ 1099511627776 →
    expo_Log2.l0 k l i (m : Int) = some (l * 2 ^ d + (lg d m : Int)) := by
  induction d with
  | zero =>
    intro k l i m hk hi i0 hm l0 l1
    obtain ⟨k, rfl⟩ : ∃ n, k = n + 1 := ⟨k - 1, by omega⟩
    simp only [expo_Log2.l0]
    rw [if_neg (by omega)]
    simp [lg]
  | succ d ih =>
    intro k l i m hk hi i0 hm l0 l1
    obtain ⟨k, rfl⟩ : ∃ n, k = n + 1 := ⟨k - 1, by omega⟩
    have pd := two_pow_pos d
    have e1 : l * 2 ^ (d + 1) = (2 * l) * 2 ^ d := by rw [Int.pow_succ, Int.mul_comm (2 ^ d), ← Int.mul_assoc, Int.mul_comm l]
    have e2 : (l + 1) * 2 ^ (d + 1) = (2 * l + 2) * 2 ^ d := by rw [Int.pow_succ, Int.mul_comm (2 ^ d), ← Int.mul_assoc]; congr 1; omega
    rw [e1] at l0
    rw [e2] at l1
    have b0 : -1099511627776 ≤ 2 * l := by
      apply Int.le_of_not_gt
      intro c
      have : 2 * l * 2 ^ d ≤ 2 * l * 1 := Int.mul_le_mul_of_nonpos_left (by omega) (by omega)
      omega
    have b1 : 2 * l + 2 ≤ 1099511627776 := by
      apply Int.le_of_not_gt
      intro c
      have : (2 * l + 2) * 1 ≤ (2 * l + 2) * 2 ^ d := Int.mul_le_mul_of_nonneg_left (by omega) (by omega)
      omega
    simp only [expo_Log2.l0]
    rw [if_pos (by omega), next_eq hm]
    simp only [Option.bind_some]
    rw [wrap64_id (x := l * 2) (by omega) (by omega), wrap64_id (x := i + 1) (by omega) (by omega), e1]
    have e3 : (2 * l + 1) * 2 ^ d = 2 * l * 2 ^ d + 2 ^ d := by rw [Int.add_mul, Int.one_mul]
    have e4 : (2 * l + 2) * 2 ^ d = 2 * l * 2 ^ d + 2 * 2 ^ d := by rw [Int.add_mul]
    have e5 : (2 * l + 1 + 1) * 2 ^ d = (2 * l + 2) * 2 ^ d := by congr 1; omega
    rw [e4] at l1
    simp only [lg]
    by_cases c : m * m / 4611686018427387904 < 9223372036854775808
    · rw [if_pos c, if_pos c]
      simp only
      rw [i64_or1 (by omega) (by omega) (by omega) (by decide) (by decide), Int.add_zero, Int.mul_comm l]
      exact ih k (2 * l) (i + 1) _ (by omega) (by omega) (by omega) (in_lo hm c) (by omega) (by rw [e3]; omega)
    · rw [if_neg c, if_neg c]
      simp only
      rw [i64_or1 (by omega) (by omega) (by omega) (by decide) (by decide), Int.mul_comm l]
      rw [ih k (2 * l + 1) (i + 1) _ (by omega) (by omega) (by omega) (in_hi hm c) (by rw [e3]; omega) (by rw [e5, e4]; omega), e3]
      simp [Int.add_assoc]
/-- The logarithm of a number from 1 to the top. -/
def Lg (c : Int) : Int := ((blen c : Int) - 21) * 1048576 + (lg 20 (c * 2 ^ (63 - blen c)).toNat : Int)
theorem norm_in {c : Int} (h0 : 0 < c) (h1 : c ≤ 4611686018427387904) : In (c * 2 ^ (63 - blen c)).toNat ∧ 1 ≤ blen c ∧ blen c ≤ 63 ∧ ((c * 2 ^ (63 - blen c)).toNat : Int) = c * 2 ^ (63 - blen c) := by
  have a := blen_lt (v := c) (by omega) (by omega)
  have b := blen_ge h0 (by omega)
  have p := blen_pos h0 (by omega)
  have q : blen c ≤ 63 := blen_le (by omega) (by omega) (by omega)
  have r0 : 0 ≤ c * 2 ^ (63 - blen c) := Int.mul_nonneg (by omega) (Int.le_of_lt (two_pow_pos _))
  have e : (2 : Int) ^ blen c * 2 ^ (63 - blen c) = 9223372036854775808 := by rw [← Int.pow_add, Nat.add_sub_of_le q]; rfl
  have k1 : c * 2 ^ (63 - blen c) < 2 ^ blen c * 2 ^ (63 - blen c) := Int.mul_lt_mul_of_pos_right a (two_pow_pos _)
  have k2 : 2 ^ blen c * 2 ^ (63 - blen c) ≤ 2 * c * 2 ^ (63 - blen c) := Int.mul_le_mul_of_nonneg_right b (Int.le_of_lt (two_pow_pos _))
  rw [Int.mul_assoc, e] at k2
  rw [e] at k1
  generalize c * 2 ^ (63 - blen c) = x at *
  refine ⟨?_, p, q, by omega⟩
  unfold In
  omega
def L (a : Int) : Int := if a ≤ 0 then -4611686018427387904 else Lg (min a 4611686018427387904)
theorem Log2_eq {a : Int} (k : Nat) (hk : 30 ≤ k) : expo_Log2.f k a = some (L a) := by
  unfold expo_Log2.f
  rw [clamp_eq]
  simp only [Option.bind_some]
  unfold L
  by_cases h : a ≤ 0
  · rw [if_pos h, if_pos (by omega)]
  · rw [if_neg h, if_neg (by omega), show max (-4611686018427387904) (min a 4611686018427387904) = min a 4611686018427387904 by omega]
    have c0 : 0 < min a 4611686018427387904 := by omega
    have c1 : min a 4611686018427387904 ≤ 4611686018427387904 := by omega
    generalize min a 4611686018427387904 = c at *
    obtain ⟨hi, p, q, hr⟩ := norm_in c0 c1
    have hi1 := hi.2
    rw [u64_id (by omega) (by omega), root_Log_eq k (by omega) (by omega) (by omega)]
    simp only [Option.bind_some]
    rw [wrap64_id (x := 62 - ((blen c : Int) - 1)) (by omega) (by omega), if_pos (by omega), wrap64_id (x := (blen c : Int) - 1 - 20) (by omega) (by omega), shl_lt64 (by omega)]
    have et : (62 - ((blen c : Int) - 1)).toNat = 63 - blen c := by omega
    rw [et, ← hr, Int.emod_eq_of_lt (by omega) (by omega), show (blen c : Int) - 1 - 20 = (blen c : Int) - 21 by omega]
    have e20 : (2 : Int) ^ 20 = 1048576 := by decide
    rw [log_l0 20 k _ 0 _ (by omega) (by omega) (by decide) hi (by rw [e20]; omega) (by rw [e20]; omega), e20]
    unfold Lg
    rfl
/-! ### the factors -/
theorem isq_nat (n : Nat) : isq (n : Int) = ((isqN n : Nat) : Int) := by unfold isq; rw [Int.toNat_natCast]
theorem isq_rt (c : Nat) (x : Int) (hx : x = ((c * 1152921504606846976 : Nat) : Int)) : isq x = ((rt c : Nat) : Int) := by
  rw [rt_is, hx, isq_nat]
theorem mul_un (c : Nat) : (c : Int) * 1152921504606846976 = ((c * 1152921504606846976 : Nat) : Int) := by omega
theorem below_left {c : Nat} (h : c < 18446744073709551616) : wide_Left.f 0 (c : Int) 60 = some (hi64 ((c : Int) * 1152921504606846976), lo64 ((c : Int) * 1152921504606846976)) := by
  have e60 : (2 : Int) ^ (60 : Int).toNat = 1152921504606846976 := by decide
  rw [wide_Left_eq (by decide) (by decide) (by decide) (by decide) (by omega) (by omega), W0, e60]
  have e : (c : Int) * 1152921504606846976 % 340282366920938463463374607431768211456 = c * 1152921504606846976 := by omega
  rw [e]
theorem below_root {c : Nat} (k : Nat) (hk : 70 ≤ k) (h : c < 18446744073709551616) : root_SqrtWide.f k (hi64 ((c : Int) * 1152921504606846976)) (lo64 ((c : Int) * 1152921504606846976)) = some (isq ((c : Int) * 1152921504606846976)) := by
  rw [root_SqrtWide_eq k hk (hi_nn (by omega)) (hi_lt (by omega)) (lo_nn _) (lo_lt _), W_hl]
theorem below_of {c : Nat} (k : Nat) (x : Int) (h1 : wide_Left.f 0 (c : Int) 60 = some (hi64 x, lo64 x)) (h2 : root_SqrtWide.f k (hi64 x) (lo64 x) = some (isq x)) : expo_below.f k (c : Int) = some (isq x) := by
  unfold expo_below.f
  rw [h1]
  simp only [Option.bind_some]
  rw [h2]
  simp only [Option.bind_some]
theorem below_eq {c : Nat} (k : Nat) (hk : 70 ≤ k) (h : c < 18446744073709551616) : expo_below.f k (c : Int) = some ((rt c : Nat) : Int) := by
  rw [below_of k _ (below_left h) (below_root k hk h), isq_rt c _ (mul_un c)]
theorem whole_eq (a : Int) : fix_Whole.f a = some (max (-4611686018427387904) (min a 4611686018427387904) / 1048576) := by
  unfold fix_Whole.f
  rw [clamp_eq]
  rfl
theorem factor_l0 {n : Nat} (hn : n ≤ 20) (d : Nat) : ∀ (k j : Nat), d + 80 ≤ k → j + d = n → expo_Factor.l0 k (fa rt j : Int) (n : Int) (j : Int) = some (fa rt n : Int) := by
  induction d with
  | zero =>
    intro k j hk hj
    obtain ⟨k, rfl⟩ : ∃ n, k = n + 1 := ⟨k - 1, by omega⟩
    obtain rfl : j = n := by omega
    simp only [expo_Factor.l0]
    rw [if_neg (by omega)]
  | succ d ih =>
    intro k j hk hj
    obtain ⟨k, rfl⟩ : ∃ n, k = n + 1 := ⟨k - 1, by omega⟩
    simp only [expo_Factor.l0]
    have hl := (fa_le hrt j).2
    rw [if_pos (by omega), below_eq k (by omega) (by omega)]
    simp only [Option.bind_some]
    rw [wrap64_id (by omega) (by omega)]
    exact ih k (j + 1) (by omega) (by omega)
theorem Factor_eq {a : Int} (k : Nat) (hk : 110 ≤ k) : expo_Factor.f k a = some ((fa rt (max 0 (min a 20)).toNat : Nat) : Int) := by
  unfold expo_Factor.f mx mn
  obtain ⟨n, hn⟩ : ∃ n : Nat, (n : Int) = max 0 (min a 20) := ⟨(max 0 (min a 20)).toNat, by omega⟩
  have h := factor_l0 (n := n) (by omega) n k 0 (by omega) (by omega)
  rw [← hn, Int.toNat_natCast]
  have e : ∀ x : Int, x = (n : Int) → expo_Factor.l0 k 2305843009213693952 x 0 = some ((fa rt n : Nat) : Int) := by
    intro x hx
    subst hx
    exact h
  apply e
  omega
/-! ### powers -/
theorem bit_eq {a : Int} {d : Nat} (hd : d < 20) : expo_Exp2.bit a (d : Int) = decide ((a % 1048576).toNat / 2 ^ d % 2 = 1) := by
  unfold expo_Exp2.bit
  rw [Int.toNat_natCast, Nat.min_eq_left (by omega), i64_and1]
  have key : a / 2 ^ d % 2 = (((a % 1048576).toNat / 2 ^ d % 2 : Nat) : Int) := by
    have f0 : 0 ≤ a % 1048576 := by omega
    have hq : a = a % 1048576 + a / 1048576 * 2 ^ (20 - d - 1) * 2 * 2 ^ d := by
      have e : (2 : Int) ^ (20 - d - 1) * 2 * 2 ^ d = 1048576 := by
        rw [← Int.pow_succ, ← Int.pow_add, show 20 - d - 1 + 1 + d = 20 by omega]; rfl
      rw [Int.mul_assoc, Int.mul_assoc, ← Int.mul_assoc (2 ^ (20 - d - 1)), e]
      omega
    have hf : ((a % 1048576).toNat : Int) = a % 1048576 := Int.toNat_of_nonneg f0
    have e1 : a / 2 ^ d = a % 1048576 / 2 ^ d + a / 1048576 * 2 ^ (20 - d - 1) * 2 := by
      conv => lhs; rw [hq]
      exact Int.add_mul_ediv_right _ _ (by have := two_pow_pos d; omega)
    rw [e1, Int.add_mul_emod_self_right, ← hf]
    simp
  rw [key]
  rcases Nat.mod_two_eq_zero_or_one ((a % 1048576).toNat / 2 ^ d) with h | h <;> rw [h] <;> rfl
theorem exp_l0 {a n : Int} (n0 : -20 ≤ n) (n1 : n ≤ 41) (d : Nat) : ∀ (k : Nat) (i : Int) (p c : Nat), d + 80 ≤ k → i + d = 20 → 0 ≤ i → 1152921504606846976 ≤ p → p * c ≤ 2658455991569831745807614120560689152 → 1152921504606846976 ≤ c → c ≤ 2305843009213693952 →
    expo_Exp2.l0 k a n (p : Int) i (c : Int) = some (((ex rt d (a % 1048576).toNat p c * 2 / 2 ^ (41 - n).toNat : Nat)) : Int) := by
  induction d with
  | zero =>
    intro k i p c hk hi i0 p0 hp c0 c1
    obtain ⟨k, rfl⟩ : ∃ n, k = n + 1 := ⟨k - 1, by omega⟩
    have hp1 : p ≤ 2305843009213693952 := by
      have := Nat.mul_le_mul_left p c0
      omega
    simp only [expo_Exp2.l0]
    rw [if_neg (by omega), wrap64_id (x := 41 - n) (by omega) (by omega), if_pos (by omega), u64_id (by omega) (by omega), Nat.min_eq_left (by omega)]
    simp only [ex]
    have e : (p : Int) * 2 / 2 ^ (41 - n).toNat = ((p * 2 / 2 ^ (41 - n).toNat : Nat) : Int) := by simp
    have hl : p * 2 / 2 ^ (41 - n).toNat ≤ p * 2 := Nat.div_le_self _ _
    rw [e]
    generalize p * 2 / 2 ^ (41 - n).toNat = q at *
    rw [wrap64_id (by omega) (by omega)]
  | succ d ih =>
    intro k i p c hk hi i0 p0 hp c0 c1
    obtain ⟨k, rfl⟩ : ∃ n, k = n + 1 := ⟨k - 1, by omega⟩
    have g0 := g_one hrt c0
    have g1 := g_le hrt c0
    have gs := g_sq hrt c
    have hp1 : p ≤ 2305843009213693952 := by
      have := Nat.mul_le_mul_left p c0
      omega
    simp only [expo_Exp2.l0]
    rw [if_pos (by omega), below_eq k (by omega) (by omega)]
    simp only [Option.bind_some]
    rw [wrap64_id (x := 19 - i) (by omega) (by omega), if_pos (by omega), show 19 - i = (d : Int) by omega, bit_eq (by omega), wrap64_id (x := i + 1) (by omega) (by omega)]
    simp only [ex, decide_eq_true_eq]
    generalize rt c = x at *
    have hpx : p * x ≤ p * c := Nat.mul_le_mul_left _ g1
    split
    · rename_i b
      have e60 : (2 : Int) ^ (60 : Int).toNat = 1152921504606846976 := by decide
      have em : (p : Int) * (x : Int) = ((p * x : Nat) : Int) := by simp
      rw [product_eq (by omega) (by omega) (by omega) (by omega) (by decide) (by decide) (by rw [e60, em]; omega), e60, em]
      simp only [Option.bind_some]
      have e : ((p * x : Nat) : Int) / 1152921504606846976 = ((p * x / 1152921504606846976 : Nat) : Int) := by simp
      rw [e]
      refine ih k (i + 1) (p * x / 1152921504606846976) x (by omega) (by omega) (by omega) (Nat.le_trans p0 (mul_div_ge g0)) ?_ g0 (by omega)
      have k1 : p * x / 1152921504606846976 * 1152921504606846976 ≤ p * x := Nat.div_mul_le_self _ _
      generalize p * x / 1152921504606846976 = q at *
      have k2 := Nat.mul_le_mul_right x k1
      have k3 := Nat.mul_le_mul_left p gs
      have e1 : q * 1152921504606846976 * x = q * x * 1152921504606846976 := Nat.mul_right_comm _ _ _
      have e2 : p * x * x = p * (x * x) := Nat.mul_assoc _ _ _
      have e3 : p * (c * 1152921504606846976) = p * c * 1152921504606846976 := (Nat.mul_assoc _ _ _).symm
      have k4 : q * x * 1152921504606846976 ≤ p * c * 1152921504606846976 := by
        calc q * x * 1152921504606846976 ≤ p * x * x := by rw [← e1]; exact k2
          _ ≤ p * c * 1152921504606846976 := by rw [e2, ← e3]; exact k3
      exact Nat.le_trans (Nat.le_of_mul_le_mul_right k4 (by decide)) hp
    · rename_i b
      exact ih k (i + 1) p x (by omega) (by omega) (by omega) p0 (by omega) g0 (by omega)
noncomputable def E (a : Int) : Int := if a ≥ 44040192 then 4611686018427387904 else if a < -20971520 then 0 else ((pw rt (a % 1048576).toNat * 2 / 2 ^ (41 - a / 1048576).toNat : Nat) : Int)
theorem Exp2_eq {a : Int} (k : Nat) (hk : 110 ≤ k) : expo_Exp2.f k a = some (E a) := by
  unfold expo_Exp2.f
  rw [clamp_eq]
  simp only [Option.bind_some]
  rw [whole_eq]
  simp only [Option.bind_some]
  unfold E
  by_cases h1 : a ≥ 44040192
  · rw [if_pos h1, if_pos (by omega)]
  · rw [if_neg h1, if_neg (by omega)]
    by_cases h2 : a < -20971520
    · rw [if_pos h2, if_pos (by omega)]
    · rw [if_neg h2, if_neg (by omega)]
      have e : max (-4611686018427387904) (min a 4611686018427387904) = a := by omega
      rw [e, e]
      exact exp_l0 (by omega) (by omega) 20 k 0 1152921504606846976 2305843009213693952 (by omega) (by decide) (by decide) (by decide) (by decide) (by decide) (by decide)
/-! ### the document's rows -/
theorem powered_eq (k : Nat) (hk : 110 ≤ k) : pacemakerlaw04_powered.f k = some true := by
  unfold pacemakerlaw04_powered.f
  have l1 : L 1048576 = 0 := by decide +kernel
  have l2 : L 1 = -20971520 := by decide +kernel
  have l3 : L 3145728 = 1661953 := by decide +kernel
  have e0 : E 0 = 1048576 := by
    unfold E pw
    rw [if_neg (by decide), if_neg (by decide), ex_zero rt 20 _ _ _ (by decide)]
    rfl
  have e5 : E 524288 = 1482910 := by
    unfold E pw
    rw [if_neg (by decide), if_neg (by decide), ex_succ, g_first hrt, if_pos (by decide), ex_zero rt 19 _ _ _ (by decide)]
    rfl
  have f1 : (fa rt (max 0 (min (1 : Int) 20)).toNat : Int) = 1630477228166597776 := by
    have : (max 0 (min (1 : Int) 20)).toNat = 1 := by decide
    rw [this]
    show ((rt 2305843009213693952 : Nat) : Int) = _
    rw [g_first hrt]
    rfl
  rw [Log2_eq k (by omega), Log2_eq k (by omega), Log2_eq k (by omega), Exp2_eq k hk, Exp2_eq k hk, Factor_eq k hk, l1, l2, l3, e0, e5, f1]
  rfl
end Go.Proofs.Ytpfhlimcemkneaa.P
