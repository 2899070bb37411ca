/- What the reference's functions of layer 4 compute: the same. -/
import Derived.Test.YtpfhlimcemkneaaPx5
import Derived.Test.YtpfhlimcemkneaaEs
import Derived.Test.YtpfhlimcemkneaaSr3
set_option linter.unusedVariables false
set_option linter.unusedSimpArgs false
namespace Go.Proofs.Ytpfhlimcemkneaa.P
open Go.RowKit Go.Proofs.Th Go.Proofs.Ee Go.Proofs.YtpfhlimcemkneaaW.PrintWords Go.Proofs.YtpfhlimcemkneaaW.PrintMore
theorem or_comm64 (x y : Int) : Go.bits .or .u64 x y = Go.bits .or .u64 y x := by simp only [Go.bits, BitVec.or_comm]
theorem times_eq {x y s : Int} (x0 : 0 ≤ x) (x1 : x < 18446744073709551616) (y0 : 0 ≤ y) (y1 : y < 18446744073709551616) (s0 : 0 ≤ s) (s1 : s < 64) (h : x * y / 2 ^ s.toNat < 18446744073709551616) :
    pacemakerref04_times.f x y s = some (x * y / 2 ^ s.toNat) := by
  have p0 : 0 ≤ x * y := Int.mul_nonneg x0 y0
  have p1 : x * y < 340282366920938463463374607431768211456 := by
    have a := Int.mul_le_mul (show x ≤ 18446744073709551615 by omega) (show y ≤ 18446744073709551615 by omega) y0 (by decide)
    omega
  have q := wide_Right_eq s0 (by omega) (hi_nn p0) (hi_lt p1) (lo_nn (x * y)) (lo_lt (x * y))
  unfold wide_Right.f at q
  rw [W_hl, if_neg (by omega), if_neg (by omega), if_pos s0, wrap64_id (x := 64 - s) (by omega) (by omega), if_pos (by omega)] at q
  have q2 := (Prod.mk.inj (Option.some.inj q)).2
  unfold pacemakerref04_times.f
  rw [ref_Times_eq x0 x1 y0 y1]
  simp only [Option.bind_some]
  rw [wrap64_id (x := 64 - s) (by omega) (by omega), if_pos (by omega), if_pos s0, or_comm64, q2]
  have q0 : 0 ≤ x * y / 2 ^ s.toNat := Int.ediv_nonneg p0 (Int.le_of_lt (two_pow_pos _))
  generalize x * y / 2 ^ s.toNat = z at *
  unfold lo64
  rw [Int.emod_eq_of_lt q0 h]
theorem rlog_l0 {n : Int} (n0 : 0 ≤ n) (n1 : n ≤ 62) (d : Nat) : ∀ (k m : Nat) (l i : Int), d + 1 ≤ k → i + d = 20 → 0 ≤ i → In m → 0 ≤ l → (l + 1) * 2 ^ d ≤ 1099511627776 →
    pacemakerref04_Log2.l0 k n (m : Int) l i = some ((n - 20) * 1048576 + (l * 2 ^ d + (lg d m : Int))) := by
  induction d with
  | zero =>
    intro k m l i hk hi i0 hm l0 l1
    obtain ⟨k, rfl⟩ : ∃ n, k = n + 1 := ⟨k - 1, by omega⟩
    simp only [pacemakerref04_Log2.l0]
    rw [Int.pow_zero, Int.mul_one] at l1
    rw [if_neg (by omega), wrap64_id (x := n - 20) (by omega) (by omega), wrap64_id (x := (n - 20) * 1048576) (by omega) (by omega), wrap64_id (x := (n - 20) * 1048576 + l) (by omega) (by omega)]
    simp [lg]
  | succ d ih =>
    intro k m l i hk hi i0 hm l0 l1
    obtain ⟨k, rfl⟩ : ∃ n, k = n + 1 := ⟨k - 1, by omega⟩
    have pd := two_pow_pos d
    have e1 : l * 2 ^ (d + 1) = (2 * l) * 2 ^ d := by rw [Int.pow_succ, Int.mul_comm (2 ^ d), ← Int.mul_assoc, Int.mul_comm l]
    have e2 : (l + 1) * 2 ^ (d + 1) = (2 * l + 2) * 2 ^ d := by rw [Int.pow_succ, Int.mul_comm (2 ^ d), ← Int.mul_assoc]; congr 1; omega
    rw [e2] at l1
    have b1 : 2 * l + 2 ≤ 1099511627776 := by
      apply Int.le_of_not_gt
      intro c
      have : (2 * l + 2) * 1 ≤ (2 * l + 2) * 2 ^ d := Int.mul_le_mul_of_nonneg_left (by omega) (by omega)
      omega
    have e3 : (2 * l + 1) * 2 ^ d = 2 * l * 2 ^ d + 2 ^ d := by rw [Int.add_mul, Int.one_mul]
    have e4 : (2 * l + 2) * 2 ^ d = 2 * l * 2 ^ d + 2 * 2 ^ d := by rw [Int.add_mul]
    have e5 : (2 * l + 1 + 1) * 2 ^ d = (2 * l + 2) * 2 ^ d := by congr 1; omega
    rw [e4] at l1
    have hs := sq_in hm
    have h1 := hm.2
    have e62 : (2 : Int) ^ (62 : Int).toNat = 4611686018427387904 := by decide
    have em : (m : Int) * (m : Int) = ((m * m : Nat) : Int) := by simp
    have eq1 : ((m * m : Nat) : Int) / 4611686018427387904 = ((m * m / 4611686018427387904 : Nat) : Int) := by simp
    simp only [pacemakerref04_Log2.l0]
    rw [if_pos (by omega), times_eq (by omega) (by omega) (by omega) (by omega) (by decide) (by decide) (by rw [e62, em]; omega), e62, em, eq1]
    simp only [Option.bind_some]
    rw [wrap64_id (x := 2 * l) (by omega) (by omega), wrap64_id (x := 2 * l + 1) (by omega) (by omega), wrap64_id (x := i + 1) (by omega) (by omega), e1]
    simp only [lg]
    have hlo := in_lo hm
    have hhi := in_hi hm
    have hq : m * m / 4611686018427387904 < 18446744073709551616 := by omega
    generalize m * m / 4611686018427387904 = q at *
    by_cases c : q < 9223372036854775808
    · rw [if_neg (by omega), if_pos c]
      exact ih k q (2 * l) (i + 1) (by omega) (by omega) (by omega) (hlo c) (by omega) (by omega)
    · rw [if_pos (by omega), if_neg c, Int.tdiv_eq_ediv_of_nonneg (by omega), u64_id (by omega) (by omega)]
      have e : (q : Int) / 2 = ((q / 2 : Nat) : Int) := by simp
      rw [e, ih k (q / 2) (2 * l + 1) (i + 1) (by omega) (by omega) (by omega) (hhi c) (by omega) (by rw [e5, e4]; omega), e3]
      simp [Int.add_assoc]
theorem rLog2_eq {a : Int} (k : Nat) (hk : 120 ≤ k) : pacemakerref04_Log2.f k a = some (L a) := by
  unfold pacemakerref04_Log2.f
  rw [ref_Clamp_eq]
  simp only [Option.bind_some]
  unfold L
  by_cases h : a ≤ 0
  · rw [if_pos h, if_pos (by omega)]
  · rw [if_neg h, if_neg (by omega), show max (-4611686018427387904) (min a 4611686018427387904) = min a 4611686018427387904 by omega]
    have c0 : 0 < min a 4611686018427387904 := by omega
    have c1 : min a 4611686018427387904 ≤ 4611686018427387904 := by omega
    generalize min a 4611686018427387904 = c at *
    obtain ⟨hi, p, q, hr⟩ := norm_in c0 c1
    have hi1 := hi.2
    rw [u64_id (by omega) (by omega), ref_Log_eq k (by omega) (by omega) (by omega)]
    simp only [Option.bind_some]
    rw [wrap64_id (x := 62 - ((blen c : Int) - 1)) (by omega) (by omega), if_pos (by omega), shl_lt64 (by omega)]
    have et : (62 - ((blen c : Int) - 1)).toNat = 63 - blen c := by omega
    rw [et, ← hr, Int.emod_eq_of_lt (by omega) (by omega)]
    have e20 : (2 : Int) ^ 20 = 1048576 := by decide
    rw [rlog_l0 (by omega) (by omega) 20 k _ 0 0 (by omega) (by omega) (by decide) hi (by decide) (by rw [e20]; decide), e20]
    unfold Lg
    congr 1
    omega
theorem rWhole_eq (a : Int) : pacemakerref02_Whole.f a = some (max (-4611686018427387904) (min a 4611686018427387904) / 1048576) := by
  unfold pacemakerref02_Whole.f
  rw [ref_Clamp_eq]
  simp only [Option.bind_some]
  have c0 : -4611686018427387904 ≤ max (-4611686018427387904) (min a 4611686018427387904) := by omega
  have c1 : max (-4611686018427387904) (min a 4611686018427387904) ≤ 4611686018427387904 := by omega
  generalize max (-4611686018427387904) (min a 4611686018427387904) = c at *
  by_cases h : 0 ≤ c
  · rw [Int.tmod_eq_emod_of_nonneg h, Int.tdiv_eq_ediv_of_nonneg h, if_neg (by omega), wrap64_id (by omega) (by omega)]
  · obtain ⟨b, rfl⟩ : ∃ b, c = -b := ⟨-c, by omega⟩
    rw [Int.neg_tmod, Int.neg_tdiv, Int.tmod_eq_emod_of_nonneg (by omega), Int.tdiv_eq_ediv_of_nonneg (by omega), wrap64_id (x := -(b / 1048576)) (by omega) (by omega)]
    by_cases z : b % 1048576 = 0
    · rw [if_neg (by omega)]; congr 1; omega
    · rw [if_pos (by omega), wrap64_id (by omega) (by omega)]; congr 1; omega
theorem rbelow {c : Nat} (k : Nat) (hk : 200 ≤ k) (h : c < 18446744073709551616) : pacemakerref03_SqrtWide.f k (hi64 ((c : Int) * 1152921504606846976)) (lo64 ((c : Int) * 1152921504606846976)) = some ((rt c : Nat) : Int) := by
  rw [ref_SqrtWide_eq k hk (hi_nn (by omega)) (hi_lt (by omega)) (lo_nn _) (lo_lt _), W_hl, isq_rt c _ (mul_un c)]
theorem rfactor (a : Int) (d : Nat) : ∀ (k j : Nat), 2 * d + 220 ≤ k → j + d = 20 →
    pacemakerref04_Factor.l0 k a (fa rt j : Int) ((j : Int) + 1) = some ((fa rt (max j (max 0 (min a 20)).toNat) : Nat) : Int) := by
  induction d with
  | zero =>
    intro k j hk hj
    obtain ⟨k, rfl⟩ : ∃ n, k = n + 1 + 1 := ⟨k - 2, by omega⟩
    have hm : max j (max 0 (min a 20)).toNat = j := by omega
    simp only [pacemakerref04_Factor.l0]
    rw [hm]
    split
    · rw [decide_eq_false (by omega)]
      simp only [pacemakerref04_Factor.j1]
      rw [if_neg (by decide)]
    · simp only [pacemakerref04_Factor.j1]
      rw [if_neg (by decide)]
  | succ d ih =>
    intro k j hk hj
    obtain ⟨k, rfl⟩ : ∃ n, k = n + 1 + 1 := ⟨k - 2, by omega⟩
    have hl := (fa_le hrt j).2
    simp only [pacemakerref04_Factor.l0]
    by_cases c : (j : Int) + 1 ≤ a
    · rw [if_pos c, decide_eq_true (by omega)]
      simp only [pacemakerref04_Factor.j1]
      rw [if_pos trivial, ref_Times_eq (by omega) (by omega) (by decide) (by decide)]
      simp only [Option.bind_some]
      rw [rbelow k (by omega) (by omega)]
      simp only [Option.bind_some]
      rw [wrap64_id (by omega) (by omega)]
      have h := ih k (j + 1) (by omega) (by omega)
      have e9 : fa rt (j + 1) = rt (fa rt j) := rfl
      rw [e9] at h
      have e : max (j + 1) (max 0 (min a 20)).toNat = max j (max 0 (min a 20)).toNat := by omega
      rw [e] at h
      simpa using h
    · rw [if_neg c]
      have hm : max j (max 0 (min a 20)).toNat = j := by omega
      simp only [pacemakerref04_Factor.j1]
      rw [if_neg (by decide), hm]
theorem rFactor_eq {a : Int} (k : Nat) (hk : 300 ≤ k) : pacemakerref04_Factor.f k a = some ((fa rt (max 0 (min a 20)).toNat : Nat) : Int) := by
  unfold pacemakerref04_Factor.f
  have h := rfactor a 20 k 0 (by omega) (by omega)
  have e : max 0 (max 0 (min a 20)).toNat = (max 0 (min a 20)).toNat := by omega
  rw [e] at h
  exact h
theorem rexp_l0 {n : Int} {f : Nat} (hf : f < 1048576) (n0 : -20 ≤ n) (n1 : n ≤ 41) (d : Nat) : ∀ (k : Nat) (i : Int) (p c : Nat), d + 220 ≤ k → i + d = 21 → 1 ≤ i → 1152921504606846976 ≤ p → p * c ≤ 2658455991569831745807614120560689152 → 1152921504606846976 ≤ c → c ≤ 2305843009213693952 →
    pacemakerref04_Exp2.l0 k n (f : Int) (p : Int) (c : Int) i = some (((ex rt d f p c * 2 / 2 ^ (41 - n).toNat : Nat)) : Int) := by
  induction d with
  | zero =>
    intro k i p c hk hi i0 p0 hp c0 c1
    obtain ⟨k, rfl⟩ : ∃ n, k = n + 1 := ⟨k - 1, by omega⟩
    have hp1 : p ≤ 2305843009213693952 := by
      have := Nat.mul_le_mul_left p c0
      omega
    simp only [pacemakerref04_Exp2.l0]
    rw [if_neg (by omega)]
    simp only [ex]
    by_cases h : n > 40
    · have e : n = 41 := by omega
      subst e
      rw [if_pos (by decide), wrap64_id (x := 41 - 40) (by decide) (by decide), if_pos (by decide), shl_lt64 (by decide)]
      have e1 : (2 : Int) ^ (41 - 40 : Int).toNat = 2 := by decide
      have e2 : (2 : Nat) ^ (41 - 41 : Int).toNat = 1 := by decide
      rw [e1, e2, Nat.div_one, Int.emod_eq_of_lt (by omega) (by omega), wrap64_id (by omega) (by omega)]
      simp
    · rw [if_neg h, wrap64_id (x := 40 - n) (by omega) (by omega), if_pos (by omega), shr_lt64 (by omega)]
      have e1 : (41 - n).toNat = (40 - n).toNat + 1 := by omega
      have e2 : p * 2 / 2 ^ ((40 - n).toNat + 1) = p / 2 ^ (40 - n).toNat := by rw [Nat.pow_succ, Nat.mul_div_mul_right _ _ (by decide)]
      have e3 : (p : Int) / 2 ^ (40 - n).toNat = ((p / 2 ^ (40 - n).toNat : Nat) : Int) := by simp
      have hl : p / 2 ^ (40 - n).toNat ≤ p := Nat.div_le_self _ _
      rw [e1, e2, e3]
      generalize p / 2 ^ (40 - n).toNat = q at *
      rw [wrap64_id (by omega) (by omega)]
  | succ d ih =>
    intro k i p c hk hi i0 p0 hp c0 c1
    obtain ⟨k, rfl⟩ : ∃ n, k = n + 1 := ⟨k - 1, by omega⟩
    have g0 := g_one hrt c0
    have g1 := g_le hrt c0
    have gs := g_sq hrt c
    have hp1 : p ≤ 2305843009213693952 := by
      have := Nat.mul_le_mul_left p c0
      omega
    simp only [pacemakerref04_Exp2.l0]
    rw [if_pos (by omega), ref_Times_eq (by omega) (by omega) (by decide) (by decide)]
    simp only [Option.bind_some]
    rw [rbelow k (by omega) (by omega)]
    simp only [Option.bind_some]
    have hb : shr .i64 (f : Int) (20 - i) = ((f / 2 ^ d : Nat) : Int) := by
      show (f : Int) / 2 ^ min (20 - i).toNat 64 = _
      rw [Nat.min_eq_left (by omega), show (20 - i).toNat = d by omega]
      simp
    rw [wrap64_id (x := 20 - i) (by omega) (by omega), if_pos (by omega), hb, wrap64_id (x := i + 1) (by omega) (by omega), Int.tmod_eq_emod_of_nonneg (Int.natCast_nonneg _)]
    have hi2 : (((f / 2 ^ d : Nat) : Int) % 2 = 1) ↔ (f / 2 ^ d % 2 = 1) := by omega
    simp only [ex]
    generalize rt c = x at *
    have hpx : p * x ≤ p * c := Nat.mul_le_mul_left _ g1
    by_cases b : f / 2 ^ d % 2 = 1
    · rw [if_pos (hi2.2 b), if_pos b]
      have e60 : (2 : Int) ^ (60 : Int).toNat = 1152921504606846976 := by decide
      have em : (p : Int) * (x : Int) = ((p * x : Nat) : Int) := by simp
      rw [times_eq (by omega) (by omega) (by omega) (by omega) (by decide) (by decide) (by rw [e60, em]; omega), e60, em]
      simp only [Option.bind_some]
      have e : ((p * x : Nat) : Int) / 1152921504606846976 = ((p * x / 1152921504606846976 : Nat) : Int) := by simp
      rw [e]
      refine ih k (i + 1) (p * x / 1152921504606846976) x (by omega) (by omega) (by omega) (Nat.le_trans p0 (mul_div_ge g0)) ?_ g0 (by omega)
      have k1 : p * x / 1152921504606846976 * 1152921504606846976 ≤ p * x := Nat.div_mul_le_self _ _
      generalize p * x / 1152921504606846976 = q at *
      have k2 := Nat.mul_le_mul_right x k1
      have k3 := Nat.mul_le_mul_left p gs
      have e1 : q * 1152921504606846976 * x = q * x * 1152921504606846976 := Nat.mul_right_comm _ _ _
      have e2 : p * x * x = p * (x * x) := Nat.mul_assoc _ _ _
      have e3 : p * (c * 1152921504606846976) = p * c * 1152921504606846976 := (Nat.mul_assoc _ _ _).symm
      have k4 : q * x * 1152921504606846976 ≤ p * c * 1152921504606846976 := by
        calc q * x * 1152921504606846976 ≤ p * x * x := by rw [← e1]; exact k2
          _ ≤ p * c * 1152921504606846976 := by rw [e2, ← e3]; exact k3
      exact Nat.le_trans (Nat.le_of_mul_le_mul_right k4 (by decide)) hp
    · rw [if_neg (fun q => b (hi2.1 q)), if_neg b]
      exact ih k (i + 1) p x (by omega) (by omega) (by omega) p0 (by omega) g0 (by omega)
theorem rExp2_eq {a : Int} (k : Nat) (hk : 300 ≤ k) : pacemakerref04_Exp2.f k a = some (E a) := by
  unfold pacemakerref04_Exp2.f
  rw [ref_Clamp_eq]
  simp only [Option.bind_some]
  rw [rWhole_eq]
  simp only [Option.bind_some]
  unfold E
  by_cases h1 : a ≥ 44040192
  · rw [if_pos h1, if_pos (by omega)]
  · rw [if_neg h1, if_neg (by omega)]
    by_cases h2 : a < -20971520
    · rw [if_pos h2, if_pos (by omega)]
    · rw [if_neg h2, if_neg (by omega)]
      have e : max (-4611686018427387904) (min a 4611686018427387904) = a := by omega
      rw [e, e, wrap64_id (x := a / 1048576 * 1048576) (by omega) (by omega), wrap64_id (x := a - a / 1048576 * 1048576) (by omega) (by omega)]
      have ef : a - a / 1048576 * 1048576 = ((a % 1048576).toNat : Int) := by omega
      rw [ef]
      exact rexp_l0 (by omega) (by omega) (by omega) 20 k 1 1152921504606846976 2305843009213693952 (by omega) (by decide) (by decide) (by decide) (by decide) (by decide) (by decide)
end Go.Proofs.Ytpfhlimcemkneaa.P
