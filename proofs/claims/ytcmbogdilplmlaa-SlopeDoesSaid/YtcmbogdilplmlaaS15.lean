import Derived.Test.YtcmbogdilplmlaaS14
import Derived.Test.YtcmbogdilplmlaaPx7
import Derived.Test.YtcmbogdilplmlaaPx8
namespace Go.Proofs.Ytcmbogdilplmlaa.P
open Go.RowKit Go.Proofs.YtcmbogdilplmlaaW.PrintWords Go.Proofs.YtcmbogdilplmlaaW.PrintLast Go.Proofs.YtcmbogdilplmlaaW.PrintMore Go.Proofs.YtcmbogdilplmlaaX
attribute [local go_sem] max2_int min2_int max_two min_two max_three min_three max_four min_four
set_option linter.unusedVariables false
set_option linter.unusedSimpArgs false
open Go.Proofs.Th
theorem rless_eq {h l h' l' : Int} (b0 : 0 ≤ l) (b1 : l < 18446744073709551616) (d0 : 0 ≤ l') (d1 : l' < 18446744073709551616) : pacemakerref10_less.f h l h' l' = some (decide (W h l < W h' l')) := by
  unfold pacemakerref10_less.f
  by_cases c : h < h'
  · rw [if_pos c, decide_eq_true (show W h l < W h' l' by unfold W; omega)]
  · rw [if_neg c]
    by_cases d : h = h'
    · rw [if_pos d]
      congr 1
      rw [decide_eq_decide]
      unfold W; omega
    · rw [if_neg d, decide_eq_false (show ¬ W h l < W h' l' by unfold W; omega)]
theorem rminus_eq {h l h' l' : Int} (a0 : 0 ≤ h) (a1 : h < 18446744073709551616) (b0 : 0 ≤ l) (b1 : l < 18446744073709551616) (c0 : 0 ≤ h') (c1 : h' < 18446744073709551616) (d0 : 0 ≤ l') (d1 : l' < 18446744073709551616) :
    pacemakerref10_minus.f h l h' l' = some (hi64 ((W h l - W h' l') % 340282366920938463463374607431768211456), lo64 ((W h l - W h' l') % 340282366920938463463374607431768211456)) := by
  unfold pacemakerref10_minus.f
  simp only [u64_wrap]
  by_cases c : l < l'
  · rw [if_pos c]
    congr 1
    rw [Prod.mk.injEq]
    unfold W hi64 lo64
    omega
  · rw [if_neg c]
    congr 1
    rw [Prod.mk.injEq]
    unfold W hi64 lo64
    omega
theorem rshift {R b : Int} (h0 : 0 ≤ R) (h1 : R < 340282366920938463463374607431768211456) (hb : b = 0 ∨ b = 1) :
    Go.bits .or .u64 (IntKind.u64.wrap (hi64 R * 2)) (lo64 R / 9223372036854775808) = hi64 ((2 * R + b) % 340282366920938463463374607431768211456) ∧ Go.bits .or .u64 (IntKind.u64.wrap (lo64 R * 2)) b = lo64 ((2 * R + b) % 340282366920938463463374607431768211456) := by
  have l0 := lo_nn R
  have l1 := lo_lt R
  rw [u64_wrap, u64_wrap, or_join (x := hi64 R * 2 % 18446744073709551616) (y := lo64 R / 9223372036854775808) 1 (by omega) (by show hi64 R * 2 % 18446744073709551616 % 2 = 0; omega) (by omega) (by omega) (by show lo64 R / 9223372036854775808 < 2; omega) (by omega),
    or_join (x := lo64 R * 2 % 18446744073709551616) (y := b) 1 (by omega) (by show lo64 R * 2 % 18446744073709551616 % 2 = 0; omega) (by omega) (by omega) (by show b < 2; omega) (by omega)]
  unfold hi64 lo64
  omega
theorem rtop {R : Int} (h0 : 0 ≤ R) (h1 : R < 340282366920938463463374607431768211456) : (hi64 R / 9223372036854775808 == 1) = decide (340282366920938463463374607431768211456 ≤ 2 * R) := by
  rw [Bool.eq_iff_iff, beq_iff_eq, decide_eq_true_eq]
  unfold hi64; omega
theorem rbit_hi {h l : Int} {n : Nat} (a0 : 0 ≤ h) (b0 : 0 ≤ l) (b1 : l < 18446744073709551616) (hn : 84 ≤ n) : W h l * 1048576 / 2 ^ n % 2 = h / 2 ^ (n - 84) % 2 := by
  have e : n = 20 + (64 + (n - 84)) := by omega
  rw [e, ediv_pow, show (2 : Int) ^ 20 = 1048576 from rfl, Int.mul_ediv_cancel _ (by decide), ediv_pow, show (2 : Int) ^ 64 = 18446744073709551616 from rfl, show 20 + (64 + (n - 84)) - 84 = n - 84 by omega]
  have : W h l / 18446744073709551616 = h := hi_W b0 b1
  rw [this]
theorem rbit_lo {h l : Int} {n : Nat} (a0 : 0 ≤ h) (b0 : 0 ≤ l) (b1 : l < 18446744073709551616) (hn : 20 ≤ n) (hn2 : n < 84) : W h l * 1048576 / 2 ^ n % 2 = l / 2 ^ (n - 20) % 2 := by
  have e : n = 20 + (n - 20) := by omega
  rw [e, ediv_pow, show (2 : Int) ^ 20 = 1048576 from rfl, Int.mul_ediv_cancel _ (by decide), show 20 + (n - 20) - 20 = n - 20 by omega]
  have hp := two_pow_pos (n - 20)
  have e2 : (18446744073709551616 : Int) = 2 ^ (n - 20) * (2 ^ (83 - n) * 2) := by
    have : (18446744073709551616 : Int) = 2 ^ ((n - 20) + (83 - n + 1)) := by rw [show (n - 20) + (83 - n + 1) = 64 by omega]; rfl
    rw [this, Int.pow_add, Int.pow_succ]
  have e3 : W h l = l + 2 ^ (n - 20) * (h * 2 ^ (83 - n) * 2) := by
    unfold W
    rw [e2, ← Int.mul_assoc h, Int.mul_comm h, Int.mul_assoc, Int.mul_assoc h]
    omega
  rw [e3, Int.add_mul_ediv_left _ _ (by omega)]
  omega
theorem rbit_no {A : Int} {n : Nat} (hn : n < 20) : A * 1048576 / 2 ^ n % 2 = 0 := by
  have hp := two_pow_pos n
  have e : (1048576 : Int) = 2 ^ n * (2 ^ (19 - n) * 2) := by
    have : (1048576 : Int) = 2 ^ (n + (19 - n + 1)) := by rw [show n + (19 - n + 1) = 20 by omega]; rfl
    rw [this, Int.pow_add, Int.pow_succ]
  have e3 : A * 1048576 = 2 ^ n * (A * 2 ^ (19 - n) * 2) := by
    rw [e, ← Int.mul_assoc A, Int.mul_comm A, Int.mul_assoc, Int.mul_assoc A]
  rw [e3, Int.mul_ediv_cancel_left _ (by omega)]
  omega
/-- One round up to the test of q. -/
theorem rround {ha la hb lb : Int} (a0 : 0 ≤ ha) (a1 : ha < 18446744073709551616) (b0 : 0 ≤ la) (b1 : la < 18446744073709551616) (n k : Nat) (hn : n ≤ 147) (q rh rl : Int) :
    pacemakerref10_Ratio.l0 (k + 1) q (n : Int) ha la hb lb rh rl = pacemakerref10_Ratio.j2 k q (n : Int) (rh / 9223372036854775808 == 1) (W ha la * 1048576 / 2 ^ n % 2) ha la hb lb rh rl := by
  simp only [pacemakerref10_Ratio.l0]
  rw [if_pos (by omega)]
  by_cases c : 84 ≤ n
  · rw [if_pos (by omega), wrap64_id (x := (n : Int) - 84) (by omega) (by omega), if_pos (by omega), shr_lt64 (by omega), rbit_hi a0 b0 b1 c, show ((n : Int) - 84).toNat = n - 84 by omega, Int.tmod_eq_emod_of_nonneg (Int.ediv_nonneg a0 (by have := two_pow_pos (n - 84); omega))]
  · rw [if_neg (by omega)]
    by_cases d : 20 ≤ n
    · rw [if_pos (by omega), wrap64_id (x := (n : Int) - 20) (by omega) (by omega), if_pos (by omega), shr_lt64 (by omega), rbit_lo a0 b0 b1 d (by omega), show ((n : Int) - 20).toNat = n - 20 by omega, Int.tmod_eq_emod_of_nonneg (Int.ediv_nonneg b0 (by have := two_pow_pos (n - 20); omega))]
    · rw [if_neg (by omega), rbit_no (by omega)]
theorem rhalf (N : Int) (n : Nat) : N / 2 ^ n = 2 * (N / 2 ^ (n + 1)) + N / 2 ^ n % 2 := by
  have := ediv_pow N n 1
  rw [show (2 : Int) ^ 1 = 2 from rfl] at this
  omega
open Go.Proofs.Th
theorem mn_top {q : Int} (h : 4611686018427387904 ≤ q) : mn q 4611686018427387904 = 4611686018427387904 := by unfold mn; split <;> omega
theorem mn_low {q : Int} (h : q ≤ 4611686018427387904) : mn q 4611686018427387904 = q := by unfold mn; split <;> omega
theorem ref_pos {ha la B : Int} (a0 : 0 ≤ ha) (a1 : ha < 18446744073709551616) (b0 : 0 ≤ la) (b1 : la < 18446744073709551616) (hA : 0 < W ha la) (hB : 0 < B) (hB1 : B < 340282366920938463463374607431768211456) :
    ∀ (n k : Nat) (q R : Int), 2 * n + 1 ≤ k → n ≤ 148 → 0 ≤ q → q < 2 * 4611686018427387904 → W ha la * 1048576 / 2 ^ n = q * B + R → 0 ≤ R → R < B →
    pacemakerref10_Ratio.l0 k q ((n : Int) - 1) ha la (hi64 B) (lo64 B) (hi64 R) (lo64 R) = some (ratioI (W ha la) B)
  | 0, k, q, R, hk, _, q0, q1, hN, r0, r1 => by
    obtain ⟨k, rfl⟩ : ∃ m, k = m + 1 := ⟨k - 1, by omega⟩
    simp only [pacemakerref10_Ratio.l0]
    rw [if_neg (by decide)]
    by_cases c : q < 4611686018427387904
    · have e := ratio_end hA hB hN r0 r1 c
      rw [if_pos c, rminus_eq (hi_nn (by omega)) (hi_lt hB1) (lo_nn _) (lo_lt _) (hi_nn r0) (hi_lt (by omega)) (lo_nn _) (lo_lt _), W_hl, W_hl, Int.emod_eq_of_lt (by omega) (by omega)]
      simp only [Option.bind_some]
      rw [rless_eq (lo_nn _) (lo_lt _) (lo_nn _) (lo_lt _), W_hl, W_hl]
      simp only [Option.bind_some, decide_eq_true_eq]
      rw [e]
      by_cases d : R < B - R
      · rw [if_pos d, if_neg (by omega), mn_low (by omega)]
      · rw [if_neg d, if_pos (by omega), wrap64_id (by omega) (by omega), mn_low (by omega)]
    · rw [if_neg c, mn_top (by omega), ratio_top hA hB hN r0 (by omega)]
  | n + 1, k, q, R, hk, hn, q0, q1, hN, r0, r1 => by
    obtain ⟨k, rfl⟩ : ∃ m, k = m + 2 := ⟨k - 2, by omega⟩
    have hb := rhalf (W ha la * 1048576) n
    rw [show ((n + 1 : Nat) : Int) - 1 = (n : Int) by omega, rround a0 a1 b0 b1 n (k + 1) (by omega)]
    obtain ⟨b, hb'⟩ : ∃ b, W ha la * 1048576 / 2 ^ n % 2 = b := ⟨_, rfl⟩
    have b01 : b = 0 ∨ b = 1 := by omega
    rw [hb'] at hb ⊢
    simp only [pacemakerref10_Ratio.j2]
    by_cases c : q ≥ 4611686018427387904
    · rw [if_pos c, ratio_top hA hB hN r0 (by omega)]
    · rw [if_neg c, rtop r0 (by omega), (rshift r0 (by omega) b01).1, (rshift r0 (by omega) b01).2, wrap64_id (x := 2 * q) (by omega) (by omega), wrap64_id (x := 2 * q + 1) (by omega) (by omega), wrap64_id (x := (n : Int) - 1) (by omega) (by omega)]
      have m1 : (2 * q + 1) * B = 2 * (q * B) + B := by rw [Int.add_mul, Int.mul_assoc]; omega
      have m2 : 2 * q * B = 2 * (q * B) := by rw [Int.mul_assoc]
      have hD0 : 0 ≤ (2 * R + b) % 340282366920938463463374607431768211456 := by omega
      have hD1 : (2 * R + b) % 340282366920938463463374607431768211456 < 340282366920938463463374607431768211456 := by omega
      have hmin := rminus_eq (hi_nn hD0) (hi_lt hD1) (lo_nn ((2 * R + b) % 340282366920938463463374607431768211456)) (lo_lt _) (hi_nn (Int.le_of_lt hB)) (hi_lt hB1) (lo_nn B) (lo_lt B)
      rw [W_hl, W_hl] at hmin
      have hless := rless_eq (h := hi64 ((2 * R + b) % 340282366920938463463374607431768211456)) (h' := hi64 B) (lo_nn ((2 * R + b) % 340282366920938463463374607431768211456)) (lo_lt _) (lo_nn B) (lo_lt B)
      rw [W_hl, W_hl] at hless
      rw [hmin, hless]
      simp only [Option.bind_some, decide_eq_true_eq]
      by_cases o : 340282366920938463463374607431768211456 ≤ 2 * R
      · have e : ((2 * R + b) % 340282366920938463463374607431768211456 - B) % 340282366920938463463374607431768211456 = 2 * R + b - B := by omega
        rw [if_pos o, e]
        exact ref_pos a0 a1 b0 b1 hA hB hB1 n k (2 * q + 1) (2 * R + b - B) (by omega) (by omega) (by omega) (by omega) (by rw [m1]; omega) (by omega) (by omega)
      · have e0 : (2 * R + b) % 340282366920938463463374607431768211456 = 2 * R + b := by omega
        rw [if_neg o, e0]
        by_cases l : 2 * R + b < B
        · rw [if_pos l]
          exact ref_pos a0 a1 b0 b1 hA hB hB1 n k (2 * q) (2 * R + b) (by omega) (by omega) (by omega) (by omega) (by rw [m2]; omega) (by omega) l
        · have e : (2 * R + b - B) % 340282366920938463463374607431768211456 = 2 * R + b - B := by omega
          rw [if_neg l, e]
          exact ref_pos a0 a1 b0 b1 hA hB hB1 n k (2 * q + 1) (2 * R + b - B) (by omega) (by omega) (by omega) (by omega) (by rw [m1]; omega) (by omega) (by omega)
theorem ref_zero {ha la : Int} (a0 : 0 ≤ ha) (a1 : ha < 18446744073709551616) (b0 : 0 ≤ la) (b1 : la < 18446744073709551616) :
    ∀ (n k : Nat) (q R : Int), 2 * n + 1 ≤ k → n ≤ 148 → q + 1 = 2 ^ (148 - n) → 0 ≤ R → R < 340282366920938463463374607431768211456 →
    pacemakerref10_Ratio.l0 k q ((n : Int) - 1) ha la 0 0 (hi64 R) (lo64 R) = some 4611686018427387904
  | 0, k, q, R, hk, _, hq, r0, r1 => by
    obtain ⟨k, rfl⟩ : ∃ m, k = m + 1 := ⟨k - 1, by omega⟩
    have : (2 : Int) ^ (148 - 0) = 356811923176489970264571492362373784095686656 := rfl
    simp only [pacemakerref10_Ratio.l0]
    rw [if_neg (by decide), if_neg (by omega), mn_top (by omega)]
  | n + 1, k, q, R, hk, hn, hq, r0, r1 => by
    obtain ⟨k, rfl⟩ : ∃ m, k = m + 2 := ⟨k - 2, by omega⟩
    have hp := two_pow_pos (148 - (n + 1))
    rw [show ((n + 1 : Nat) : Int) - 1 = (n : Int) by omega, rround a0 a1 b0 b1 n (k + 1) (by omega)]
    obtain ⟨b, hb'⟩ : ∃ b, W ha la * 1048576 / 2 ^ n % 2 = b := ⟨_, rfl⟩
    have b01 : b = 0 ∨ b = 1 := by omega
    rw [hb']
    simp only [pacemakerref10_Ratio.j2]
    by_cases c : q ≥ 4611686018427387904
    · rw [if_pos c]
    · have hq2 : (2 : Int) ^ (148 - n) = 2 * 2 ^ (148 - (n + 1)) := by rw [show 148 - n = 148 - (n + 1) + 1 by omega, Int.pow_succ]; omega
      rw [if_neg c, (rshift r0 r1 b01).1, (rshift r0 r1 b01).2, wrap64_id (x := 2 * q) (by omega) (by omega), wrap64_id (x := 2 * q + 1) (by omega) (by omega), wrap64_id (x := (n : Int) - 1) (by omega) (by omega)]
      have hD0 : 0 ≤ (2 * R + b) % 340282366920938463463374607431768211456 := by omega
      have hD1 : (2 * R + b) % 340282366920938463463374607431768211456 < 340282366920938463463374607431768211456 := by omega
      have hmin := rminus_eq (h' := 0) (l' := 0) (hi_nn hD0) (hi_lt hD1) (lo_nn ((2 * R + b) % 340282366920938463463374607431768211456)) (lo_lt _) (by decide) (by decide) (by decide) (by decide)
      have z : W 0 0 = 0 := rfl
      rw [W_hl, z, Int.sub_zero, Int.emod_eq_of_lt hD0 hD1] at hmin
      have hless := rless_eq (h := hi64 ((2 * R + b) % 340282366920938463463374607431768211456)) (h' := 0) (l' := 0) (lo_nn ((2 * R + b) % 340282366920938463463374607431768211456)) (lo_lt _) (by decide) (by decide)
      rw [W_hl, z, decide_eq_false (by omega)] at hless
      rw [hmin, hless]
      have hrec := ref_zero a0 a1 b0 b1 n k (2 * q + 1) ((2 * R + b) % 340282366920938463463374607431768211456) (by omega) (by omega) (by omega) hD0 hD1
      simp only [Option.bind_some, Bool.false_eq_true, if_false, hrec, ite_self]
theorem refRatio_eq {ha la hb lb : Int} (k : Nat) (hk : 300 ≤ k) (a0 : 0 ≤ ha) (a1 : ha < 18446744073709551616) (b0 : 0 ≤ la) (b1 : la < 18446744073709551616) (c0 : 0 ≤ hb) (c1 : hb < 18446744073709551616) (d0 : 0 ≤ lb) (d1 : lb < 18446744073709551616) :
    pacemakerref10_Ratio.f k ha la hb lb = some (ratioI (W ha la) (W hb lb)) := by
  obtain ⟨k, rfl⟩ : ∃ m, k = m + 1 := ⟨k - 1, by omega⟩
  have w0 := W_nn a0 b0
  have w1 := W_lt a1 b1
  have hz : ∀ x : Bool, pacemakerref10_Ratio.j0 (k + 1) x ha la hb lb = if x = true then some 0 else pacemakerref10_Ratio.l0 k 0 147 ha la hb lb 0 0 := fun x => rfl
  have e : pacemakerref10_Ratio.f (k + 1) ha la hb lb = if W ha la = 0 then some 0 else pacemakerref10_Ratio.l0 k 0 147 ha la hb lb 0 0 := by
    unfold pacemakerref10_Ratio.f
    rw [hz, hz]
    by_cases c : ha = 0
    · rw [if_pos c]
      by_cases d : la = 0
      · rw [if_pos (show W ha la = 0 by unfold W; omega), d]; rfl
      · rw [if_neg (show ¬ W ha la = 0 by unfold W; omega), show (la == 0) = false from beq_eq_false_iff_ne.2 d]; rfl
    · rw [if_neg c, if_neg (show ¬ W ha la = 0 by unfold W; omega)]; rfl
  rw [e]
  by_cases z : W ha la = 0
  · rw [if_pos z, z]; rfl
  rw [if_neg z]
  have h0 : hi64 0 = 0 := rfl
  have l0 : lo64 0 = 0 := rfl
  by_cases y : W hb lb = 0
  · have r := ref_zero a0 a1 b0 b1 148 k 0 0 (by omega) (by omega) (by decide) (by decide) (by decide)
    rw [h0, l0] at r
    have e1 : hb = 0 := by unfold W at y; omega
    have e2 : lb = 0 := by unfold W at y; omega
    have e3 : ratioI (W ha la) (W hb lb) = 4611686018427387904 := by unfold ratioI; rw [if_neg z, if_pos y]
    rw [e3, e1, e2]
    exact r
  · have hN : W ha la * 1048576 / 2 ^ 148 = 0 * W hb lb + 0 := by
      have : (2 : Int) ^ 148 = 356811923176489970264571492362373784095686656 := rfl
      rw [this]; omega
    have r := ref_pos (B := W hb lb) a0 a1 b0 b1 (by omega) (by have := W_nn c0 d0; omega) (W_lt c1 d1) 148 k 0 0 (by omega) (by omega) (by decide) (by decide) hN (by decide) (by have := W_nn c0 d0; omega)
    rw [h0, l0, hi_W d0 d1, lo_W d0 d1] at r
    exact r

end Go.Proofs.Ytcmbogdilplmlaa.P
