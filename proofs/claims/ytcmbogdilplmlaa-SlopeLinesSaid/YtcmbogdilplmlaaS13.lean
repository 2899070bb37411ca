import Derived.Test.YtcmbogdilplmlaaPx3
import Derived.Test.YtcmbogdilplmlaaS9
import Derived.Test.YtcmbogdilplmlaaPx4
import Derived.Test.YtcmbogdilplmlaaPx5
import Derived.Test.YtcmbogdilplmlaaS11
import Derived.Test.YtcmbogdilplmlaaS10
namespace Go.Proofs.Ytcmbogdilplmlaa.P
open Go.RowKit Go.Proofs.YtcmbogdilplmlaaW.PrintWords Go.Proofs.YtcmbogdilplmlaaW.PrintLast Go.Proofs.YtcmbogdilplmlaaW.PrintMore Go.Proofs.YtcmbogdilplmlaaX
attribute [local go_sem] max2_int min2_int max_two min_two max_three min_three max_four min_four
set_option linter.unusedVariables false
set_option linter.unusedSimpArgs false
open Go.Proofs.Th
theorem sqrt_or {q : Int} {d : Nat} (q0 : 0 ≤ q) (hd : d < 64) (hlt : q * 2 ^ (d + 1) + 2 ^ (d + 1) ≤ 18446744073709551616) : Go.bits .or .u64 (q * 2 ^ (d + 1)) (2 ^ d) = (2 * q + 1) * 2 ^ d := by
  have hp := two_pow_pos d
  have hpow : (2 : Int) ^ (d + 1) = 2 * 2 ^ d := by rw [Int.pow_succ]; omega
  have e : q * 2 ^ (d + 1) = 2 * q * 2 ^ d := by rw [hpow]; grind
  have h0 : 0 ≤ q * 2 ^ (d + 1) := Int.mul_nonneg q0 (by omega)
  rw [or_bit h0 (by omega) hd (by rw [e, Int.mul_ediv_cancel _ (by omega)]; omega), e]
  grind

theorem sqrt_l0 {h l : Int} (a0 : 0 ≤ h) (a1 : h < 18446744073709551616) (b0 : 0 ≤ l) (b1 : l < 18446744073709551616) {m : Nat} (hm : m ≤ 64) (d : Nat) :
    ∀ (k : Nat) (q : Int), d + 1 ≤ k → d ≤ m → 0 ≤ q → q * 2 ^ d + 2 ^ d ≤ 18446744073709551616 → q * 2 ^ d * (q * 2 ^ d) ≤ W h l → W h l < (q * 2 ^ d + 2 ^ d) * (q * 2 ^ d + 2 ^ d) →
    root_SqrtWide.l0 k (q * 2 ^ d) m m ((m : Int) - d) h l = some (isq (W h l)) := by
  have w0 := W_nn a0 b0; have w1 := W_lt a1 b1
  induction d with
  | zero =>
    intro k q hk hd q0 hb hlo hhi
    obtain ⟨k, rfl⟩ : ∃ n, k = n + 1 := ⟨k - 1, by omega⟩
    simp only [root_SqrtWide.l0]
    simp only [Int.pow_zero, Int.mul_one] at *
    rw [if_neg (by omega), isq_eq q0 hlo hhi]
  | succ d ih =>
    intro k q hk hd q0 hb hlo hhi
    obtain ⟨k, rfl⟩ : ∃ n, k = n + 1 := ⟨k - 1, by omega⟩
    have hp := two_pow_pos d
    have hpow : (2 : Int) ^ (d + 1) = 2 * 2 ^ d := by rw [Int.pow_succ]; omega
    have e : q * 2 ^ (d + 1) = 2 * q * 2 ^ d := by rw [hpow]; grind
    have et : (2 * q + 1) * 2 ^ d = q * 2 ^ (d + 1) + 2 ^ d := by rw [hpow]; grind
    have h0 : 0 ≤ q * 2 ^ (d + 1) := Int.mul_nonneg q0 (by omega)
    have hshl : shl .u64 1 (wrap64 (wrap64 ((m : Int) - 1) - ((m : Int) - ((d + 1 : Nat) : Int)))) = 2 ^ d := by
      rw [wrap64_id (x := (m : Int) - 1) (by omega) (by omega), wrap64_id (by omega) (by omega), show (m : Int) - 1 - ((m : Int) - ((d + 1 : Nat) : Int)) = (d : Int) by omega, shl_lt64 (by omega), Int.one_mul, Int.toNat_natCast]
      have := (pow_lt_pow_iff (a := d) (b := 64)).2 (by omega)
      rw [show (2 : Int) ^ 64 = 18446744073709551616 from rfl] at this
      exact Int.emod_eq_of_lt (by omega) this
    simp only [root_SqrtWide.l0]
    rw [if_pos (by omega), hshl, if_pos (by rw [wrap64_id (x := (m : Int) - 1) (by omega) (by omega), wrap64_id (by omega) (by omega)]; omega), sqrt_or q0 (by omega) hb]
    have t0 : 0 ≤ (2 * q + 1) * 2 ^ d := by omega
    have t1 : (2 * q + 1) * 2 ^ d < 18446744073709551616 := by omega
    rw [wide_Mul_eq t0 t1 t0 t1]
    simp only [Option.bind_some]
    rw [wide_Cmp_eq (lo_nn _) (lo_lt _) b0 b1, W_hl, wrap64_id (x := (m : Int) - ((d + 1 : Nat) : Int) + 1) (by omega) (by omega), show (m : Int) - ((d + 1 : Nat) : Int) + 1 = (m : Int) - d by omega]
    simp only [Option.bind_some]
    by_cases c : W h l < (2 * q + 1) * 2 ^ d * ((2 * q + 1) * 2 ^ d)
    · have hyes : (if (2 * q + 1) * 2 ^ d * ((2 * q + 1) * 2 ^ d) < W h l then (-1 : Int) else if W h l < (2 * q + 1) * 2 ^ d * ((2 * q + 1) * 2 ^ d) then 1 else 0) > 0 := by
        rw [if_neg (by omega), if_pos c]; decide
      rw [if_pos hyes, e]
      refine ih k (2 * q) (by omega) (by omega) (by omega) (by omega) (by rw [← e]; exact hlo) ?_
      have e2 : 2 * q * 2 ^ d + 2 ^ d = (2 * q + 1) * 2 ^ d := by grind
      rw [e2]; exact c
    · have e3 : (2 * q + 1) * 2 ^ d + 2 ^ d = q * 2 ^ (d + 1) + 2 ^ (d + 1) := by rw [hpow]; grind
      have hno : ¬ ((if (2 * q + 1) * 2 ^ d * ((2 * q + 1) * 2 ^ d) < W h l then (-1 : Int) else if W h l < (2 * q + 1) * 2 ^ d * ((2 * q + 1) * 2 ^ d) then 1 else 0) > 0) := by
        split
        · decide
        · decide
      rw [if_neg hno]
      exact ih k (2 * q + 1) (by omega) (by omega) (by omega) (by omega) (by omega) (by rw [e3]; exact hhi)

theorem root_SqrtWide_eq {h l : Int} (k : Nat) (hk : 70 ≤ k) (a0 : 0 ≤ h) (a1 : h < 18446744073709551616) (b0 : 0 ≤ l) (b1 : l < 18446744073709551616) :
    root_SqrtWide.f k h l = some (isq (W h l)) := by
  unfold root_SqrtWide.f
  have w0 := W_nn a0 b0; have w1 := W_lt a1 b1
  have hb := blen_128 w0 w1
  rw [wide_Len_eq k (by omega) a0 a1 b0 b1]
  simp only [Option.bind_some]
  rw [wrap64_id (x := (blen (W h l) : Int) + 1) (by omega) (by omega), Int.tdiv_eq_ediv_of_nonneg (by omega), wrap64_id (by omega) (by omega)]
  obtain ⟨m, hm⟩ : ∃ m : Nat, m = (blen (W h l) + 1) / 2 := ⟨_, rfl⟩
  rw [show ((blen (W h l) : Int) + 1) / 2 = (m : Int) by omega]
  have hlt := blen_lt w0 w1
  have hle := (pow_le_pow_iff (a := blen (W h l)) (b := m + m)).2 (by omega)
  have hpw := pow_le64 (n := m) (by omega)
  have := sqrt_l0 a0 a1 b0 b1 (m := m) (by omega) m k 0 (by omega) (by omega) (by omega) (by omega) (by rw [Int.zero_mul]; exact w0) (by rw [Int.zero_mul, Int.zero_add, ← Int.pow_add]; omega)
  rwa [Int.zero_mul, Int.sub_self] at this

theorem isq_lt64 {a : Int} (h0 : 0 ≤ a) (h1 : a < 340282366920938463463374607431768211456) : isq a < 18446744073709551616 := isq_lt_of h0 (by decide) (by omega)
theorem W0 (x : Int) : W 0 x = x := by unfold W; omega
open Go.Proofs.Th
theorem right_bd (a0 a1 a2 a3 a4 a5 a6 a7 a8 a9 a10 a11 a12 a13 a14 : Int) (h : rightB a0 a1 a2 a3 a4 a5 a6 a7 a8 a9 a10 a11 a12 a13 a14 = true) : (0 ≤ a9 ∧ a9 ≤ 1024) ∧ (0 ≤ a10 ∧ a10 ≤ a9 * 60000000) ∧ (0 ≤ a11 ∧ a11 ≤ a9 * 60000000) ∧ (0 ≤ a12 ∧ a12 ≤ a9 * 3600000000000000) ∧ (0 ≤ a13 ∧ a13 ≤ a9 * 3600000000000000) ∧ (0 ≤ a14 ∧ a14 ≤ a9 * 3600000000000000) := by
  unfold rightB at h
  rw [Bool.and_eq_true] at h
  have h := h.2
  unfold samplesB inB at h
  simp only [Bool.and_eq_true, decide_eq_true_eq] at h
  omega
theorem told_eq (a0 a1 a2 a3 a4 a5 a6 a7 a8 a9 a10 a11 a12 a13 a14 : Int) : slope_told.f a0 a1 a2 a3 a4 a5 a6 a7 a8 a9 a10 a11 a12 a13 a14 = some (rightB a0 a1 a2 a3 a4 a5 a6 a7 a8 a9 a10 a11 a12 a13 a14 && decide (0 < a9)) := by
  unfold slope_told.f account_Is.f
  simp only [Option.bind_some]
  cases rightB a0 a1 a2 a3 a4 a5 a6 a7 a8 a9 a10 a11 a12 a13 a14
  · rfl
  · rw [if_pos rfl, Bool.true_and]
theorem told_yes (a0 a1 a2 a3 a4 a5 a6 a7 a8 a9 a10 a11 a12 a13 a14 : Int) (h : rightB a0 a1 a2 a3 a4 a5 a6 a7 a8 a9 a10 a11 a12 a13 a14 = true) (hn : 0 < a9) : slope_told.f a0 a1 a2 a3 a4 a5 a6 a7 a8 a9 a10 a11 a12 a13 a14 = some true := by rw [told_eq, h, decide_eq_true hn]; rfl
theorem told_no (a0 a1 a2 a3 a4 a5 a6 a7 a8 a9 a10 a11 a12 a13 a14 : Int) (h : rightB a0 a1 a2 a3 a4 a5 a6 a7 a8 a9 a10 a11 a12 a13 a14 = false ∨ a9 ≤ 0) : slope_told.f a0 a1 a2 a3 a4 a5 a6 a7 a8 a9 a10 a11 a12 a13 a14 = some false := by
  rw [told_eq]
  rcases h with h | h
  · rw [h]; rfl
  · rw [decide_eq_false (by omega), Bool.and_false]
theorem mean_no (a0 a1 a2 a3 a4 a5 a6 a7 a8 a9 a10 a11 a12 a13 a14 : Int) (h : rightB a0 a1 a2 a3 a4 a5 a6 a7 a8 a9 a10 a11 a12 a13 a14 = false ∨ a9 ≤ 0) : slope_Mean.f a0 a1 a2 a3 a4 a5 a6 a7 a8 a9 a10 a11 a12 a13 a14 = some 0 := by
  unfold slope_Mean.f
  rw [told_no _ _ _ _ _ _ _ _ _ _ _ _ _ _ _ h]; rfl
theorem dev_no (a0 a1 a2 a3 a4 a5 a6 a7 a8 a9 a10 a11 a12 a13 a14 : Int) (k : Nat) (h : rightB a0 a1 a2 a3 a4 a5 a6 a7 a8 a9 a10 a11 a12 a13 a14 = false ∨ a9 ≤ 0) : slope_Dev.f k a0 a1 a2 a3 a4 a5 a6 a7 a8 a9 a10 a11 a12 a13 a14 = some 0 := by
  unfold slope_Dev.f
  rw [told_no _ _ _ _ _ _ _ _ _ _ _ _ _ _ _ h]; rfl
theorem grade_no (a0 a1 a2 a3 a4 a5 a6 a7 a8 a9 a10 a11 a12 a13 a14 : Int) (k : Nat) (h : rightB a0 a1 a2 a3 a4 a5 a6 a7 a8 a9 a10 a11 a12 a13 a14 = false ∨ a9 ≤ 0) : slope_Grade.f k a0 a1 a2 a3 a4 a5 a6 a7 a8 a9 a10 a11 a12 a13 a14 = some 0 := by
  unfold slope_Grade.f
  rw [told_no _ _ _ _ _ _ _ _ _ _ _ _ _ _ _ h]; rfl
theorem Ratio_low {x y : Int} (x0 : 0 ≤ x) (x1 : x < 18446744073709551616) (y0 : 0 ≤ y) (y1 : y < 18446744073709551616) : slope_Ratio.f 0 x 0 y = some (ratioI x y) := by
  unfold slope_Ratio.f
  rw [if_pos (by omega)]
  have e : ∀ v, W 0 v = v := fun v => by unfold W; omega
  rw [e, e]
theorem Ratio_wide {x y : Int} (x0 : 0 ≤ x) (x1 : x < 340282366920938463463374607431768211456) (y0 : 0 ≤ y) (y1 : y < 340282366920938463463374607431768211456) : slope_Ratio.f (hi64 x) (lo64 x) (hi64 y) (lo64 y) = some (ratioI x y) := by
  unfold slope_Ratio.f
  rw [if_pos ⟨hi_nn x0, hi_lt x1, lo_nn x, lo_lt x, hi_nn y0, hi_lt y1, lo_nn y, lo_lt y⟩, W_hl, W_hl]
theorem u64_in {x : Int} (x0 : 0 ≤ x) (x1 : x < 18446744073709551616) : IntKind.u64.wrap x = x := u64_id x0 x1
theorem mean_yes (a0 a1 a2 a3 a4 a5 a6 a7 a8 a9 a10 a11 a12 a13 a14 : Int) (h : rightB a0 a1 a2 a3 a4 a5 a6 a7 a8 a9 a10 a11 a12 a13 a14 = true) (hn : 0 < a9) : slope_Mean.f a0 a1 a2 a3 a4 a5 a6 a7 a8 a9 a10 a11 a12 a13 a14 = some (ratioI a11 a9) := by
  have b := right_bd _ _ _ _ _ _ _ _ _ _ _ _ _ _ _ h
  unfold slope_Mean.f slope_low.f
  rw [told_yes _ _ _ _ _ _ _ _ _ _ _ _ _ _ _ h hn]
  simp only [Option.bind_some, if_true]
  rw [u64_in (by omega) (by omega), u64_in (by omega) (by omega), Ratio_low (by omega) (by omega) (by omega) (by omega)]
  rfl
theorem apart_eq {x y u v : Int} (x0 : 0 ≤ x) (x1 : x < 9223372036854775808) (y0 : 0 ≤ y) (y1 : y < 9223372036854775808) (u0 : 0 ≤ u) (u1 : u < 9223372036854775808) (v0 : 0 ≤ v) (v1 : v < 9223372036854775808) :
    slope_apart.f x y u v = some (if x * y < u * v then (hi64 (u * v - x * y), lo64 (u * v - x * y), true) else (hi64 (x * y - u * v), lo64 (x * y - u * v), false)) := by
  unfold slope_apart.f
  rw [if_pos ⟨x0, x1, y0, y1, u0, u1, v0, v1⟩]
  by_cases c : x * y < u * v
  · simp only [c, if_true, decide_true]
  · simp only [c, if_false, decide_false]
def devI (n r rr : Int) : Int := if n * rr < r * r then 0 else ratioI (isq (n * rr - r * r)) n
def gradeI (n t r tt tr : Int) : Int := if n * tt - t * t ≤ 0 then 0 else if n * tr - t * r < 0 then -(ratioI (-(n * tr - t * r)) (n * tt - t * t)) else ratioI (n * tr - t * r) (n * tt - t * t)
theorem dev_end {q n : Int} (h0 : 0 ≤ q) (h1 : q < 18446744073709551616) (n0 : 0 ≤ n) (n1 : n < 18446744073709551616) : ((some q).bind fun t107 => (slope_Ratio.f 0 t107 0 (IntKind.u64.wrap n)).bind fun t112 => some t112) = some (ratioI q n) := by
  simp only [Option.bind_some]
  rw [u64_in n0 n1, Ratio_low h0 h1 n0 n1]
  simp only [Option.bind_some]
theorem dev_yes (a0 a1 a2 a3 a4 a5 a6 a7 a8 a9 a10 a11 a12 a13 a14 : Int) (k : Nat) (hk : 70 ≤ k) (h : rightB a0 a1 a2 a3 a4 a5 a6 a7 a8 a9 a10 a11 a12 a13 a14 = true) (hn : 0 < a9) : slope_Dev.f k a0 a1 a2 a3 a4 a5 a6 a7 a8 a9 a10 a11 a12 a13 a14 = some (devI a9 a11 a14) := by
  have b := right_bd _ _ _ _ _ _ _ _ _ _ _ _ _ _ _ h
  have p1 : a9 * a14 ≤ 1024 * 3686400000000000000 := Int.mul_le_mul (by omega) (by omega) (by omega) (by omega)
  have q0 := Int.mul_nonneg b.2.2.1.1 b.2.2.1.1
  unfold slope_Dev.f slope_low.f devI
  rw [told_yes _ _ _ _ _ _ _ _ _ _ _ _ _ _ _ h hn]
  simp only [Option.bind_some, if_true]
  rw [apart_eq (by omega) (by omega) (by omega) (by omega) (by omega) (by omega) (by omega) (by omega)]
  simp only [Option.bind_some]
  by_cases c : a9 * a14 < a11 * a11
  · rw [if_pos c, if_pos c]
    simp only [if_true]
  · rw [if_neg c, if_neg c]
    have h0 : 0 ≤ a9 * a14 - a11 * a11 := by omega
    simp only [Bool.false_eq_true, if_false]
    rw [root_SqrtWide_eq k hk (hi_nn h0) (hi_lt (by omega)) (lo_nn _) (lo_lt _), W_hl]
    exact dev_end (isq_nn _) (isq_lt64 h0 (by omega)) (by omega) (by omega)
theorem grade_yes (a0 a1 a2 a3 a4 a5 a6 a7 a8 a9 a10 a11 a12 a13 a14 : Int) (k : Nat) (hk : 1 ≤ k) (h : rightB a0 a1 a2 a3 a4 a5 a6 a7 a8 a9 a10 a11 a12 a13 a14 = true) (hn : 0 < a9) : slope_Grade.f k a0 a1 a2 a3 a4 a5 a6 a7 a8 a9 a10 a11 a12 a13 a14 = some (gradeI a9 a10 a11 a12 a13) := by
  have b := right_bd _ _ _ _ _ _ _ _ _ _ _ _ _ _ _ h
  have p1 : a9 * a12 ≤ 1024 * 3686400000000000000 := Int.mul_le_mul (by omega) (by omega) (by omega) (by omega)
  have p2 : a9 * a13 ≤ 1024 * 3686400000000000000 := Int.mul_le_mul (by omega) (by omega) (by omega) (by omega)
  have p3 := Int.mul_nonneg b.1.1 b.2.2.2.2.1.1
  have q0 := Int.mul_nonneg b.2.1.1 b.2.1.1
  have q1 := Int.mul_nonneg b.2.1.1 b.2.2.1.1
  have q2 : a10 * a11 ≤ 61440000000 * 61440000000 := Int.mul_le_mul (by omega) (by omega) (by omega) (by omega)
  obtain ⟨k, rfl⟩ : ∃ m, k = m + 1 := ⟨k - 1, by omega⟩
  unfold slope_Grade.f slope_low.f gradeI
  rw [told_yes _ _ _ _ _ _ _ _ _ _ _ _ _ _ _ h hn]
  simp only [Option.bind_some, if_true]
  rw [apart_eq (by omega) (by omega) (by omega) (by omega) (by omega) (by omega) (by omega) (by omega)]
  simp only [Option.bind_some]
  by_cases c : a9 * a12 < a10 * a10
  · rw [if_pos c, if_pos (show a9 * a12 - a10 * a10 ≤ 0 by omega)]
    simp only [if_true, slope_Grade.j0]
  · rw [if_neg c]
    have hz : (hi64 (a9 * a12 - a10 * a10) == 0 && lo64 (a9 * a12 - a10 * a10) == 0) = decide (a9 * a12 - a10 * a10 = 0) := by
      rw [wz]; rfl
    by_cases d : a9 * a12 - a10 * a10 = 0
    · rw [if_pos (show a9 * a12 - a10 * a10 ≤ 0 by omega)]
      have hz' : (hi64 (a9 * a12 - a10 * a10) == 0 && lo64 (a9 * a12 - a10 * a10) == 0) = true := by rw [hz, decide_eq_true d]
      simp only [Bool.false_eq_true, if_false, slope_Grade.j0, hz', if_true]
    · rw [if_neg (show ¬ a9 * a12 - a10 * a10 ≤ 0 by omega)]
      have hz' : (hi64 (a9 * a12 - a10 * a10) == 0 && lo64 (a9 * a12 - a10 * a10) == 0) = false := by rw [hz, decide_eq_false d]
      simp only [Bool.false_eq_true, if_false, slope_Grade.j0, hz']
      rw [apart_eq (by omega) (by omega) (by omega) (by omega) (by omega) (by omega) (by omega) (by omega)]
      simp only [Option.bind_some]
      by_cases e : a9 * a13 < a10 * a11
      · have r := ratio_rng (A := a10 * a11 - a9 * a13) (B := a9 * a12 - a10 * a10) (by omega) (by omega)
        rw [if_pos e, if_pos (show a9 * a13 - a10 * a11 < 0 by omega), if_pos rfl, Ratio_wide (by omega) (by omega) (by omega) (by omega), show -(a9 * a13 - a10 * a11) = a10 * a11 - a9 * a13 by omega]
        simp only [Option.bind_some]
        rw [wrap64_id (by omega) (by omega)]
      · rw [if_neg e, if_neg (show ¬ a9 * a13 - a10 * a11 < 0 by omega)]
        simp only [Bool.false_eq_true, if_false]
        rw [Ratio_wide (by omega) (by omega) (by omega) (by omega)]
        simp only [Option.bind_some]

end Go.Proofs.Ytcmbogdilplmlaa.P
