/- What the reference of layer 3 tells: digit by digit, the same roots; and layer 2's product by quarters. -/
import Derived.Test.YtpfhlimcemkneaaPx5
import Derived.Test.YtpfhlimcemkneaaPx4
import Derived.Test.YtpfhlimcemkneaaSq
set_option linter.unusedVariables false
set_option linter.unusedSimpArgs false
namespace Go.Proofs.Ytpfhlimcemkneaa.P
open Go.RowKit Go.Proofs.Th Go.Proofs.YtpfhlimcemkneaaW.PrintWords Go.Proofs.YtpfhlimcemkneaaW.PrintMore

theorem pow_double (d : Nat) : (2 : Int) ^ (2 * d + 2) = 4 * 2 ^ (2 * d) := by rw [Int.pow_add]; omega
theorem mod4_even (x y : Int) {n : Nat} (hn : 2 ≤ n) : (x * 2 ^ n + y) % 4 = y % 4 := by
  have : (2 : Int) ^ n = 2 ^ (n - 2) * 4 := by rw [show n = (n - 2) + 2 by omega, Int.pow_add]; simp only [Nat.add_sub_cancel]; rfl
  rw [this, ← Int.mul_assoc]; omega
theorem ref_two {h l : Int} {i : Int} (i0 : 0 ≤ i) (i1 : i < 64) (a0 : 0 ≤ h) (a1 : h < 18446744073709551616) (b0 : 0 ≤ l) (b1 : l < 18446744073709551616) :
    pacemakerref03_two.f h l i = some (W h l / 2 ^ (2 * i.toNat) % 4) := by
  unfold pacemakerref03_two.f
  by_cases hi : i ≥ 32
  · rw [if_pos hi, wrap64_id (x := i - 32) (by omega) (by omega), wrap64_id (by omega) (by omega), if_pos (by omega), shr_lt64 (by omega), W_bit_hi (by omega) b0 b1, show (2 * (i - 32)).toNat = 2 * i.toNat - 64 by omega]
    rw [Int.tmod_eq_emod_of_nonneg (Int.ediv_nonneg a0 (Int.le_of_lt (two_pow_pos _)))]
  · rw [if_neg hi, wrap64_id (by omega) (by omega), if_pos (by omega), shr_lt64 (by omega), show (2 * i).toNat = 2 * i.toNat by omega]
    rw [Int.tmod_eq_emod_of_nonneg (Int.ediv_nonneg b0 (Int.le_of_lt (two_pow_pos _))), W_shr (by omega) a0 b0 b1]
    have e := mod4_even (h / 2 ^ (2 * i.toNat)) (h % 2 ^ (2 * i.toNat) * 2 ^ (64 - 2 * i.toNat) + l / 2 ^ (2 * i.toNat)) (n := 64) (by decide)
    rw [show (2 : Int) ^ 64 = 18446744073709551616 from rfl] at e
    unfold W
    rw [e, mod4_even _ _ (by omega)]

/-- What is left of a number behind its root, and one more pair of bits. -/
theorem sqrt_next {A r R t : Int} (r0 : 0 ≤ r) (hr : r * r + R = A) (hR0 : 0 ≤ R) (hR : R ≤ 2 * r) (t0 : 0 ≤ t) (t1 : t < 4) :
    (4 * r + 1 ≤ 4 * R + t → (2 * r + 1) * (2 * r + 1) + (4 * R + t - (4 * r + 1)) = 4 * A + t ∧ 4 * R + t - (4 * r + 1) ≤ 2 * (2 * r + 1)) ∧
    (¬ 4 * r + 1 ≤ 4 * R + t → 2 * r * (2 * r) + (4 * R + t) = 4 * A + t ∧ 4 * R + t ≤ 2 * (2 * r)) := by
  subst hr
  constructor
  · intro _
    constructor
    · grind
    · omega
  · intro _
    constructor
    · grind
    · omega

theorem or_low {x t : Int} (x0 : 0 ≤ x) (x1 : x < 18446744073709551616) (hx : x % 4 = 0) (t0 : 0 ≤ t) (t1 : t < 4) : Go.bits .or .u64 x t = x + t :=
  or_join 2 x0 hx x1 t0 t1 (by omega)
theorem or_one {x : Int} (x0 : 0 ≤ x) (x1 : x < 18446744073709551616) (hx : x % 2 = 0) : Go.bits .or .u64 x 1 = x + 1 :=
  or_join 1 x0 hx x1 (by decide) (by decide) (by decide)

theorem sq_small {r A : Int} {m : Nat} (r0 : 0 ≤ r) (hle : r * r ≤ A) (hA : A < 2 ^ (2 * m)) : r < 2 ^ m := by
  refine sq_lt_of r0 (Int.le_of_lt (two_pow_pos m)) ?_
  rw [← Int.pow_add, show m + m = 2 * m by omega]; omega

theorem ref_sqrt_l0 {h l : Int} (a0 : 0 ≤ h) (a1 : h < 18446744073709551616) (b0 : 0 ≤ l) (b1 : l < 18446744073709551616) (d : Nat) :
    ∀ (k : Nat) (r R rest : Int) (over : Bool), 3 * d + 1 ≤ k → d ≤ 64 → 0 ≤ r → 0 ≤ R → R ≤ 2 * r → r * r + R = W h l / 2 ^ (2 * d) → rest = R % 18446744073709551616 → over = decide (18446744073709551616 ≤ R) →
    pacemakerref03_SqrtWide.l0 k r rest over ((d : Int) - 1) h l = some (isq (W h l)) := by
  have w0 := W_nn a0 b0; have w1 := W_lt a1 b1
  induction d with
  | zero =>
    intro k r R rest over hk hd r0 R0 R1 he _ _
    obtain ⟨k, rfl⟩ : ∃ n, k = n + 1 := ⟨k - 1, by omega⟩
    simp only [pacemakerref03_SqrtWide.l0]
    simp only [Nat.mul_zero, Int.pow_zero, Int.ediv_one] at he
    rw [if_neg (by omega), isq_eq r0 (by omega) (by have : (r + 1) * (r + 1) = r * r + 2 * r + 1 := by grind
                                                    omega)]
  | succ d ih =>
    intro k r R rest over hk hd r0 R0 R1 he hrest hover
    obtain ⟨k, rfl⟩ : ∃ n, k = n + 3 := ⟨k - 3, by omega⟩
    have hp := two_pow_pos (2 * d)
    have hA0 : 0 ≤ W h l / 2 ^ (2 * (d + 1)) := Int.ediv_nonneg w0 (Int.le_of_lt (two_pow_pos _))
    have hAlt : W h l / 2 ^ (2 * (d + 1)) < 2 ^ (2 * (63 - d)) := by
      apply Int.ediv_lt_of_lt_mul (two_pow_pos _)
      rw [← Int.pow_add, show 2 * (63 - d) + 2 * (d + 1) = 128 by omega]
      exact w1
    have hrlt := sq_small (m := 63 - d) r0 (by omega) hAlt
    have hr63 := (pow_le_pow_iff (a := 63 - d) (b := 63)).2 (by omega)
    rw [show (2 : Int) ^ 63 = 9223372036854775808 from rfl] at hr63
    have hdd : W h l / 2 ^ (2 * d) = 4 * (W h l / 2 ^ (2 * (d + 1))) + W h l / 2 ^ (2 * d) % 4 := by
      rw [show 2 * (d + 1) = 2 * d + 2 by omega, ediv_pow, show (2 : Int) ^ 2 = 4 from rfl]; omega
    generalize hA : W h l / 2 ^ (2 * (d + 1)) = A at *
    have ht0 : 0 ≤ W h l / 2 ^ (2 * d) % 4 := Int.emod_nonneg _ (by decide)
    have ht1 : W h l / 2 ^ (2 * d) % 4 < 4 := Int.emod_lt_of_pos _ (by decide)
    have hn := sqrt_next r0 he R0 R1 ht0 ht1
    rw [← hdd] at hn
    have htwo := ref_two (i := (d : Int)) (by omega) (by omega) a0 a1 b0 b1
    rw [Int.toNat_natCast] at htwo
    generalize W h l / 2 ^ (2 * d) % 4 = t at *
    have main : pacemakerref03_SqrtWide.j1 (k + 1 + 1) r rest d (R / 4611686018427387904) h l = some (isq (W h l)) := by
      simp only [pacemakerref03_SqrtWide.j1]
      rw [htwo]
      simp only [Option.bind_some]
      rw [u64_id (x := r * 2) (by omega) (by omega), u64_wrap (rest * 4), u64_wrap (r * 4)]
      rw [or_low (x := rest * 4 % 18446744073709551616) (by omega) (by omega) (by omega) ht0 ht1, or_one (x := r * 4 % 18446744073709551616) (by omega) (by omega) (by omega)]
      have yes : ∀ over' rest', 4 * r + 1 ≤ 4 * R + t → rest' = (4 * R + t - (4 * r + 1)) % 18446744073709551616 → over' = decide (18446744073709551616 ≤ 4 * R + t - (4 * r + 1)) →
          pacemakerref03_SqrtWide.l0 k (Go.bits .or .u64 (r * 2) 1) rest' over' (wrap64 ((d : Int) - 1)) h l = some (isq (W h l)) := by
        intro over' rest' hc h1 h2
        rw [or_one (by omega) (by omega) (by omega), wrap64_id (by omega) (by omega)]
        obtain ⟨g1, g2⟩ := hn.1 hc
        refine ih k (r * 2 + 1) (4 * R + t - (4 * r + 1)) rest' over' (by omega) (by omega) (by omega) (by omega) (by omega) ?_ h1 h2
        rw [← g1]; grind
      have no : ∀ over' rest', ¬ 4 * r + 1 ≤ 4 * R + t → rest' = (4 * R + t) % 18446744073709551616 → over' = decide (18446744073709551616 ≤ 4 * R + t) →
          pacemakerref03_SqrtWide.l0 k (r * 2) rest' over' (wrap64 ((d : Int) - 1)) h l = some (isq (W h l)) := by
        intro over' rest' hc h1 h2
        rw [wrap64_id (by omega) (by omega)]
        obtain ⟨g1, g2⟩ := hn.2 hc
        refine ih k (r * 2) (4 * R + t) rest' over' (by omega) (by omega) (by omega) (by omega) (by omega) ?_ h1 h2
        rw [← g1]; grind
      have j2yes : 4 * r + 1 ≤ 4 * R + t → pacemakerref03_SqrtWide.j2 (k + 1) (r * 2) (rest * 4 % 18446744073709551616 + t) d (R / 4611686018427387904) (r * 4 % 18446744073709551616 + 1) (r / 4611686018427387904) true h l = some (isq (W h l)) := by
        intro hc
        simp only [pacemakerref03_SqrtWide.j2, if_true]
        by_cases c : rest * 4 % 18446744073709551616 + t < r * 4 % 18446744073709551616 + 1
        · rw [if_pos c]
          refine yes _ _ hc (by rw [u64_wrap]; omega) ?_
          rw [decide_eq_decide, u64_id (x := R / 4611686018427387904 - 1) (by omega) (by omega), u64_id (by omega) (by omega)]
          omega
        · rw [if_neg c]
          refine yes _ _ hc (by rw [u64_wrap]; omega) ?_
          rw [decide_eq_decide, u64_id (by omega) (by omega)]
          omega
      have j2no : ¬ 4 * r + 1 ≤ 4 * R + t → pacemakerref03_SqrtWide.j2 (k + 1) (r * 2) (rest * 4 % 18446744073709551616 + t) d (R / 4611686018427387904) (r * 4 % 18446744073709551616 + 1) (r / 4611686018427387904) false h l = some (isq (W h l)) := by
        intro hc
        simp only [pacemakerref03_SqrtWide.j2]
        rw [if_neg (by decide)]
        refine no _ _ hc (by omega) ?_
        rw [decide_eq_decide]; omega
      by_cases c1 : R / 4611686018427387904 > r / 4611686018427387904
      · rw [if_pos c1]; exact j2yes (by omega)
      · rw [if_neg c1]
        by_cases c2 : R / 4611686018427387904 = r / 4611686018427387904
        · rw [if_pos c2]
          by_cases c3 : rest * 4 % 18446744073709551616 + t ≥ r * 4 % 18446744073709551616 + 1
          · rw [decide_eq_true c3]; exact j2yes (by omega)
          · rw [decide_eq_false c3]; exact j2no (by omega)
        · rw [if_neg c2]; exact j2no (by omega)
    simp only [pacemakerref03_SqrtWide.l0]
    rw [show ((d + 1 : Nat) : Int) - 1 = (d : Int) by omega, if_pos (by omega)]
    by_cases ho : 18446744073709551616 ≤ R
    · rw [if_pos (by rw [hover]; exact decide_eq_true ho), u64_id (by omega) (by omega), show rest / 4611686018427387904 + 4 = R / 4611686018427387904 by omega]
      exact main
    · rw [if_neg (by rw [hover]; simp [ho]), show rest / 4611686018427387904 = R / 4611686018427387904 by omega]
      exact main

theorem ref_SqrtWide_eq {h l : Int} (k : Nat) (hk : 200 ≤ k) (a0 : 0 ≤ h) (a1 : h < 18446744073709551616) (b0 : 0 ≤ l) (b1 : l < 18446744073709551616) :
    pacemakerref03_SqrtWide.f k h l = some (isq (W h l)) :=
  ref_sqrt_l0 a0 a1 b0 b1 64 k 0 0 0 false (by omega) (by omega) (by omega) (by omega) (by omega) (by rw [div_small (W_nn a0 b0) (W_lt a1 b1)]; rfl) (by rfl) (by rfl)
theorem blen_half {x : Int} (x0 : 0 < x) (x1 : x < 340282366920938463463374607431768211456) : blen x = blen (x / 2) + 1 := by
  have g1 := blen_lt (v := x / 2) (by omega) (by omega)
  by_cases hz : x / 2 = 0
  · have : x = 1 := by omega
    subst this; rfl
  · have g2 := blen_ge (v := x / 2) (by omega) (by omega)
    refine blen_eq x1 ?_ ?_ <;> rw [Int.pow_succ] <;> omega
theorem ref_Log_l0 (d : Nat) : ∀ (k : Nat) (x n : Int), d + 1 ≤ k → 0 ≤ x → x < 18446744073709551616 → blen x ≤ d → -1 ≤ n → n + d ≤ 2000 → pacemakerref03_Log.l0 k x n = some (n + (blen x : Int)) := by
  induction d with
  | zero =>
    intro k x n hk x0 x1 hb n0 n1
    obtain ⟨k, rfl⟩ : ∃ m, k = m + 1 := ⟨k - 1, by omega⟩
    have hx : x = 0 := by
      by_cases h : 0 < x
      · have := blen_pos h (by omega); omega
      · omega
    subst hx
    simp only [pacemakerref03_Log.l0]
    rw [if_neg (by decide), blen_zero]; congr 1; omega
  | succ d ih =>
    intro k x n hk x0 x1 hb n0 n1
    obtain ⟨k, rfl⟩ : ∃ m, k = m + 1 := ⟨k - 1, by omega⟩
    simp only [pacemakerref03_Log.l0]
    by_cases h : x > 0
    · have e := blen_half h (by omega)
      rw [if_pos h, Int.tdiv_eq_ediv_of_nonneg x0, u64_id (x := x / 2) (by omega) (by omega), wrap64_id (by omega) (by omega), ih k (x / 2) (n + 1) (by omega) (by omega) (by omega) (by omega) (by omega) (by omega)]
      congr 1; omega
    · have hx : x = 0 := by omega
      subst hx
      rw [if_neg (by decide), blen_zero]; congr 1; omega
theorem ref_Log_eq {x : Int} (k : Nat) (hk : 70 ≤ k) (x0 : 0 ≤ x) (x1 : x < 18446744073709551616) : pacemakerref03_Log.f k x = some ((blen x : Int) - 1) := by
  unfold pacemakerref03_Log.f
  have hb := blen_le (v := x) (b := 64) x0 (by omega) (by rw [show (2 : Int) ^ 64 = 18446744073709551616 from rfl]; omega)
  rw [ref_Log_l0 64 k x (-1) (by omega) x0 x1 hb (by decide) (by decide)]
  exact congrArg some (by omega)
theorem ref_Clamp_eq (a : Int) : pacemakerref02_Clamp.f a = some (max (-4611686018427387904) (min a 4611686018427387904)) := by
  unfold pacemakerref02_Clamp.f mx mn
  congr 1
  omega
theorem ref_Times_eq {x y : Int} (x0 : 0 ≤ x) (x1 : x < 18446744073709551616) (y0 : 0 ≤ y) (y1 : y < 18446744073709551616) : pacemakerref02_Times.f x y = some (hi64 (x * y), lo64 (x * y)) := by
  unfold pacemakerref02_Times.f
  rw [and32 x0 x1, and32 y0 y1]
  have hm := mul_parts x y
  have h11 := prod32 (x := x / 4294967296) (y := y / 4294967296) (by omega) (by omega) (by omega) (by omega)
  have h10 := prod32 (x := x / 4294967296) (y := y % 4294967296) (by omega) (by omega) (by omega) (by omega)
  have h01 := prod32 (x := x % 4294967296) (y := y / 4294967296) (by omega) (by omega) (by omega) (by omega)
  have h00 := prod32 (x := x % 4294967296) (y := y % 4294967296) (by omega) (by omega) (by omega) (by omega)
  generalize x / 4294967296 * (y / 4294967296) = p at *
  generalize x / 4294967296 * (y % 4294967296) = q at *
  generalize x % 4294967296 * (y / 4294967296) = r at *
  generalize x % 4294967296 * (y % 4294967296) = s at *
  rw [hm]
  clear hm
  rw [u64_id (x := s) (by omega) (by omega), u64_id (x := q) (by omega) (by omega), u64_id (x := q + s / 4294967296) (by omega) (by omega), u64_id (x := r) (by omega) (by omega), u64_id (x := p) (by omega) (by omega), and32 (by omega) (by omega), and32 (x := s) (by omega) (by omega), u64_id (x := r + (q + s / 4294967296) % 4294967296) (by omega) (by omega)]
  rw [u64_wrap ((r + (q + s / 4294967296) % 4294967296) * 4294967296), or_join 32 (by omega) (by rw [show (2 : Int) ^ 32 = 4294967296 from rfl]; omega) (by omega) (by omega) (by rw [show (2 : Int) ^ 32 = 4294967296 from rfl]; omega) (by omega)]
  simp only [u64_wrap]
  unfold hi64 lo64
  congr 2 <;> omega
end Go.Proofs.Ytpfhlimcemkneaa.P
