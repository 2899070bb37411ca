import Derived.Test.YtcmbogdilplmlaaS15
import Derived.Test.YtcmbogdilplmlaaPx12
import Derived.Test.YtcmbogdilplmlaaPx13
import Derived.Test.YtcmbogdilplmlaaPx14
namespace Go.Proofs.Ytcmbogdilplmlaa.P
open Go.RowKit Go.Proofs.YtcmbogdilplmlaaW.PrintWords Go.Proofs.YtcmbogdilplmlaaW.PrintLast Go.Proofs.YtcmbogdilplmlaaW.PrintMore Go.Proofs.YtcmbogdilplmlaaX
attribute [local go_sem] max2_int min2_int max_two min_two max_three min_three max_four min_four
set_option linter.unusedVariables false
set_option linter.unusedSimpArgs false
open Go.Proofs.Th
theorem ref_Times_eq {x y : Int} (x0 : 0 ≤ x) (x1 : x < 18446744073709551616) (y0 : 0 ≤ y) (y1 : y < 18446744073709551616) : pacemakerref02_Times.f x y = some (hi64 (x * y), lo64 (x * y)) := by
  unfold pacemakerref02_Times.f
  rw [and32 x0 x1, and32 y0 y1]
  have hm := mul_parts x y
  have h11 := prod32 (x := x / 4294967296) (y := y / 4294967296) (by omega) (by omega) (by omega) (by omega)
  have h10 := prod32 (x := x / 4294967296) (y := y % 4294967296) (by omega) (by omega) (by omega) (by omega)
  have h01 := prod32 (x := x % 4294967296) (y := y / 4294967296) (by omega) (by omega) (by omega) (by omega)
  have h00 := prod32 (x := x % 4294967296) (y := y % 4294967296) (by omega) (by omega) (by omega) (by omega)
  generalize x / 4294967296 * (y / 4294967296) = p at *
  generalize x / 4294967296 * (y % 4294967296) = q at *
  generalize x % 4294967296 * (y / 4294967296) = r at *
  generalize x % 4294967296 * (y % 4294967296) = s at *
  rw [hm]
  clear hm
  rw [u64_id (x := s) (by omega) (by omega), u64_id (x := q) (by omega) (by omega), u64_id (x := q + s / 4294967296) (by omega) (by omega), u64_id (x := r) (by omega) (by omega), u64_id (x := p) (by omega) (by omega), and32 (by omega) (by omega), and32 (x := s) (by omega) (by omega), u64_id (x := r + (q + s / 4294967296) % 4294967296) (by omega) (by omega)]
  rw [u64_wrap ((r + (q + s / 4294967296) % 4294967296) * 4294967296), or_join 32 (by omega) (by rw [show (2 : Int) ^ 32 = 4294967296 from rfl]; omega) (by omega) (by omega) (by rw [show (2 : Int) ^ 32 = 4294967296 from rfl]; omega) (by omega)]
  simp only [u64_wrap]
  unfold hi64 lo64
  congr 2 <;> omega
theorem pow_double (d : Nat) : (2 : Int) ^ (2 * d + 2) = 4 * 2 ^ (2 * d) := by rw [Int.pow_add]; omega
theorem mod4_even (x y : Int) {n : Nat} (hn : 2 ≤ n) : (x * 2 ^ n + y) % 4 = y % 4 := by
  have : (2 : Int) ^ n = 2 ^ (n - 2) * 4 := by rw [show n = (n - 2) + 2 by omega, Int.pow_add]; simp only [Nat.add_sub_cancel]; rfl
  rw [this, ← Int.mul_assoc]; omega
theorem ref_two {h l : Int} {i : Int} (i0 : 0 ≤ i) (i1 : i < 64) (a0 : 0 ≤ h) (a1 : h < 18446744073709551616) (b0 : 0 ≤ l) (b1 : l < 18446744073709551616) :
    pacemakerref03_two.f h l i = some (W h l / 2 ^ (2 * i.toNat) % 4) := by
  unfold pacemakerref03_two.f
  by_cases hi : i ≥ 32
  · rw [if_pos hi, wrap64_id (x := i - 32) (by omega) (by omega), wrap64_id (by omega) (by omega), if_pos (by omega), shr_lt64 (by omega), W_bit_hi (by omega) b0 b1, show (2 * (i - 32)).toNat = 2 * i.toNat - 64 by omega]
    rw [Int.tmod_eq_emod_of_nonneg (Int.ediv_nonneg a0 (Int.le_of_lt (two_pow_pos _)))]
  · rw [if_neg hi, wrap64_id (by omega) (by omega), if_pos (by omega), shr_lt64 (by omega), show (2 * i).toNat = 2 * i.toNat by omega]
    rw [Int.tmod_eq_emod_of_nonneg (Int.ediv_nonneg b0 (Int.le_of_lt (two_pow_pos _))), W_shr (by omega) a0 b0 b1]
    have e := mod4_even (h / 2 ^ (2 * i.toNat)) (h % 2 ^ (2 * i.toNat) * 2 ^ (64 - 2 * i.toNat) + l / 2 ^ (2 * i.toNat)) (n := 64) (by decide)
    rw [show (2 : Int) ^ 64 = 18446744073709551616 from rfl] at e
    unfold W
    rw [e, mod4_even _ _ (by omega)]

/-- What is left of a number behind its root, and one more pair of bits. -/
theorem sqrt_next {A r R t : Int} (r0 : 0 ≤ r) (hr : r * r + R = A) (hR0 : 0 ≤ R) (hR : R ≤ 2 * r) (t0 : 0 ≤ t) (t1 : t < 4) :
    (4 * r + 1 ≤ 4 * R + t → (2 * r + 1) * (2 * r + 1) + (4 * R + t - (4 * r + 1)) = 4 * A + t ∧ 4 * R + t - (4 * r + 1) ≤ 2 * (2 * r + 1)) ∧
    (¬ 4 * r + 1 ≤ 4 * R + t → 2 * r * (2 * r) + (4 * R + t) = 4 * A + t ∧ 4 * R + t ≤ 2 * (2 * r)) := by
  subst hr
  constructor
  · intro _
    constructor
    · grind
    · omega
  · intro _
    constructor
    · grind
    · omega

theorem or_low {x t : Int} (x0 : 0 ≤ x) (x1 : x < 18446744073709551616) (hx : x % 4 = 0) (t0 : 0 ≤ t) (t1 : t < 4) : Go.bits .or .u64 x t = x + t :=
  or_join 2 x0 hx x1 t0 t1 (by omega)
theorem or_one2 {x : Int} (x0 : 0 ≤ x) (x1 : x < 18446744073709551616) (hx : x % 2 = 0) : Go.bits .or .u64 x 1 = x + 1 :=
  or_join 1 x0 hx x1 (by decide) (by decide) (by decide)

theorem sq_small {r A : Int} {m : Nat} (r0 : 0 ≤ r) (hle : r * r ≤ A) (hA : A < 2 ^ (2 * m)) : r < 2 ^ m := by
  refine sq_lt_of r0 (Int.le_of_lt (two_pow_pos m)) ?_
  rw [← Int.pow_add, show m + m = 2 * m by omega]; omega

theorem ref_sqrt_l0 {h l : Int} (a0 : 0 ≤ h) (a1 : h < 18446744073709551616) (b0 : 0 ≤ l) (b1 : l < 18446744073709551616) (d : Nat) :
    ∀ (k : Nat) (r R rest : Int) (over : Bool), 3 * d + 1 ≤ k → d ≤ 64 → 0 ≤ r → 0 ≤ R → R ≤ 2 * r → r * r + R = W h l / 2 ^ (2 * d) → rest = R % 18446744073709551616 → over = decide (18446744073709551616 ≤ R) →
    pacemakerref03_SqrtWide.l0 k r rest over ((d : Int) - 1) h l = some (isq (W h l)) := by
  have w0 := W_nn a0 b0; have w1 := W_lt a1 b1
  induction d with
  | zero =>
    intro k r R rest over hk hd r0 R0 R1 he _ _
    obtain ⟨k, rfl⟩ : ∃ n, k = n + 1 := ⟨k - 1, by omega⟩
    simp only [pacemakerref03_SqrtWide.l0]
    simp only [Nat.mul_zero, Int.pow_zero, Int.ediv_one] at he
    rw [if_neg (by omega), isq_eq r0 (by omega) (by have : (r + 1) * (r + 1) = r * r + 2 * r + 1 := by grind
                                                    omega)]
  | succ d ih =>
    intro k r R rest over hk hd r0 R0 R1 he hrest hover
    obtain ⟨k, rfl⟩ : ∃ n, k = n + 3 := ⟨k - 3, by omega⟩
    have hp := two_pow_pos (2 * d)
    have hA0 : 0 ≤ W h l / 2 ^ (2 * (d + 1)) := Int.ediv_nonneg w0 (Int.le_of_lt (two_pow_pos _))
    have hAlt : W h l / 2 ^ (2 * (d + 1)) < 2 ^ (2 * (63 - d)) := by
      apply Int.ediv_lt_of_lt_mul (two_pow_pos _)
      rw [← Int.pow_add, show 2 * (63 - d) + 2 * (d + 1) = 128 by omega]
      exact w1
    have hrlt := sq_small (m := 63 - d) r0 (by omega) hAlt
    have hr63 := (pow_le_pow_iff (a := 63 - d) (b := 63)).2 (by omega)
    rw [show (2 : Int) ^ 63 = 9223372036854775808 from rfl] at hr63
    have hdd : W h l / 2 ^ (2 * d) = 4 * (W h l / 2 ^ (2 * (d + 1))) + W h l / 2 ^ (2 * d) % 4 := by
      rw [show 2 * (d + 1) = 2 * d + 2 by omega, ediv_pow, show (2 : Int) ^ 2 = 4 from rfl]; omega
    generalize hA : W h l / 2 ^ (2 * (d + 1)) = A at *
    have ht0 : 0 ≤ W h l / 2 ^ (2 * d) % 4 := Int.emod_nonneg _ (by decide)
    have ht1 : W h l / 2 ^ (2 * d) % 4 < 4 := Int.emod_lt_of_pos _ (by decide)
    have hn := sqrt_next r0 he R0 R1 ht0 ht1
    rw [← hdd] at hn
    have htwo := ref_two (i := (d : Int)) (by omega) (by omega) a0 a1 b0 b1
    rw [Int.toNat_natCast] at htwo
    generalize W h l / 2 ^ (2 * d) % 4 = t at *
    have main : pacemakerref03_SqrtWide.j1 (k + 1 + 1) r rest d (R / 4611686018427387904) h l = some (isq (W h l)) := by
      simp only [pacemakerref03_SqrtWide.j1]
      rw [htwo]
      simp only [Option.bind_some]
      rw [u64_id (x := r * 2) (by omega) (by omega), u64_wrap (rest * 4), u64_wrap (r * 4)]
      rw [or_low (x := rest * 4 % 18446744073709551616) (by omega) (by omega) (by omega) ht0 ht1, or_one2 (x := r * 4 % 18446744073709551616) (by omega) (by omega) (by omega)]
      have yes : ∀ over' rest', 4 * r + 1 ≤ 4 * R + t → rest' = (4 * R + t - (4 * r + 1)) % 18446744073709551616 → over' = decide (18446744073709551616 ≤ 4 * R + t - (4 * r + 1)) →
          pacemakerref03_SqrtWide.l0 k (Go.bits .or .u64 (r * 2) 1) rest' over' (wrap64 ((d : Int) - 1)) h l = some (isq (W h l)) := by
        intro over' rest' hc h1 h2
        rw [or_one2 (by omega) (by omega) (by omega), wrap64_id (by omega) (by omega)]
        obtain ⟨g1, g2⟩ := hn.1 hc
        refine ih k (r * 2 + 1) (4 * R + t - (4 * r + 1)) rest' over' (by omega) (by omega) (by omega) (by omega) (by omega) ?_ h1 h2
        rw [← g1]; grind
      have no : ∀ over' rest', ¬ 4 * r + 1 ≤ 4 * R + t → rest' = (4 * R + t) % 18446744073709551616 → over' = decide (18446744073709551616 ≤ 4 * R + t) →
          pacemakerref03_SqrtWide.l0 k (r * 2) rest' over' (wrap64 ((d : Int) - 1)) h l = some (isq (W h l)) := by
        intro over' rest' hc h1 h2
        rw [wrap64_id (by omega) (by omega)]
        obtain ⟨g1, g2⟩ := hn.2 hc
        refine ih k (r * 2) (4 * R + t) rest' over' (by omega) (by omega) (by omega) (by omega) (by omega) ?_ h1 h2
        rw [← g1]; grind
      have j2yes : 4 * r + 1 ≤ 4 * R + t → pacemakerref03_SqrtWide.j2 (k + 1) (r * 2) (rest * 4 % 18446744073709551616 + t) d (R / 4611686018427387904) (r * 4 % 18446744073709551616 + 1) (r / 4611686018427387904) true h l = some (isq (W h l)) := by
        intro hc
        simp only [pacemakerref03_SqrtWide.j2, if_true]
        by_cases c : rest * 4 % 18446744073709551616 + t < r * 4 % 18446744073709551616 + 1
        · rw [if_pos c]
          refine yes _ _ hc (by rw [u64_wrap]; omega) ?_
          rw [decide_eq_decide, u64_id (x := R / 4611686018427387904 - 1) (by omega) (by omega), u64_id (by omega) (by omega)]
          omega
        · rw [if_neg c]
          refine yes _ _ hc (by rw [u64_wrap]; omega) ?_
          rw [decide_eq_decide, u64_id (by omega) (by omega)]
          omega
      have j2no : ¬ 4 * r + 1 ≤ 4 * R + t → pacemakerref03_SqrtWide.j2 (k + 1) (r * 2) (rest * 4 % 18446744073709551616 + t) d (R / 4611686018427387904) (r * 4 % 18446744073709551616 + 1) (r / 4611686018427387904) false h l = some (isq (W h l)) := by
        intro hc
        simp only [pacemakerref03_SqrtWide.j2]
        rw [if_neg (by decide)]
        refine no _ _ hc (by omega) ?_
        rw [decide_eq_decide]; omega
      by_cases c1 : R / 4611686018427387904 > r / 4611686018427387904
      · rw [if_pos c1]; exact j2yes (by omega)
      · rw [if_neg c1]
        by_cases c2 : R / 4611686018427387904 = r / 4611686018427387904
        · rw [if_pos c2]
          by_cases c3 : rest * 4 % 18446744073709551616 + t ≥ r * 4 % 18446744073709551616 + 1
          · rw [decide_eq_true c3]; exact j2yes (by omega)
          · rw [decide_eq_false c3]; exact j2no (by omega)
        · rw [if_neg c2]; exact j2no (by omega)
    simp only [pacemakerref03_SqrtWide.l0]
    rw [show ((d + 1 : Nat) : Int) - 1 = (d : Int) by omega, if_pos (by omega)]
    by_cases ho : 18446744073709551616 ≤ R
    · rw [if_pos (by rw [hover]; exact decide_eq_true ho), u64_id (by omega) (by omega), show rest / 4611686018427387904 + 4 = R / 4611686018427387904 by omega]
      exact main
    · rw [if_neg (by rw [hover]; simp [ho]), show rest / 4611686018427387904 = R / 4611686018427387904 by omega]
      exact main

theorem ref_SqrtWide_eq {h l : Int} (k : Nat) (hk : 200 ≤ k) (a0 : 0 ≤ h) (a1 : h < 18446744073709551616) (b0 : 0 ≤ l) (b1 : l < 18446744073709551616) :
    pacemakerref03_SqrtWide.f k h l = some (isq (W h l)) :=
  ref_sqrt_l0 a0 a1 b0 b1 64 k 0 0 0 false (by omega) (by omega) (by omega) (by omega) (by omega) (by rw [div_small (W_nn a0 b0) (W_lt a1 b1)]; rfl) (by rfl) (by rfl)

theorem product_eq {x y : Int} (x0 : 0 ≤ x) (x1 : x < 9223372036854775808) (y0 : 0 ≤ y) (y1 : y < 9223372036854775808) : pacemakerref10_product.f x y = some (hi64 (x * y), lo64 (x * y)) := by
  unfold pacemakerref10_product.f
  rw [u64_id x0 (by omega), u64_id y0 (by omega), ref_Times_eq x0 (by omega) y0 (by omega)]
  rfl
theorem refTime_eq (a : Int) : pacemakerref09_Time.f a = some (timeB a) := by
  unfold pacemakerref09_Time.f timeB
  by_cases c : a ≥ 0
  · rw [if_pos c]
    congr 1
    rw [decide_eq_decide]; omega
  · rw [if_neg c, decide_eq_false (by omega)]
theorem refSized_eq {a p : Int} (h0 : 0 ≤ p) (h1 : p ≤ 1048576) : pacemakerref09_sized.f a p = some (fitB a p) := by
  unfold pacemakerref09_sized.f fitB
  rw [wrap64_id (by omega) (by omega)]
  by_cases c : a ≥ p
  · rw [if_pos c]
    congr 1
    rw [decide_eq_decide]; omega
  · rw [if_neg c, decide_eq_false (by omega)]
theorem refSums_eq (a0 a1 a2 a3 a4 a5 a6 a7 a8 a9 a10 a11 a12 a13 a14 : Int) (h0 : 0 ≤ a9) (h1 : a9 ≤ 1024) : pacemakerref09_sums.f a0 a1 a2 a3 a4 a5 a6 a7 a8 a9 a10 a11 a12 a13 a14 = some ((inB 60000000 a9 a10 && inB 60000000 a9 a11) && (inB 3600000000000000 a9 a12 && inB 3600000000000000 a9 a13 && inB 3600000000000000 a9 a14)) := by
  unfold pacemakerref09_sums.f inB
  rw [wrap64_id (x := a9 * 60000000) (by omega) (by omega), wrap64_id (by omega) (by omega), show a9 * 60000000 * 60000000 = a9 * 3600000000000000 by omega]
  by_cases c : (0 ≤ a10 ∧ a10 ≤ a9 * 60000000) ∧ (0 ≤ a11 ∧ a11 ≤ a9 * 60000000)
  · rw [if_neg (by omega), if_neg (by omega), if_neg (by omega), if_neg (by omega), decide_eq_true c.1, decide_eq_true c.2]
    by_cases d : 0 ≤ a12 ∧ a12 ≤ a9 * 3600000000000000
    · rw [if_pos d.1, if_pos d.2, decide_eq_true d]
      by_cases e : 0 ≤ a13 ∧ a13 ≤ a9 * 3600000000000000
      · rw [if_pos e.1, if_pos e.2, decide_eq_true e]
        by_cases f : a14 ≥ 0
        · rw [if_pos f]
          simp only [Bool.true_and]
          congr 1
          rw [decide_eq_decide]; omega
        · rw [if_neg f, decide_eq_false (show ¬ (0 ≤ a14 ∧ a14 ≤ a9 * 3600000000000000) by omega)]
          rfl
      · rw [decide_eq_false e]
        simp only [Bool.and_false, Bool.false_and]
        repeat' split
        all_goals first | rfl | (exfalso; omega)
    · rw [decide_eq_false d]
      simp only [Bool.and_false, Bool.false_and]
      repeat' split
      all_goals first | rfl | (exfalso; omega)
  · have z : (decide (0 ≤ a10 ∧ a10 ≤ a9 * 60000000) && decide (0 ≤ a11 ∧ a11 ≤ a9 * 60000000)) = false := by
      rw [Bool.eq_false_iff]
      intro h
      rw [Bool.and_eq_true, decide_eq_true_eq, decide_eq_true_eq] at h
      exact c h
    rw [z, Bool.false_and]
    by_cases d1 : a10 < 0
    · rw [if_pos d1]
    rw [if_neg d1]
    by_cases d2 : a10 > a9 * 60000000
    · rw [if_pos d2]
    rw [if_neg d2]
    by_cases d3 : a11 < 0
    · rw [if_pos d3]
    rw [if_neg d3, if_pos (show a11 > a9 * 60000000 by omega)]
theorem is_j2_t (a0 a1 a2 a3 a4 a5 a6 a7 a8 a9 a10 a11 a12 a13 a14 : Int) (k : Nat) : pacemakerref09_Is.j2 (k + 1) true a0 a1 a2 a3 a4 a5 a6 a7 a8 a9 a10 a11 a12 a13 a14 = some false := by simp only [pacemakerref09_Is.j2, if_true]
theorem is_j1_t (a0 a1 a2 a3 a4 a5 a6 a7 a8 a9 a10 a11 a12 a13 a14 : Int) (k : Nat) : pacemakerref09_Is.j1 (k + 1) true a0 a1 a2 a3 a4 a5 a6 a7 a8 a9 a10 a11 a12 a13 a14 = some false := by simp only [pacemakerref09_Is.j1, if_true]
theorem is_j0_t (a0 a1 a2 a3 a4 a5 a6 a7 a8 a9 a10 a11 a12 a13 a14 : Int) (k : Nat) : pacemakerref09_Is.j0 (k + 1) true a0 a1 a2 a3 a4 a5 a6 a7 a8 a9 a10 a11 a12 a13 a14 = some false := by simp only [pacemakerref09_Is.j0, if_true]
theorem is_j2_f (a0 a1 a2 a3 a4 a5 a6 a7 a8 a9 a10 a11 a12 a13 a14 : Int) (k : Nat) (h7 : 0 ≤ a7 ∧ a7 ≤ 1048576) (h8 : 0 ≤ a8 ∧ a8 ≤ 1048576) (h4 : 0 ≤ a4 ∧ a4 ≤ 9437184000) (h5 : 0 ≤ a5 ∧ a5 ≤ 9437184000) :
    pacemakerref09_Is.j2 (k + 1) (decide (wrap64 (a4 + a5) > a3)) a0 a1 a2 a3 a4 a5 a6 a7 a8 a9 a10 a11 a12 a13 a14 = some ((decide (a4 + a5 ≤ a3) && ((a4 + a5 == a3) == (a7 + a8 == a6))) && samplesB a7 a9 a10 a11 a12 a13 a14) := by
  simp only [pacemakerref09_Is.j2]
  rw [wrap64_id (x := a4 + a5) (by omega) (by omega), wrap64_id (x := a7 + a8) (by omega) (by omega)]
  by_cases c : a4 + a5 > a3
  · rw [decide_eq_true c, if_pos rfl, decide_eq_false (show ¬ a4 + a5 ≤ a3 by omega)]; rfl
  · rw [decide_eq_false c, if_neg (by decide), decide_eq_true (show a4 + a5 ≤ a3 by omega), Bool.true_and]
    generalize (a4 + a5 == a3) = p
    generalize (a7 + a8 == a6) = q
    by_cases d : (p != q) = true
    · have e : (p == q) = false := by cases p <;> cases q <;> simp_all
      rw [if_pos d, e]; rfl
    · have e : (p == q) = true := by cases p <;> cases q <;> simp_all
      rw [if_neg d, e, Bool.true_and]
      unfold samplesB
      by_cases f : 0 ≤ a9 ∧ a9 ≤ 1024 ∧ a9 ≤ a7
      · rw [if_pos f.1, if_pos f.2.1, if_pos f.2.2, refSums_eq _ _ _ _ _ _ _ _ _ _ _ _ _ _ _ f.1 f.2.1, decide_eq_true f]
        simp only [Option.bind_some, Bool.true_and]
      · rw [decide_eq_false f]
        simp only [Bool.false_and]
        repeat' split
        all_goals first | rfl | (exfalso; omega)
theorem fit_bd {a p : Int} (h : fitB a p = true) : p ≤ a ∧ a ≤ p * 9000 := of_decide_eq_true h
theorem is_j1_f (a0 a1 a2 a3 a4 a5 a6 a7 a8 a9 a10 a11 a12 a13 a14 : Int) (k : Nat) (hc : 0 ≤ a6 ∧ a6 ≤ 1048576 ∧ 0 ≤ a7 ∧ a7 ≤ a6 ∧ 0 ≤ a8 ∧ a8 ≤ a6 - a7) :
    pacemakerref09_Is.j1 (k + 2) false a0 a1 a2 a3 a4 a5 a6 a7 a8 a9 a10 a11 a12 a13 a14 = some (bytesB a3 a4 a5 a6 a7 a8 && samplesB a7 a9 a10 a11 a12 a13 a14) := by
  rw [show k + 2 = (k + 1) + 1 from rfl]
  simp only [pacemakerref09_Is.j1]
  rw [if_neg (by decide), refSized_eq (by omega) (by omega), refSized_eq (by omega) (by omega), refSized_eq (by omega) (by omega)]
  simp only [Option.bind_some]
  unfold bytesB
  by_cases f3 : fitB a3 a6 = true
  · rw [if_pos f3, f3]
    by_cases f4 : fitB a4 a7 = true
    · rw [if_pos f4, f4]
      by_cases f5 : fitB a5 a8 = true
      · have b4 := fit_bd f4
        have b5 := fit_bd f5
        rw [if_pos f5, f5, is_j2_f _ _ _ _ _ _ _ _ _ _ _ _ _ _ _ k (by omega) (by omega) (by omega) (by omega)]
        simp only [Bool.true_and]
      · rw [if_neg f5, Bool.eq_false_iff.2 f5, is_j2_t]
        simp only [Bool.and_false, Bool.false_and]
    · rw [if_neg f4, Bool.eq_false_iff.2 f4, is_j2_t]
      simp only [Bool.and_false, Bool.false_and]
  · rw [if_neg f3, Bool.eq_false_iff.2 f3, is_j2_t]
    simp only [Bool.and_false, Bool.false_and]
theorem is_j0_f (a0 a1 a2 a3 a4 a5 a6 a7 a8 a9 a10 a11 a12 a13 a14 : Int) (k : Nat) : pacemakerref09_Is.j0 (k + 3) false a0 a1 a2 a3 a4 a5 a6 a7 a8 a9 a10 a11 a12 a13 a14 = some (countsB a6 a7 a8 && (bytesB a3 a4 a5 a6 a7 a8 && samplesB a7 a9 a10 a11 a12 a13 a14)) := by
  rw [show k + 3 = (k + 2) + 1 from rfl]
  simp only [pacemakerref09_Is.j0]
  rw [if_neg (by decide)]
  unfold countsB
  by_cases c : 0 ≤ a6 ∧ a6 ≤ 1048576 ∧ 0 ≤ a7 ∧ a7 ≤ a6 ∧ 0 ≤ a8 ∧ a8 ≤ a6 - a7
  · rw [decide_eq_true c, if_neg (by omega), if_neg (by omega), if_neg (by omega), if_neg (by omega), if_neg (by omega), wrap64_id (by omega) (by omega), decide_eq_false (show ¬ a8 > a6 - a7 by omega), is_j1_f _ _ _ _ _ _ _ _ _ _ _ _ _ _ _ k c, Bool.true_and]
  · have t := is_j1_t a0 a1 a2 a3 a4 a5 a6 a7 a8 a9 a10 a11 a12 a13 a14 (k + 1)
    rw [decide_eq_false c, Bool.false_and]
    by_cases c1 : a6 < 0
    · rw [if_pos c1, t]
    rw [if_neg c1]
    by_cases c2 : a6 > 1048576
    · rw [if_pos c2, t]
    rw [if_neg c2]
    by_cases c3 : a7 < 0
    · rw [if_pos c3, t]
    rw [if_neg c3]
    by_cases c4 : a7 > a6
    · rw [if_pos c4, t]
    rw [if_neg c4]
    by_cases c5 : a8 < 0
    · rw [if_pos c5, t]
    rw [if_neg c5, wrap64_id (by omega) (by omega), decide_eq_true (show a8 > a6 - a7 by omega), t]
theorem refIs_eq (a0 a1 a2 a3 a4 a5 a6 a7 a8 a9 a10 a11 a12 a13 a14 : Int) (k : Nat) (hk : 3 ≤ k) : pacemakerref09_Is.f k a0 a1 a2 a3 a4 a5 a6 a7 a8 a9 a10 a11 a12 a13 a14 = some (rightB a0 a1 a2 a3 a4 a5 a6 a7 a8 a9 a10 a11 a12 a13 a14) := by
  obtain ⟨k, rfl⟩ : ∃ m, k = m + 3 := ⟨k - 3, by omega⟩
  have t := is_j0_t a0 a1 a2 a3 a4 a5 a6 a7 a8 a9 a10 a11 a12 a13 a14 (k + 2)
  have f := is_j0_f a0 a1 a2 a3 a4 a5 a6 a7 a8 a9 a10 a11 a12 a13 a14 k
  unfold pacemakerref09_Is.f rightB
  by_cases c0 : a0 < 0
  · rw [if_pos c0, t, decide_eq_false (by omega)]
    simp only [Bool.false_and]
  rw [if_neg c0, decide_eq_true (show 0 ≤ a0 by omega), refTime_eq]
  simp only [Option.bind_some, Bool.true_and]
  by_cases c1 : timeB a1 = true
  · rw [if_pos c1, c1]
    by_cases c2 : a2 = -1
    · rw [if_pos c2, f, decide_eq_true c2]
      simp only [Bool.true_and, Bool.true_or, Bool.and_assoc]
    rw [if_neg c2, refTime_eq, decide_eq_false c2]
    simp only [Option.bind_some, Bool.true_and, Bool.false_or]
    by_cases c3 : timeB a2 = true
    · rw [if_pos c3, c3]
      by_cases c4 : a2 < a1
      · rw [decide_eq_true c4, t, decide_eq_false (show ¬ a1 ≤ a2 by omega)]
        simp only [Bool.and_false, Bool.false_and]
      · rw [decide_eq_false c4, f, decide_eq_true (show a1 ≤ a2 by omega)]
        simp only [Bool.true_and, Bool.and_assoc]
    · rw [if_neg c3, Bool.eq_false_iff.2 c3, t]
      simp only [Bool.false_and]
  · rw [if_neg c1, Bool.eq_false_iff.2 c1, t]
    simp only [Bool.false_and]
theorem refRatio_low {x y : Int} (k : Nat) (hk : 300 ≤ k) (x0 : 0 ≤ x) (x1 : x < 18446744073709551616) (y0 : 0 ≤ y) (y1 : y < 18446744073709551616) : pacemakerref10_Ratio.f k 0 x 0 y = some (ratioI x y) := by
  rw [refRatio_eq k hk (by decide) (by decide) x0 x1 (by decide) (by decide) y0 y1, W0, W0]
theorem refRatio_wide {x y : Int} (k : Nat) (hk : 300 ≤ k) (x0 : 0 ≤ x) (x1 : x < 340282366920938463463374607431768211456) (y0 : 0 ≤ y) (y1 : y < 340282366920938463463374607431768211456) : pacemakerref10_Ratio.f k (hi64 x) (lo64 x) (hi64 y) (lo64 y) = some (ratioI x y) := by
  rw [refRatio_eq k hk (hi_nn x0) (hi_lt x1) (lo_nn x) (lo_lt x) (hi_nn y0) (hi_lt y1) (lo_nn y) (lo_lt y), W_hl, W_hl]
theorem less_wide (x y : Int) : pacemakerref10_less.f (hi64 x) (lo64 x) (hi64 y) (lo64 y) = some (decide (x < y)) := by
  rw [rless_eq (lo_nn _) (lo_lt _) (lo_nn _) (lo_lt _), W_hl, W_hl]
theorem minus_wide {x y : Int} (x1 : x < 340282366920938463463374607431768211456) (y0 : 0 ≤ y) (h : y ≤ x) : pacemakerref10_minus.f (hi64 x) (lo64 x) (hi64 y) (lo64 y) = some (hi64 (x - y), lo64 (x - y)) := by
  rw [rminus_eq (hi_nn (by omega)) (hi_lt x1) (lo_nn _) (lo_lt _) (hi_nn y0) (hi_lt (by omega)) (lo_nn _) (lo_lt _), W_hl, W_hl, Int.emod_eq_of_lt (by omega) (by omega)]
theorem refMean_is (a0 a1 a2 a3 a4 a5 a6 a7 a8 a9 a10 a11 a12 a13 a14 : Int) (k : Nat) (hk : 400 ≤ k) : ∃ v, slope_Mean.f a0 a1 a2 a3 a4 a5 a6 a7 a8 a9 a10 a11 a12 a13 a14 = some v ∧ pacemakerref10_Mean.f k a0 a1 a2 a3 a4 a5 a6 a7 a8 a9 a10 a11 a12 a13 a14 = some v := by
  unfold pacemakerref10_Mean.f
  rw [refIs_eq _ _ _ _ _ _ _ _ _ _ _ _ _ _ _ k (by omega)]
  simp only [Option.bind_some]
  by_cases h : rightB a0 a1 a2 a3 a4 a5 a6 a7 a8 a9 a10 a11 a12 a13 a14 = true
  · have b := right_bd _ _ _ _ _ _ _ _ _ _ _ _ _ _ _ h
    rw [if_pos h]
    by_cases z : a9 = 0
    · rw [if_pos z]
      exact ⟨0, mean_no _ _ _ _ _ _ _ _ _ _ _ _ _ _ _ (.inr (by omega)), rfl⟩
    · rw [if_neg z, u64_id (x := a11) (by omega) (by omega), u64_id (x := a9) (by omega) (by omega), refRatio_low k (by omega) (by omega) (by omega) (by omega) (by omega)]
      exact ⟨_, mean_yes _ _ _ _ _ _ _ _ _ _ _ _ _ _ _ h (by omega), rfl⟩
  · rw [if_neg h]
    exact ⟨0, mean_no _ _ _ _ _ _ _ _ _ _ _ _ _ _ _ (.inl (Bool.eq_false_iff.2 h)), rfl⟩
theorem refDev_is (a0 a1 a2 a3 a4 a5 a6 a7 a8 a9 a10 a11 a12 a13 a14 : Int) (k : Nat) (hk : 400 ≤ k) : ∃ v, slope_Dev.f k a0 a1 a2 a3 a4 a5 a6 a7 a8 a9 a10 a11 a12 a13 a14 = some v ∧ pacemakerref10_Dev.f k a0 a1 a2 a3 a4 a5 a6 a7 a8 a9 a10 a11 a12 a13 a14 = some v := by
  obtain ⟨k, rfl⟩ : ∃ m, k = m + 1 := ⟨k - 1, by omega⟩
  unfold pacemakerref10_Dev.f
  rw [refIs_eq _ _ _ _ _ _ _ _ _ _ _ _ _ _ _ (k + 1) (by omega)]
  simp only [Option.bind_some, pacemakerref10_Dev.j0]
  by_cases h : rightB a0 a1 a2 a3 a4 a5 a6 a7 a8 a9 a10 a11 a12 a13 a14 = true
  · have b := right_bd _ _ _ _ _ _ _ _ _ _ _ _ _ _ _ h
    rw [if_pos h]
    by_cases z : a9 = 0
    · rw [show (a9 == 0) = true from beq_iff_eq.2 z, if_pos rfl]
      exact ⟨0, dev_no _ _ _ _ _ _ _ _ _ _ _ _ _ _ _ (k + 1) (.inr (by omega)), rfl⟩
    · have p0 := Int.mul_nonneg b.1.1 b.2.2.2.2.2.1
      have p1 : a9 * a14 ≤ 1024 * 3686400000000000000 := Int.mul_le_mul (by omega) (by omega) (by omega) (by omega)
      have q0 := Int.mul_nonneg b.2.2.1.1 b.2.2.1.1
      refine ⟨devI a9 a11 a14, dev_yes _ _ _ _ _ _ _ _ _ _ _ _ _ _ _ (k + 1) (by omega) h (by omega), ?_⟩
      rw [show (a9 == 0) = false from beq_eq_false_iff_ne.2 z, if_neg (by decide), product_eq (by omega) (by omega) (by omega) (by omega), product_eq (by omega) (by omega) (by omega) (by omega)]
      simp only [Option.bind_some]
      rw [less_wide]
      simp only [Option.bind_some]
      unfold devI
      by_cases c : a9 * a14 < a11 * a11
      · rw [decide_eq_true c, if_pos rfl, if_pos c]
      · have h0 : 0 ≤ a9 * a14 - a11 * a11 := by omega
        rw [decide_eq_false c, if_neg (by decide), if_neg c, minus_wide (by omega) q0 (by omega)]
        simp only [Option.bind_some]
        rw [ref_SqrtWide_eq k (by omega) (hi_nn h0) (hi_lt (by omega)) (lo_nn _) (lo_lt _), W_hl]
        simp only [Option.bind_some]
        rw [u64_id (x := a9) (by omega) (by omega), refRatio_low k (by omega) (isq_nn _) (isq_lt64 h0 (by omega)) (by omega) (by omega)]
        simp only [Option.bind_some]
  · rw [if_neg h, if_pos trivial]
    exact ⟨0, dev_no _ _ _ _ _ _ _ _ _ _ _ _ _ _ _ (k + 1) (.inl (Bool.eq_false_iff.2 h)), rfl⟩
theorem refGrade_is (a0 a1 a2 a3 a4 a5 a6 a7 a8 a9 a10 a11 a12 a13 a14 : Int) (k : Nat) (hk : 400 ≤ k) : ∃ v, slope_Grade.f k a0 a1 a2 a3 a4 a5 a6 a7 a8 a9 a10 a11 a12 a13 a14 = some v ∧ pacemakerref10_Grade.f k a0 a1 a2 a3 a4 a5 a6 a7 a8 a9 a10 a11 a12 a13 a14 = some v := by
  obtain ⟨k, rfl⟩ : ∃ m, k = m + 1 := ⟨k - 1, by omega⟩
  unfold pacemakerref10_Grade.f
  rw [refIs_eq _ _ _ _ _ _ _ _ _ _ _ _ _ _ _ (k + 1) (by omega)]
  simp only [Option.bind_some, pacemakerref10_Grade.j0]
  by_cases h : rightB a0 a1 a2 a3 a4 a5 a6 a7 a8 a9 a10 a11 a12 a13 a14 = true
  · have b := right_bd _ _ _ _ _ _ _ _ _ _ _ _ _ _ _ h
    rw [if_pos h]
    by_cases z : a9 = 0
    · rw [show (a9 == 0) = true from beq_iff_eq.2 z, if_pos rfl]
      exact ⟨0, grade_no _ _ _ _ _ _ _ _ _ _ _ _ _ _ _ (k + 1) (.inr (by omega)), rfl⟩
    · have p0 := Int.mul_nonneg b.1.1 b.2.2.2.1.1
      have p1 : a9 * a12 ≤ 1024 * 3686400000000000000 := Int.mul_le_mul (by omega) (by omega) (by omega) (by omega)
      have p2 : a9 * a13 ≤ 1024 * 3686400000000000000 := Int.mul_le_mul (by omega) (by omega) (by omega) (by omega)
      have p3 := Int.mul_nonneg b.1.1 b.2.2.2.2.1.1
      have q0 := Int.mul_nonneg b.2.1.1 b.2.1.1
      have q1 := Int.mul_nonneg b.2.1.1 b.2.2.1.1
      have q2 : a10 * a11 ≤ 61440000000 * 61440000000 := Int.mul_le_mul (by omega) (by omega) (by omega) (by omega)
      refine ⟨gradeI a9 a10 a11 a12 a13, grade_yes _ _ _ _ _ _ _ _ _ _ _ _ _ _ _ (k + 1) (by omega) h (by omega), ?_⟩
      rw [show (a9 == 0) = false from beq_eq_false_iff_ne.2 z, if_neg (by decide), product_eq (x := a9) (y := a12) (by omega) (by omega) (by omega) (by omega), product_eq (x := a10) (y := a10) (by omega) (by omega) (by omega) (by omega)]
      simp only [Option.bind_some]
      rw [less_wide]
      simp only [Option.bind_some]
      unfold gradeI
      by_cases c : a10 * a10 < a9 * a12
      · rw [decide_eq_true c, if_pos rfl, if_neg (show ¬ a9 * a12 - a10 * a10 ≤ 0 by omega), product_eq (x := a9) (y := a13) (by omega) (by omega) (by omega) (by omega), product_eq (x := a10) (y := a11) (by omega) (by omega) (by omega) (by omega)]
        simp only [Option.bind_some]
        rw [less_wide]
        simp only [Option.bind_some]
        by_cases d : a9 * a13 < a10 * a11
        · have r := ratio_rng (A := a10 * a11 - a9 * a13) (B := a9 * a12 - a10 * a10) (by omega) (by omega)
          rw [decide_eq_true d, if_pos rfl, if_pos (show a9 * a13 - a10 * a11 < 0 by omega), minus_wide (by omega) p3 (by omega)]
          simp only [Option.bind_some]
          rw [minus_wide (by omega) q0 (by omega)]
          simp only [Option.bind_some]
          rw [refRatio_wide k (by omega) (by omega) (by omega) (by omega) (by omega), show -(a9 * a13 - a10 * a11) = a10 * a11 - a9 * a13 by omega]
          simp only [Option.bind_some]
          rw [wrap64_id (by omega) (by omega)]
        · rw [decide_eq_false d, if_neg (by decide), if_neg (show ¬ a9 * a13 - a10 * a11 < 0 by omega), minus_wide (by omega) q1 (by omega)]
          simp only [Option.bind_some]
          rw [minus_wide (by omega) q0 (by omega)]
          simp only [Option.bind_some]
          rw [refRatio_wide k (by omega) (by omega) (by omega) (by omega) (by omega)]
          simp only [Option.bind_some]
      · rw [decide_eq_false c, if_neg (by decide), if_pos (show a9 * a12 - a10 * a10 ≤ 0 by omega)]
  · rw [if_neg h, if_pos trivial]
    exact ⟨0, grade_no _ _ _ _ _ _ _ _ _ _ _ _ _ _ _ (k + 1) (.inl (Bool.eq_false_iff.2 h)), rfl⟩

end Go.Proofs.Ytcmbogdilplmlaa.P
