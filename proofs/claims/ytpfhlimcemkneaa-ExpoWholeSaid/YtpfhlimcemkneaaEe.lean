/- Logarithm and power by bits, as plain numbers: their bounds, by powers. No program in sight. -/
import Derived.Test.YtpfhlimcemkneaaTh
set_option linter.unusedVariables false
set_option linter.unusedSimpArgs false
namespace Go.Proofs.Ee
open Go.Proofs.Th
/-! ### the bits of a logarithm -/
def lg : Nat → Nat → Nat
  | 0, _ => 0
  | d + 1, m => if m * m / 4611686018427387904 < 9223372036854775808 then lg d (m * m / 4611686018427387904) else 2 ^ d + lg d (m * m / 4611686018427387904 / 2)
def In (m : Nat) : Prop := 4611686018427387904 ≤ m ∧ m < 9223372036854775808
theorem sq_in {m : Nat} (h : In m) : 21267647932558653966460912964485513216 ≤ m * m ∧ m * m < 85070591730234615865843651857942052864 := by
  obtain ⟨h0, h1⟩ := h
  have a := Nat.mul_le_mul h0 h0
  have b := Nat.mul_le_mul (show m ≤ 9223372036854775807 by omega) (show m ≤ 9223372036854775807 by omega)
  omega
theorem in_lo {m : Nat} (h : In m) (c : m * m / 4611686018427387904 < 9223372036854775808) : In (m * m / 4611686018427387904) := by
  have := sq_in h
  unfold In; omega
theorem in_hi {m : Nat} (h : In m) (c : ¬ m * m / 4611686018427387904 < 9223372036854775808) : In (m * m / 4611686018427387904 / 2) := by
  have := sq_in h
  unfold In; omega
theorem lg_lt : ∀ (d m : Nat), lg d m < 2 ^ d
  | 0, m => by simp [lg]
  | d + 1, m => by
    simp only [lg]
    rw [Nat.pow_succ]
    split
    · have := lg_lt d (m * m / 4611686018427387904); omega
    · have := lg_lt d (m * m / 4611686018427387904 / 2); omega
theorem lg_mono : ∀ (d m m' : Nat), m ≤ m' → lg d m ≤ lg d m'
  | 0, m, m', h => by simp [lg]
  | d + 1, m, m', h => by
    have hs := Nat.mul_le_mul h h
    have hq : m * m / 4611686018427387904 ≤ m' * m' / 4611686018427387904 := Nat.div_le_div_right hs
    simp only [lg]
    split <;> split
    · exact lg_mono d _ _ hq
    · have := lg_lt d (m * m / 4611686018427387904); omega
    · omega
    · have := lg_mono d _ _ (show m * m / 4611686018427387904 / 2 ≤ m' * m' / 4611686018427387904 / 2 by omega); omega
theorem lg_one (d : Nat) : lg d 4611686018427387904 = 0 := by
  induction d with
  | zero => rfl
  | succ d ih => simp only [lg]; rw [if_pos (by decide)]; exact ih
/-- The number is not below two to its bits. -/
theorem lg_le : ∀ (d m : Nat), In m → 2 ^ (62 * 2 ^ d + lg d m) ≤ m ^ 2 ^ d
  | 0, m, h => by simpa [lg] using h.1
  | d + 1, m, h => by
    have e : m ^ 2 ^ (d + 1) = (m * m) ^ 2 ^ d := by rw [Nat.pow_succ, Nat.mul_comm, Nat.pow_mul, Nat.pow_two]
    have e2 : 62 * 2 ^ (d + 1) = 62 * 2 ^ d + 62 * 2 ^ d := by rw [Nat.pow_succ]; omega
    rw [e, e2]
    simp only [lg]
    split
    · rename_i c
      have ih := lg_le d _ (in_lo h c)
      have hm : m * m / 4611686018427387904 * 2 ^ 62 ≤ m * m := Nat.div_mul_le_self _ _
      calc 2 ^ (62 * 2 ^ d + 62 * 2 ^ d + lg d (m * m / 4611686018427387904))
          = 2 ^ (62 * 2 ^ d + lg d (m * m / 4611686018427387904)) * (2 ^ 62) ^ 2 ^ d := by rw [← Nat.pow_mul, ← Nat.pow_add]; congr 1; omega
        _ ≤ (m * m / 4611686018427387904) ^ 2 ^ d * (2 ^ 62) ^ 2 ^ d := Nat.mul_le_mul_right _ ih
        _ = (m * m / 4611686018427387904 * 2 ^ 62) ^ 2 ^ d := (Nat.mul_pow _ _ _).symm
        _ ≤ (m * m) ^ 2 ^ d := Nat.pow_le_pow_left hm _
    · rename_i c
      have ih := lg_le d _ (in_hi h c)
      have hm : m * m / 4611686018427387904 / 2 * 2 ^ 63 ≤ m * m := by omega
      calc 2 ^ (62 * 2 ^ d + 62 * 2 ^ d + (2 ^ d + lg d (m * m / 4611686018427387904 / 2)))
          = 2 ^ (62 * 2 ^ d + lg d (m * m / 4611686018427387904 / 2)) * (2 ^ 63) ^ 2 ^ d := by rw [← Nat.pow_mul, ← Nat.pow_add]; congr 1; omega
        _ ≤ (m * m / 4611686018427387904 / 2) ^ 2 ^ d * (2 ^ 63) ^ 2 ^ d := Nat.mul_le_mul_right _ ih
        _ = (m * m / 4611686018427387904 / 2 * 2 ^ 63) ^ 2 ^ d := (Nat.mul_pow _ _ _).symm
        _ ≤ (m * m) ^ 2 ^ d := Nat.pow_le_pow_left hm _
/-- .. and not far above. -/
theorem lg_ge : ∀ (d m s : Nat), In m → (s + 1) * 5 ^ d ≤ 4611686018427387904 → (m + s) ^ 2 ^ d * 2 ^ 62 ≤ 2 ^ (62 * 2 ^ d + lg d m) * (9223372036854775808 + (s + 1) * 5 ^ d)
  | 0, m, s, h, hs => by
    have := h.2
    simp only [lg, Nat.pow_zero, Nat.pow_one, Nat.mul_one, Nat.add_zero]
    omega
  | d + 1, m, s, h, hs => by
    have e : (m + s) ^ 2 ^ (d + 1) = ((m + s) * (m + s)) ^ 2 ^ d := by rw [Nat.pow_succ, Nat.mul_comm, Nat.pow_mul, Nat.pow_two]
    have e2 : 62 * 2 ^ (d + 1) = 62 * 2 ^ d + 62 * 2 ^ d := by rw [Nat.pow_succ]; omega
    have e3 : (s + 1) * 5 ^ (d + 1) = (5 * s + 4 + 1) * 5 ^ d := by rw [Nat.pow_succ, Nat.mul_comm (5 ^ d), ← Nat.mul_assoc]; congr 1; omega
    have hs1 : s ≤ 4611686018427387904 := by
      have : (s + 1) * 1 ≤ (s + 1) * 5 ^ (d + 1) := Nat.mul_le_mul_left _ (Nat.pow_pos (by decide))
      omega
    have hms : m * s ≤ 9223372036854775808 * s := Nat.mul_le_mul_right _ (by have := h.2; omega)
    have hss : s * s ≤ 4611686018427387904 * s := Nat.mul_le_mul_right _ hs1
    have ex : (m + s) * (m + s) = m * m + 2 * (m * s) + s * s := by grind
    rw [e, e2, e3]
    rw [e3] at hs
    simp only [lg]
    split
    · rename_i c
      have ih := lg_ge d _ (5 * s + 4) (in_lo h c) hs
      have hm : (m + s) * (m + s) ≤ (m * m / 4611686018427387904 + (5 * s + 4)) * 2 ^ 62 := by rw [ex]; omega
      calc ((m + s) * (m + s)) ^ 2 ^ d * 2 ^ 62 ≤ ((m * m / 4611686018427387904 + (5 * s + 4)) * 2 ^ 62) ^ 2 ^ d * 2 ^ 62 := Nat.mul_le_mul_right _ (Nat.pow_le_pow_left hm _)
        _ = (m * m / 4611686018427387904 + (5 * s + 4)) ^ 2 ^ d * 2 ^ 62 * 2 ^ (62 * 2 ^ d) := by rw [Nat.mul_pow, ← Nat.pow_mul]; exact Nat.mul_right_comm _ _ _
        _ ≤ 2 ^ (62 * 2 ^ d + lg d (m * m / 4611686018427387904)) * (9223372036854775808 + (5 * s + 4 + 1) * 5 ^ d) * 2 ^ (62 * 2 ^ d) := Nat.mul_le_mul_right _ ih
        _ = 2 ^ (62 * 2 ^ d + 62 * 2 ^ d + lg d (m * m / 4611686018427387904)) * (9223372036854775808 + (5 * s + 4 + 1) * 5 ^ d) := by
          rw [Nat.mul_right_comm, ← Nat.pow_add]; congr 2; omega
    · rename_i c
      have ih := lg_ge d _ (5 * s + 4) (in_hi h c) hs
      have hm : (m + s) * (m + s) ≤ (m * m / 4611686018427387904 / 2 + (5 * s + 4)) * 2 ^ 63 := by rw [ex]; omega
      calc ((m + s) * (m + s)) ^ 2 ^ d * 2 ^ 62 ≤ ((m * m / 4611686018427387904 / 2 + (5 * s + 4)) * 2 ^ 63) ^ 2 ^ d * 2 ^ 62 := Nat.mul_le_mul_right _ (Nat.pow_le_pow_left hm _)
        _ = (m * m / 4611686018427387904 / 2 + (5 * s + 4)) ^ 2 ^ d * 2 ^ 62 * 2 ^ (63 * 2 ^ d) := by rw [Nat.mul_pow, ← Nat.pow_mul]; exact Nat.mul_right_comm _ _ _
        _ ≤ 2 ^ (62 * 2 ^ d + lg d (m * m / 4611686018427387904 / 2)) * (9223372036854775808 + (5 * s + 4 + 1) * 5 ^ d) * 2 ^ (63 * 2 ^ d) := Nat.mul_le_mul_right _ ih
        _ = 2 ^ (62 * 2 ^ d + 62 * 2 ^ d + (2 ^ d + lg d (m * m / 4611686018427387904 / 2))) * (9223372036854775808 + (5 * s + 4 + 1) * 5 ^ d) := by
          rw [Nat.mul_right_comm, ← Nat.pow_add]; congr 2; omega
/-! ### the factors -/
def un : Nat := 1152921504606846976
/-- A rounded root of a factor, as what is known of it alone. -/
def Rt (g : Nat → Nat) : Prop := ∀ c, g c * g c ≤ c * 1152921504606846976 ∧ c * 1152921504606846976 < (g c + 1) * (g c + 1)
section
variable {g : Nat → Nat} (hg : Rt g)
include hg
theorem g_sq (c : Nat) : g c * g c ≤ c * 1152921504606846976 := (hg c).1
theorem g_lt (c : Nat) : c * 1152921504606846976 < (g c + 1) * (g c + 1) := (hg c).2
omit hg in
theorem root_ge {a s x : Nat} (h2 : a < (x + 1) * (x + 1)) (h : s * s ≤ a) : s ≤ x := by
  apply Nat.le_of_not_lt
  intro c
  have := Nat.mul_le_mul (show x + 1 ≤ s from c) (show x + 1 ≤ s from c)
  omega
theorem g_ge {c h : Nat} (hh : h ≤ 1152921504606846976) (hc : 1152921504606846976 + 4 * h ≤ c) : 1152921504606846976 + h ≤ g c := by
  refine root_ge (g_lt hg c) ?_
  have a := Nat.mul_le_mul_right 1152921504606846976 hc
  have b := Nat.mul_le_mul_right h hh
  have e : (1152921504606846976 + h) * (1152921504606846976 + h) = 1152921504606846976 * 1152921504606846976 + 2 * (1152921504606846976 * h) + h * h := by grind
  omega
theorem g_one {c : Nat} (h : 1152921504606846976 ≤ c) : 1152921504606846976 ≤ g c := g_ge hg (h := 0) (by decide) (by omega)
theorem g_le {c : Nat} (h : 1152921504606846976 ≤ c) : g c ≤ c := by
  apply Nat.le_of_not_lt
  intro k
  have a := Nat.mul_le_mul (show c + 1 ≤ g c from k) (show c + 1 ≤ g c from k)
  have b := g_sq hg c
  have := Nat.mul_le_mul_left c h
  have e : (c + 1) * (c + 1) = c * c + 2 * c + 1 := by grind
  omega
theorem g_first : g 2305843009213693952 = 1630477228166597776 := by
  have a : 1630477228166597776 ≤ g 2305843009213693952 := root_ge (g_lt hg _) (by decide)
  have b := g_sq hg 2305843009213693952
  apply Nat.le_antisymm _ a
  apply Nat.le_of_not_lt
  intro k
  have c := Nat.mul_le_mul (show 1630477228166597776 + 1 ≤ g 2305843009213693952 from k) (show 1630477228166597776 + 1 ≤ g 2305843009213693952 from k)
  omega
end
/-- The factor behind so many. -/
def fa (g : Nat → Nat) : Nat → Nat
  | 0 => 2305843009213693952
  | k + 1 => g (fa g k)
section
variable {g : Nat → Nat} (hg : Rt g)
include hg
theorem fa_le : ∀ k, 1152921504606846976 ≤ fa g k ∧ fa g k ≤ 2305843009213693952
  | 0 => by simp [fa]
  | k + 1 => by
    have ih := fa_le k
    exact ⟨g_one hg ih.1, Nat.le_trans (g_le hg ih.1) ih.2⟩
theorem fa_mono {j k : Nat} (h : j ≤ k) : fa g k ≤ fa g j := by
  induction h with
  | refl => exact Nat.le_refl _
  | step h ih => exact Nat.le_trans (g_le hg (fa_le hg _).1) ih
theorem fa_gt (k : Nat) : ∀ (d : Nat), k + d = 30 → 1152921504606846976 + 4 ^ d ≤ fa g k := by
  induction k with
  | zero => intro d h; obtain rfl : d = 30 := by omega
            simp [fa]
  | succ k ih =>
    intro d h
    have := ih (d + 1) (by omega)
    refine g_ge hg ?_ (by rw [Nat.pow_succ] at this; omega)
    have := Nat.pow_le_pow_right (n := 4) (by decide) (show d ≤ 30 by omega)
    have e : (4 : Nat) ^ 30 = 1152921504606846976 := by decide
    omega
end
/-! ### powers by factors -/
def ex (g : Nat → Nat) : Nat → Nat → Nat → Nat → Nat
  | 0, f, p, c => p
  | d + 1, f, p, c => ex g d f (if f / 2 ^ d % 2 = 1 then p * g c / 1152921504606846976 else p) (g c)
theorem ex_zero (g : Nat → Nat) : ∀ (d f p c : Nat), f % 2 ^ d = 0 → ex g d f p c = p
  | 0, f, p, c, h => rfl
  | d + 1, f, p, c, h => by
    simp only [ex]
    rw [Nat.mod_pow_succ] at h
    have h0 : f % 2 ^ d = 0 := by omega
    have h1 : 2 ^ d * (f / 2 ^ d % 2) = 0 := by omega
    have h2 : f / 2 ^ d % 2 = 0 := by
      rcases Nat.mul_eq_zero.1 h1 with h | h
      · have := Nat.two_pow_pos d; omega
      · exact h
    rw [if_neg (by omega)]
    exact ex_zero g d f p _ h0
theorem ex_mod (g : Nat → Nat) : ∀ (d f f' p c : Nat), f % 2 ^ d = f' % 2 ^ d → ex g d f p c = ex g d f' p c
  | 0, f, f', p, c, h => rfl
  | d + 1, f, f', p, c, h => by
    simp only [ex]
    have k0 := Nat.mod_pow_succ (x := f) (b := 2) (k := d)
    have k1 := Nat.mod_pow_succ (x := f') (b := 2) (k := d)
    have l0 := Nat.mod_lt f (Nat.two_pow_pos d)
    have l1 := Nat.mod_lt f' (Nat.two_pow_pos d)
    have hb : f / 2 ^ d % 2 = f' / 2 ^ d % 2 := by
      rcases Nat.mod_two_eq_zero_or_one (f / 2 ^ d) with x | x <;> rcases Nat.mod_two_eq_zero_or_one (f' / 2 ^ d) with y | y <;> rw [x] at k0 <;> rw [y] at k1 <;> omega
    have hm : f % 2 ^ d = f' % 2 ^ d := by rw [hb] at k0; omega
    rw [hb]
    exact ex_mod g d f f' _ _ hm
theorem mul_div_ge {p c : Nat} (h : 1152921504606846976 ≤ c) : p ≤ p * c / 1152921504606846976 := by
  rw [Nat.le_div_iff_mul_le (by decide)]
  exact Nat.mul_le_mul_left _ h
section
variable {g : Nat → Nat} (hg : Rt g)
include hg
theorem ex_ge : ∀ (d f p c : Nat), 1152921504606846976 ≤ c → p ≤ ex g d f p c
  | 0, f, p, c, h => Nat.le_refl _
  | d + 1, f, p, c, h => by
    simp only [ex]
    split
    · exact Nat.le_trans (mul_div_ge (g_one hg h)) (ex_ge d f _ _ (g_one hg h))
    · exact ex_ge d f _ _ (g_one hg h)
set_option maxRecDepth 100000 in
theorem ex_le : ∀ (d f p c : Nat), 1152921504606846976 ≤ c → ex g d f p c * 1152921504606846976 ≤ p * c
  | 0, f, p, c, h => Nat.mul_le_mul_left _ h
  | d + 1, f, p, c, h => by
    simp only [ex]
    split
    · have ih := ex_le d f (p * g c / 1152921504606846976) (g c) (g_one hg h)
      generalize ex g d f (p * g c / 1152921504606846976) (g c) = x at *
      have h1 : p * g c / 1152921504606846976 * 1152921504606846976 ≤ p * g c := Nat.div_mul_le_self _ _
      generalize p * g c / 1152921504606846976 = q at *
      have h2 := Nat.mul_le_mul_right (g c) h1
      have h3 := Nat.mul_le_mul_left p (g_sq hg c)
      have e1 : q * 1152921504606846976 * g c = q * g c * 1152921504606846976 := Nat.mul_right_comm _ _ _
      have e2 : p * g c * g c = p * (g c * g c) := Nat.mul_assoc _ _ _
      have e3 : p * (c * 1152921504606846976) = p * c * 1152921504606846976 := (Nat.mul_assoc _ _ _).symm
      refine Nat.le_of_mul_le_mul_right (c := 1152921504606846976) ?_ (by decide)
      calc x * 1152921504606846976 * 1152921504606846976 ≤ q * g c * 1152921504606846976 := Nat.mul_le_mul_right _ ih
        _ ≤ p * g c * g c := by rw [← e1]; exact h2
        _ ≤ p * c * 1152921504606846976 := by rw [e2, ← e3]; exact h3
    · exact Nat.le_trans (ex_le d f p (g c) (g_one hg h)) (Nat.mul_le_mul_left _ (g_le hg h))
set_option maxRecDepth 100000 in
theorem ex_mono : ∀ (d f f' p p' c : Nat), 1152921504606846976 ≤ c → p ≤ p' → f % 2 ^ d ≤ f' % 2 ^ d → ex g d f p c ≤ ex g d f' p' c
  | 0, f, f', p, p', c, hc, hp, hf => hp
  | d + 1, f, f', p, p', c, hc, hp, hf => by
    have k0 := Nat.mod_pow_succ (x := f) (b := 2) (k := d)
    have k1 := Nat.mod_pow_succ (x := f') (b := 2) (k := d)
    have l0 := Nat.mod_lt f (Nat.two_pow_pos d)
    have l1 := Nat.mod_lt f' (Nat.two_pow_pos d)
    have hq : p * g c / 1152921504606846976 ≤ p' * g c / 1152921504606846976 := Nat.div_le_div_right (Nat.mul_le_mul_right _ hp)
    simp only [ex]
    rcases Nat.mod_two_eq_zero_or_one (f / 2 ^ d) with x | x <;> rcases Nat.mod_two_eq_zero_or_one (f' / 2 ^ d) with y | y
    · rw [if_neg (by omega), if_neg (by omega)]
      rw [x] at k0; rw [y] at k1
      exact ex_mono d f f' _ _ _ (g_one hg hc) hp (by omega)
    · rw [if_neg (by omega), if_pos (by omega)]
      have a := ex_le hg d f p (g c) (g_one hg hc)
      have b : ex g d f p (g c) ≤ p * g c / 1152921504606846976 := by rw [Nat.le_div_iff_mul_le (by decide)]; exact a
      exact Nat.le_trans b (Nat.le_trans hq (ex_ge hg d f' _ _ (g_one hg hc)))
    · rw [x] at k0; rw [y] at k1
      exfalso; omega
    · rw [if_pos (by omega), if_pos (by omega)]
      rw [x] at k0; rw [y] at k1
      exact ex_mono d f f' _ _ _ (g_one hg hc) hq (by omega)
end
/-- The power of a part below one. -/
def pw (g : Nat → Nat) (f : Nat) : Nat := ex g 20 f 1152921504606846976 2305843009213693952
theorem ex_succ (g : Nat → Nat) (d f p c : Nat) : ex g (d + 1) f p c = ex g d f (if f / 2 ^ d % 2 = 1 then p * g c / 1152921504606846976 else p) (g c) := rfl
section
variable {g : Nat → Nat} (hg : Rt g)
include hg
theorem pw_ge (f : Nat) : 1152921504606846976 ≤ pw g f := ex_ge hg _ _ _ _ (by decide)
theorem pw_lt (f : Nat) : pw g f < 2305843009213693952 := by
  unfold pw
  rw [ex_succ, g_first hg]
  have h : ∀ p, p ≤ 1630477228166597776 → ex g 19 f p 1630477228166597776 < 2305843009213693952 := by
    intro p hp
    have a := ex_le hg 19 f p 1630477228166597776 (by decide)
    generalize ex g 19 f p 1630477228166597776 = x at *
    omega
  split
  · exact h _ (by decide)
  · exact h _ (by decide)
theorem pw_mono {f f' : Nat} (h : f % 1048576 ≤ f' % 1048576) : pw g f ≤ pw g f' := ex_mono hg 20 f f' _ _ _ (by decide) (Nat.le_refl _) h
theorem ex_up : ∀ (d j f p c : Nat), c ^ 2 ^ j ≤ 2 ^ (60 * 2 ^ j + 1) → ex g d f p c ^ 2 ^ (j + d) ≤ p ^ 2 ^ (j + d) * 2 ^ (f % 2 ^ d)
  | 0, j, f, p, c, h => by simp [ex, Nat.mod_one]
  | d + 1, j, f, p, c, h => by
    have hc : g c ^ 2 ^ (j + 1) ≤ 2 ^ (60 * 2 ^ (j + 1) + 1) := by
      calc g c ^ 2 ^ (j + 1) = (g c * g c) ^ 2 ^ j := by rw [Nat.pow_succ, Nat.mul_comm, Nat.pow_mul, Nat.pow_two]
        _ ≤ (c * 2 ^ 60) ^ 2 ^ j := Nat.pow_le_pow_left (g_sq hg c) _
        _ = c ^ 2 ^ j * 2 ^ (60 * 2 ^ j) := by rw [Nat.mul_pow, ← Nat.pow_mul]
        _ ≤ 2 ^ (60 * 2 ^ j + 1) * 2 ^ (60 * 2 ^ j) := Nat.mul_le_mul_right _ h
        _ = 2 ^ (60 * 2 ^ (j + 1) + 1) := by rw [← Nat.pow_add]; congr 1; rw [Nat.pow_succ]; omega
    have hj : j + (d + 1) = j + 1 + d := by omega
    rw [hj, Nat.mod_pow_succ]
    simp only [ex]
    split
    · rename_i b
      rw [b, Nat.mul_one]
      have ih := ex_up d (j + 1) f (p * g c / 1152921504606846976) (g c) hc
      refine Nat.le_trans ih ?_
      rw [Nat.pow_add 2 (f % 2 ^ d), Nat.mul_comm (2 ^ (f % 2 ^ d)), ← Nat.mul_assoc]
      refine Nat.mul_le_mul_right _ ?_
      have h1 : p * g c / 1152921504606846976 * 2 ^ 60 ≤ p * g c := Nat.div_mul_le_self _ _
      have h2 := Nat.pow_le_pow_left h1 (2 ^ (j + 1 + d))
      rw [Nat.mul_pow, Nat.mul_pow] at h2
      have h3 : g c ^ 2 ^ (j + 1 + d) ≤ (2 ^ 60) ^ 2 ^ (j + 1 + d) * 2 ^ 2 ^ d := by
        calc g c ^ 2 ^ (j + 1 + d) = (g c ^ 2 ^ (j + 1)) ^ 2 ^ d := by rw [Nat.pow_add, Nat.pow_mul]
          _ ≤ (2 ^ (60 * 2 ^ (j + 1) + 1)) ^ 2 ^ d := Nat.pow_le_pow_left hc _
          _ = (2 ^ 60) ^ 2 ^ (j + 1 + d) * 2 ^ 2 ^ d := by rw [← Nat.pow_mul, ← Nat.pow_mul, ← Nat.pow_add]; congr 1; rw [Nat.pow_add 2 (j + 1) d, Nat.add_mul, Nat.one_mul, Nat.mul_assoc]
      have h4 := Nat.le_trans h2 (Nat.mul_le_mul_left _ h3)
      rw [Nat.mul_comm ((2 ^ 60) ^ _), ← Nat.mul_assoc] at h4
      exact Nat.le_of_mul_le_mul_right h4 (Nat.pow_pos (Nat.two_pow_pos 60))
    · rename_i b
      have b0 : f / 2 ^ d % 2 = 0 := by omega
      rw [b0, Nat.mul_zero, Nat.add_zero]
      exact ex_up d (j + 1) f p (g c) hc
theorem ex_dn : ∀ (d j f p c s : Nat), 1152921504606846976 ≤ c → c ≤ 2305843009213693952 → p * c ≤ 2658455991569831745807614120560689152 → (s + 6) * 2 ^ d ≤ 1099511627776 → 2 ^ (60 * 2 ^ j + 1) ≤ (c + 2) ^ 2 ^ j →
    (p + s) ^ 2 ^ (j + d) * 2 ^ (f % 2 ^ d) ≤ (ex g d f p c + (s + 6) * 2 ^ d) ^ 2 ^ (j + d)
  | 0, j, f, p, c, s, h0, h1, hp, hs, h => by
    simp only [ex, Nat.mod_one, Nat.pow_zero, Nat.mul_one]
    exact Nat.pow_le_pow_left (by omega) _
  | d + 1, j, f, p, c, s, h0, h1, hp, hs, h => by
    have g0 := g_one hg h0
    have g1 := g_le hg h0
    have gs := g_sq hg c
    have gl := g_lt hg c
    have hc : 2 ^ (60 * 2 ^ (j + 1) + 1) ≤ (g c + 2) ^ 2 ^ (j + 1) := by
      calc 2 ^ (60 * 2 ^ (j + 1) + 1) = 2 ^ (60 * 2 ^ j + 1) * 2 ^ (60 * 2 ^ j) := by rw [← Nat.pow_add]; congr 1; rw [Nat.pow_succ]; omega
        _ ≤ (c + 2) ^ 2 ^ j * 2 ^ (60 * 2 ^ j) := Nat.mul_le_mul_right _ h
        _ = ((c + 2) * 2 ^ 60) ^ 2 ^ j := by rw [Nat.mul_pow, ← Nat.pow_mul]
        _ ≤ ((g c + 2) * (g c + 2)) ^ 2 ^ j := by
          refine Nat.pow_le_pow_left ?_ _
          have e : (g c + 2) * (g c + 2) = (g c + 1) * (g c + 1) + 2 * g c + 3 := by grind
          have e60 : (2 : Nat) ^ 60 = 1152921504606846976 := by decide
          rw [e60]
          omega
        _ = (g c + 2) ^ 2 ^ (j + 1) := by rw [Nat.pow_succ 2 j, Nat.mul_comm (2 ^ j), Nat.pow_mul, Nat.pow_two]
    have hj : j + (d + 1) = j + 1 + d := by omega
    have es : (2 * s + 6 + 6) * 2 ^ d = (s + 6) * 2 ^ (d + 1) := by rw [Nat.pow_succ, Nat.mul_comm (2 ^ d), ← Nat.mul_assoc]; congr 1; omega
    have hs1 : s + 6 ≤ 1099511627776 := by
      have : (s + 6) * 1 ≤ (s + 6) * 2 ^ (d + 1) := Nat.mul_le_mul_left _ (Nat.two_pow_pos _)
      omega
    have hpc : p * g c ≤ p * c := Nat.mul_le_mul_left _ g1
    have hp1 : p ≤ 2305843009213693952 := by
      have := Nat.mul_le_mul_left p h0
      omega
    rw [hj, Nat.mod_pow_succ]
    simp only [ex]
    split
    · rename_i b
      rw [b, Nat.mul_one]
      have hq : p * g c / 1152921504606846976 * g c ≤ 2658455991569831745807614120560689152 := by
        have k1 : p * g c / 1152921504606846976 * 1152921504606846976 ≤ p * g c := Nat.div_mul_le_self _ _
        generalize p * g c / 1152921504606846976 = q at *
        have k2 := Nat.mul_le_mul_right (g c) k1
        have k3 := Nat.mul_le_mul_left p gs
        have e1 : q * 1152921504606846976 * g c = q * g c * 1152921504606846976 := Nat.mul_right_comm _ _ _
        have e2 : p * g c * g c = p * (g c * g c) := Nat.mul_assoc _ _ _
        have e3 : p * (c * 1152921504606846976) = p * c * 1152921504606846976 := (Nat.mul_assoc _ _ _).symm
        omega
      have ih := ex_dn d (j + 1) f (p * g c / 1152921504606846976) (g c) (2 * s + 6) g0 (by omega) hq (by omega) hc
      rw [es] at ih
      refine Nat.le_trans ?_ ih
      rw [Nat.pow_add 2 (f % 2 ^ d), Nat.mul_comm (2 ^ (f % 2 ^ d)), ← Nat.mul_assoc]
      refine Nat.mul_le_mul_right _ ?_
      have k1 : (p + s) * (g c + 2) ≤ (p * g c / 1152921504606846976 + (2 * s + 6)) * 2 ^ 60 := by
        have e60 : (2 : Nat) ^ 60 = 1152921504606846976 := by decide
        rw [e60]
        have e : (p + s) * (g c + 2) = p * g c + 2 * p + s * g c + 2 * s := by grind
        have k : s * g c ≤ s * 2305843009213693952 := Nat.mul_le_mul_left _ (by omega)
        rw [e]
        generalize p * g c = x at *
        omega
      have k2 := Nat.pow_le_pow_left k1 (2 ^ (j + 1 + d))
      rw [Nat.mul_pow, Nat.mul_pow] at k2
      have k3 : (2 ^ 60) ^ 2 ^ (j + 1 + d) * 2 ^ 2 ^ d ≤ (g c + 2) ^ 2 ^ (j + 1 + d) := by
        calc (2 ^ 60) ^ 2 ^ (j + 1 + d) * 2 ^ 2 ^ d = (2 ^ (60 * 2 ^ (j + 1) + 1)) ^ 2 ^ d := by rw [← Nat.pow_mul, ← Nat.pow_mul, ← Nat.pow_add]; congr 1; rw [Nat.pow_add 2 (j + 1) d, Nat.add_mul, Nat.one_mul, Nat.mul_assoc]
          _ ≤ ((g c + 2) ^ 2 ^ (j + 1)) ^ 2 ^ d := Nat.pow_le_pow_left hc _
          _ = (g c + 2) ^ 2 ^ (j + 1 + d) := by rw [Nat.pow_add 2 (j + 1), Nat.pow_mul]
      have k4 := Nat.le_trans (Nat.mul_le_mul_left _ k3) k2
      rw [Nat.mul_comm ((2 ^ 60) ^ _), ← Nat.mul_assoc] at k4
      exact Nat.le_of_mul_le_mul_right k4 (Nat.pow_pos (Nat.two_pow_pos 60))
    · rename_i b
      have b0 : f / 2 ^ d % 2 = 0 := by omega
      rw [b0, Nat.mul_zero, Nat.add_zero]
      have ih := ex_dn d (j + 1) f p (g c) (2 * s + 6) g0 (by omega) (by omega) (by omega) hc
      rw [es] at ih
      refine Nat.le_trans ?_ ih
      exact Nat.mul_le_mul_right _ (Nat.pow_le_pow_left (by omega) _)
end
/-- Bernoulli, both ways. -/
theorem bern_up (A e : Nat) : ∀ K : Nat, A ^ K * (A + K * e) ≤ A * (A + e) ^ K
  | 0 => by simp
  | K + 1 => by
    have ih := bern_up A e K
    have h := Nat.mul_le_mul_right (A + e) ih
    have e1 : A * (A + e) ^ (K + 1) = A * (A + e) ^ K * (A + e) := by rw [Nat.pow_succ, ← Nat.mul_assoc]
    have e2 : A ^ (K + 1) * (A + (K + 1) * e) ≤ A ^ K * (A + K * e) * (A + e) := by
      rw [Nat.pow_succ, Nat.mul_assoc, Nat.mul_assoc]
      refine Nat.mul_le_mul_left _ ?_
      have e3 : (A + K * e) * (A + e) = A * (A + (K + 1) * e) + K * e * e := by grind
      omega
    rw [e1]
    exact Nat.le_trans e2 h
theorem bern_dn (m e : Nat) : ∀ K : Nat, (m + e) ^ K * (m + e) ≤ (m + e) * m ^ K + K * e * (m + e) ^ K
  | 0 => by simp
  | K + 1 => by
    have ih := bern_dn m e K
    have h := Nat.mul_le_mul_right (m + e) ih
    have hm : m ^ K ≤ (m + e) ^ K := Nat.pow_le_pow_left (by omega) _
    have e1 : (m + e) * m ^ (K + 1) + (K + 1) * e * (m + e) ^ (K + 1) = ((m + e) * m ^ K + K * e * (m + e) ^ K) * (m + e) + e * (m + e) * ((m + e) ^ K - m ^ K) := by
      rw [Nat.mul_sub, Nat.pow_succ, Nat.pow_succ]
      have : e * (m + e) * m ^ K ≤ e * (m + e) * (m + e) ^ K := Nat.mul_le_mul_left _ hm
      grind
    rw [e1, Nat.pow_succ]
    exact Nat.le_trans h (Nat.le_add_right _ _)
end Go.Proofs.Ee
