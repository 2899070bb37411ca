/- Plain lemmas on whole numbers: words of 64 and 128 bits, products, quotients, roots, shifts. -/
import Derived.Laws.BitsLemmas
import Derived.RowKit
import Derived.Lib.BitFns
set_option linter.unusedVariables false
set_option linter.unusedSimpArgs false
namespace Go.Proofs.Th
open Go Go.RowKit
/-- The number of 128 bits that two halves make. -/
def W (hi lo : Int) : Int := hi * 18446744073709551616 + lo
def hi64 (v : Int) : Int := v / 18446744073709551616
def lo64 (v : Int) : Int := v % 18446744073709551616

theorem W_hl (v : Int) : W (hi64 v) (lo64 v) = v := by unfold W hi64 lo64; omega
theorem hi_W {h l : Int} (h0 : 0 ≤ l) (h1 : l < 18446744073709551616) : hi64 (W h l) = h := by unfold W hi64; omega
theorem lo_W {h l : Int} (h0 : 0 ≤ l) (h1 : l < 18446744073709551616) : lo64 (W h l) = l := by unfold W lo64; omega
theorem hi_nn {v : Int} (h : 0 ≤ v) : 0 ≤ hi64 v := by unfold hi64; omega
theorem hi_lt {v : Int} (h : v < 340282366920938463463374607431768211456) : hi64 v < 18446744073709551616 := by unfold hi64; omega
theorem lo_nn (v : Int) : 0 ≤ lo64 v := by unfold lo64; omega
theorem lo_lt (v : Int) : lo64 v < 18446744073709551616 := by unfold lo64; omega
theorem W_nn {h l : Int} (a : 0 ≤ h) (b : 0 ≤ l) : 0 ≤ W h l := by unfold W; omega
theorem W_lt {h l : Int} (a : h < 18446744073709551616) (b : l < 18446744073709551616) : W h l < 340282366920938463463374607431768211456 := by unfold W; omega

/-! ### words of 64 bits -/
theorem wrap64_id {x : Int} (h0 : -9223372036854775808 ≤ x) (h1 : x ≤ 9223372036854775807) : wrap64 x = x := by unfold wrap64; omega
theorem u64_wrap (x : Int) : IntKind.u64.wrap x = x % 18446744073709551616 := by simp [IntKind.wrap, IntKind.bits, IntKind.signed]
theorem u64_id {x : Int} (h0 : 0 ≤ x) (h1 : x < 18446744073709551616) : IntKind.u64.wrap x = x := by rw [u64_wrap]; omega

theorem wraps_u64 (n : Int) (h₀ : 0 ≤ n) (h₁ : n < 2 ^ 64) : IntKind.u64.wrap n = n := u64_id h₀ (show n < 2 ^ 64 from h₁)

/-- A power of two, as an Int. -/
theorem two_pow_nat (n : Nat) : ((2 : Int) ^ n) = ((2 ^ n : Nat) : Int) := by simp
theorem two_pow_pos (n : Nat) : (0 : Int) < 2 ^ n := Int.pow_pos (by decide)

theorem bits_or_nat (a b : Nat) (ha : a < 18446744073709551616) (hb : b < 18446744073709551616) : Go.bits .or .u64 (a : Int) (b : Int) = ((a ||| b : Nat) : Int) :=
  (bits_nat .u64 64 (by decide) wraps_u64 a b (show a < 2 ^ 64 from ha) (show b < 2 ^ 64 from hb)).2
theorem bits_and_nat (a b : Nat) (ha : a < 18446744073709551616) (hb : b < 18446744073709551616) : Go.bits .and .u64 (a : Int) (b : Int) = ((a &&& b : Nat) : Int) :=
  (bits_nat .u64 64 (by decide) wraps_u64 a b (show a < 2 ^ 64 from ha) (show b < 2 ^ 64 from hb)).1

/-- A bit that isn't set is added. -/
theorem nat_or_bit (n i : Nat) (h : n / 2 ^ i % 2 = 0) : n ||| 2 ^ i = n + 2 ^ i := by
  have hr : n % 2 ^ i < 2 ^ i := Nat.mod_lt _ (Nat.two_pow_pos i)
  have hq : n = 2 ^ (i + 1) * (n / 2 ^ i / 2) + n % 2 ^ i := by
    have e1 := Nat.div_add_mod n (2 ^ i)
    have e2 : n / 2 ^ i = 2 * (n / 2 ^ i / 2) := by omega
    rw [Nat.pow_succ, Nat.mul_assoc, ← e2]; exact e1.symm
  have hr1 : n % 2 ^ i < 2 ^ (i + 1) := by rw [Nat.pow_succ]; omega
  have hr2 : 2 ^ i + n % 2 ^ i < 2 ^ (i + 1) := by rw [Nat.pow_succ]; omega
  have e3 : n = 2 ^ (i + 1) * (n / 2 ^ i / 2) ||| n % 2 ^ i := by rw [← Nat.two_pow_add_eq_or_of_lt hr1]; exact hq
  have e4 : n % 2 ^ i ||| 2 ^ i = 2 ^ i + n % 2 ^ i := by
    have := Nat.two_pow_add_eq_or_of_lt hr 1
    rw [Nat.mul_one] at this
    rw [this, Nat.or_comm]
  calc n ||| 2 ^ i = (2 ^ (i + 1) * (n / 2 ^ i / 2) ||| n % 2 ^ i) ||| 2 ^ i := by rw [← e3]
    _ = 2 ^ (i + 1) * (n / 2 ^ i / 2) ||| (2 ^ i + n % 2 ^ i) := by rw [Nat.or_assoc, e4]
    _ = 2 ^ (i + 1) * (n / 2 ^ i / 2) + (2 ^ i + n % 2 ^ i) := by rw [← Nat.two_pow_add_eq_or_of_lt hr2]
    _ = n + 2 ^ i := by omega

theorem or_bit {x : Int} {i : Nat} (h0 : 0 ≤ x) (h1 : x < 18446744073709551616) (hi : i < 64) (h : x / 2 ^ i % 2 = 0) : Go.bits .or .u64 x (2 ^ i) = x + 2 ^ i := by
  obtain ⟨n, rfl⟩ := Int.eq_ofNat_of_zero_le h0
  have hp : (2 : Nat) ^ i < 18446744073709551616 := by
    have := Nat.pow_lt_pow_right (a := 2) (by decide) hi
    rwa [show (2 : Nat) ^ 64 = 18446744073709551616 from rfl] at this
  rw [two_pow_nat, bits_or_nat n (2 ^ i) (by omega) hp, nat_or_bit n i (by rw [two_pow_nat] at h; exact_mod_cast h)]
  simp

theorem and_mask {x : Int} (i : Nat) (hi : i ≤ 64) (h0 : 0 ≤ x) (h1 : x < 18446744073709551616) : Go.bits .and .u64 x (2 ^ i - 1) = x % 2 ^ i :=
  bits_mask .u64 64 (by decide) wraps_u64 i hi x h0 (show x < 2 ^ 64 from h1)

theorem or_join {x y : Int} (i : Nat) (hx0 : 0 ≤ x) (hx : x % 2 ^ i = 0) (hx1 : x < 18446744073709551616) (hy0 : 0 ≤ y) (hy : y < 2 ^ i) (hy1 : y < 18446744073709551616) : Go.bits .or .u64 x y = x + y :=
  bits_join .u64 64 (by decide) wraps_u64 i x y hx0 hx (show x < 2 ^ 64 from hx1) hy0 hy (show y < 2 ^ 64 from hy1)
theorem or_join' {x y : Int} (i : Nat) (hx0 : 0 ≤ x) (hx : x % 2 ^ i = 0) (hx1 : x < 18446744073709551616) (hy0 : 0 ≤ y) (hy : y < 2 ^ i) (hy1 : y < 18446744073709551616) : Go.bits .or .u64 y x = x + y := by
  rw [← or_join i hx0 hx hx1 hy0 hy hy1]
  obtain ⟨a, rfl⟩ := Int.eq_ofNat_of_zero_le hx0
  obtain ⟨b, rfl⟩ := Int.eq_ofNat_of_zero_le hy0
  rw [bits_or_nat b a (by omega) (by omega), bits_or_nat a b (by omega) (by omega), Nat.or_comm]
theorem u64_mod (x : Int) : IntKind.u64.wrap x = x % 18446744073709551616 := u64_wrap x

theorem and32 {x : Int} (h0 : 0 ≤ x) (h1 : x < 18446744073709551616) : Go.bits .and .u64 x 4294967295 = x % 4294967296 := by
  have := and_mask 32 (by decide) h0 h1
  simpa using this

/-- A product of two numbers below 2^32, and its bounds, under a name. -/
theorem prod32 {x y : Int} (a : 0 ≤ x) (b : x ≤ 4294967295) (c : 0 ≤ y) (d : y ≤ 4294967295) : 0 ≤ x * y ∧ x * y ≤ 18446744065119617025 := by
  refine ⟨Int.mul_nonneg a c, ?_⟩
  calc x * y ≤ 4294967295 * y := Int.mul_le_mul_of_nonneg_right b c
    _ ≤ 4294967295 * 4294967295 := Int.mul_le_mul_of_nonneg_left d (by decide)
    _ = 18446744065119617025 := by decide

theorem mul_parts (x y : Int) : x * y = (x / 4294967296) * (y / 4294967296) * 18446744073709551616 + ((x / 4294967296) * (y % 4294967296) + (x % 4294967296) * (y / 4294967296)) * 4294967296 + (x % 4294967296) * (y % 4294967296) := by
  have hx : x = x / 4294967296 * 4294967296 + x % 4294967296 := by omega
  have hy : y = y / 4294967296 * 4294967296 + y % 4294967296 := by omega
  generalize x / 4294967296 = a at *
  generalize y / 4294967296 = b at *
  generalize x % 4294967296 = c at *
  generalize y % 4294967296 = d at *
  subst hx hy
  grind

theorem mul_hi (x y : Int) (x0 : 0 ≤ x) (x1 : x < 18446744073709551616) (y0 : 0 ≤ y) (y1 : y < 18446744073709551616) :
    (IntKind.u64.wrap ((IntKind.u64.wrap ((IntKind.u64.wrap ((x / 4294967296) * (y / 4294967296))) + ((IntKind.u64.wrap ((IntKind.u64.wrap ((x / 4294967296) * (Go.bits .and .u64 y 4294967295))) + ((IntKind.u64.wrap ((Go.bits .and .u64 x 4294967295) * (Go.bits .and .u64 y 4294967295))) / 4294967296))) / 4294967296))) + ((IntKind.u64.wrap ((Go.bits .and .u64 (IntKind.u64.wrap ((IntKind.u64.wrap ((x / 4294967296) * (Go.bits .and .u64 y 4294967295))) + ((IntKind.u64.wrap ((Go.bits .and .u64 x 4294967295) * (Go.bits .and .u64 y 4294967295))) / 4294967296))) 4294967295) + (IntKind.u64.wrap ((Go.bits .and .u64 x 4294967295) * (y / 4294967296))))) / 4294967296))) = x * y / 18446744073709551616 := by
  rw [and32 x0 x1, and32 y0 y1]
  have hm := mul_parts x y
  have h11 := prod32 (x := x / 4294967296) (y := y / 4294967296) (by omega) (by omega) (by omega) (by omega)
  have h10 := prod32 (x := x / 4294967296) (y := y % 4294967296) (by omega) (by omega) (by omega) (by omega)
  have h01 := prod32 (x := x % 4294967296) (y := y / 4294967296) (by omega) (by omega) (by omega) (by omega)
  have h00 := prod32 (x := x % 4294967296) (y := y % 4294967296) (by omega) (by omega) (by omega) (by omega)
  generalize x / 4294967296 * (y / 4294967296) = p at *
  generalize x / 4294967296 * (y % 4294967296) = q at *
  generalize x % 4294967296 * (y / 4294967296) = r at *
  generalize x % 4294967296 * (y % 4294967296) = s at *
  rw [hm]
  clear hm
  have e1 : IntKind.u64.wrap s = s := u64_id (by omega) (by omega)
  have e2 : IntKind.u64.wrap q = q := u64_id (by omega) (by omega)
  have e3 : IntKind.u64.wrap (q + s / 4294967296) = q + s / 4294967296 := u64_id (by omega) (by omega)
  have e4 : IntKind.u64.wrap r = r := u64_id (by omega) (by omega)
  have e5 : IntKind.u64.wrap p = p := u64_id (by omega) (by omega)
  rw [e1, e2, e3, e4, e5, and32 (by omega) (by omega)]
  simp only [u64_wrap]
  omega
/-- Where a guess of a quotient's digit stands: 'N = u * 2^32 + u1', 'y = n1 * 2^32 + n0', 'q * n1 + r = u'. -/
theorem guess_cmp {u u1 n1 n0 q r : Int} (h : q * n1 + r = u) : q * n0 - (4294967296 * r + u1) = q * (n1 * 4294967296 + n0) - (u * 4294967296 + u1) := by
  subst h; grind

theorem guess_over {u u1 n1 n0 q r : Int} (h : q * n1 + r = u) (c : 4294967296 * r + u1 < q * n0) : u * 4294967296 + u1 < q * (n1 * 4294967296 + n0) := by
  have := guess_cmp (u1 := u1) (n0 := n0) h; omega

theorem guess_not {u u1 n1 n0 q r : Int} (h : q * n1 + r = u) (c : ¬ 4294967296 * r + u1 < q * n0) : q * (n1 * 4294967296 + n0) ≤ u * 4294967296 + u1 := by
  have := guess_cmp (u1 := u1) (n0 := n0) h; omega

/-- A number times y above N: it is above N / y. -/
theorem quo_lt {N y q : Int} (hy : 0 < y) (h : N < q * y) : N / y < q := Int.ediv_lt_of_lt_mul hy h
theorem quo_ge {N y q : Int} (hy : 0 < y) (h : q * y ≤ N) : q ≤ N / y := (Int.le_ediv_iff_mul_le hy).2 h
theorem quo_digit {u u1 y : Int} (hy : 0 < y) (hu : u < y) (h1 : u1 < 4294967296) : (u * 4294967296 + u1) / y < 4294967296 := by
  apply Int.ediv_lt_of_lt_mul hy
  have : (u + 1) * 4294967296 ≤ y * 4294967296 := Int.mul_le_mul_of_nonneg_right (by omega) (by decide)
  have e : y * 4294967296 = 4294967296 * y := Int.mul_comm _ _
  omega
/-- The first guess is not too small. -/
theorem first_guess {u u1 n1 n0 : Int} (h1 : 0 < n1) (h0 : 0 ≤ n0) (hu1 : 0 ≤ u1) (hu1' : u1 < 4294967296) (hu : 0 ≤ u) : (u * 4294967296 + u1) / (n1 * 4294967296 + n0) ≤ u / n1 := by
  have hy : 0 < n1 * 4294967296 + n0 := by omega
  apply Int.le_of_lt_add_one
  apply Int.ediv_lt_of_lt_mul hy
  have h := Int.lt_ediv_add_one_mul_self u h1
  have h2 : u * 4294967296 + u1 < (u / n1 + 1) * n1 * 4294967296 := by omega
  have h3 : 0 ≤ (u / n1 + 1) * n0 := Int.mul_nonneg (by have := Int.ediv_nonneg hu (Int.le_of_lt h1); omega) h0
  have e : (u / n1 + 1) * (n1 * 4294967296 + n0) = (u / n1 + 1) * n1 * 4294967296 + (u / n1 + 1) * n0 := by grind
  omega
/-- The first guess is at most 2^32 + 1. -/
theorem first_small {u n1 n0 : Int} (h1 : 2147483648 ≤ n1) (h0 : 0 ≤ n0) (h0' : n0 < 4294967296) (hu : u < n1 * 4294967296 + n0) : u / n1 ≤ 4294967297 := by
  have : u / n1 < 4294967298 := by
    apply Int.ediv_lt_of_lt_mul (by omega)
    have : n1 * 4294967296 + n0 < 4294967298 * n1 := by omega
    omega
  omega
/-- q * n0 has a place in 64 bits. -/
theorem guess_fits {q n0 : Int} (h : q ≤ 4294967297) (hq : 0 ≤ q) (h0 : 0 ≤ n0) (h0' : n0 ≤ 4294967295) : 0 ≤ q * n0 ∧ q * n0 ≤ 18446744073709551615 := by
  refine ⟨Int.mul_nonneg hq h0, ?_⟩
  calc q * n0 ≤ 4294967297 * n0 := Int.mul_le_mul_of_nonneg_right h h0
    _ ≤ 4294967297 * 4294967295 := Int.mul_le_mul_of_nonneg_left h0' (by decide)
    _ = 18446744073709551615 := by decide
/-! ### whole roots -/
def isqN : Nat → Nat
  | 0 => 0
  | n + 1 => if (isqN n + 1) * (isqN n + 1) ≤ n + 1 then isqN n + 1 else isqN n
theorem isqN_spec : ∀ n, isqN n * isqN n ≤ n ∧ n < (isqN n + 1) * (isqN n + 1)
  | 0 => by simp [isqN]
  | n + 1 => by
    obtain ⟨h1, h2⟩ := isqN_spec n
    simp only [isqN]
    split
    · rename_i h
      refine ⟨h, ?_⟩
      have e : (isqN n + 1 + 1) * (isqN n + 1 + 1) = (isqN n + 1) * (isqN n + 1) + 2 * (isqN n + 1) + 1 := by grind
      omega
    · rename_i h
      exact ⟨by omega, by omega⟩
/-- The whole root of a number (0 below 0). -/
def isq (a : Int) : Int := (isqN a.toNat : Int)
theorem isq_nn (a : Int) : 0 ≤ isq a := Int.natCast_nonneg _
theorem isq_le {a : Int} (h : 0 ≤ a) : isq a * isq a ≤ a := by
  have := (isqN_spec a.toNat).1
  unfold isq
  have e : ((isqN a.toNat * isqN a.toNat : Nat) : Int) ≤ (a.toNat : Int) := by exact_mod_cast this
  simpa [Int.toNat_of_nonneg h] using e
theorem isq_lt {a : Int} (h : 0 ≤ a) : a < (isq a + 1) * (isq a + 1) := by
  have := (isqN_spec a.toNat).2
  unfold isq
  have e : (a.toNat : Int) < (((isqN a.toNat + 1) * (isqN a.toNat + 1) : Nat) : Int) := by exact_mod_cast this
  simpa [Int.toNat_of_nonneg h] using e
theorem sq_lt_of {s t : Int} (hs : 0 ≤ s) (ht : 0 ≤ t) (h : s * s < t * t) : s < t := by
  apply Int.lt_of_not_ge
  intro c
  have := Int.mul_le_mul c c ht hs
  omega
theorem sq_le_sq {s t : Int} (hs : 0 ≤ s) (h : s ≤ t) : s * s ≤ t * t := Int.mul_le_mul h h hs (by omega)
theorem isq_eq {a s : Int} (h0 : 0 ≤ s) (h1 : s * s ≤ a) (h2 : a < (s + 1) * (s + 1)) : isq a = s := by
  have ha : 0 ≤ a := Int.le_trans (Int.mul_nonneg h0 h0) h1
  have k1 := isq_le ha
  have k2 := isq_lt ha
  have n1 := isq_nn a
  have l1 : isq a < s + 1 := sq_lt_of n1 (by omega) (by omega)
  have l2 : s < isq a + 1 := sq_lt_of h0 (by omega) (by omega)
  omega
theorem isq_mono {a b : Int} (h0 : 0 ≤ a) (h : a ≤ b) : isq a ≤ isq b := by
  have := sq_lt_of (s := isq a) (t := isq b + 1) (isq_nn a) (by have := isq_nn b; omega) (by have := isq_le h0; have := isq_lt (a := b) (by omega); omega)
  omega
theorem isq_lt_of {a s : Int} (h0 : 0 ≤ a) (hs : 0 ≤ s) (h : a < s * s) : isq a < s := sq_lt_of (isq_nn a) hs (by have := isq_le h0; omega)
theorem isq_ge_of {a s : Int} (hs : 0 ≤ s) (h : s * s ≤ a) : s ≤ isq a := by
  have h0 : 0 ≤ a := Int.le_trans (Int.mul_nonneg hs hs) h
  have := sq_lt_of (s := s) (t := isq a + 1) hs (by have := isq_nn a; omega) (by have := isq_lt h0; omega)
  omega

/-! ### how many bits -/
theorem bitlen_bounds : ∀ (f n : Nat), n < 2 ^ f → n < 2 ^ Lib.bitLenAux f n ∧ (n ≠ 0 → 2 ^ Lib.bitLenAux f n ≤ 2 * n)
  | 0, n, h => by simp at h; subst h; simp [Lib.bitLenAux]
  | f + 1, n, h => by
    simp only [Lib.bitLenAux]
    split
    · rename_i h0; subst h0; simp
    · rename_i h0
      have ih := bitlen_bounds f (n / 2) (by rw [Nat.pow_succ] at h; omega)
      rw [Nat.pow_add, Nat.pow_one]
      refine ⟨by omega, fun _ => ?_⟩
      by_cases hz : n / 2 = 0
      · have : n = 1 := by omega
        subst this
        cases f <;> simp [Lib.bitLenAux]
      · have := ih.2 hz
        omega
/-! ### Go's shifts by an Int, as the print spells them, for a count from 0 to 64 -/
theorem pow_le64 {n : Nat} (h : n ≤ 64) : (2 : Int) ^ n ≤ 18446744073709551616 := by
  have := Nat.pow_le_pow_right (n := 2) (by decide) h
  rw [two_pow_nat]
  have e : (2 : Nat) ^ 64 = 18446744073709551616 := rfl
  omega
theorem pow_split {a b : Nat} : (2 : Int) ^ (a + b) = 2 ^ a * 2 ^ b := Int.pow_add 2 a b
theorem ediv_pow (v : Int) (a b : Nat) : v / 2 ^ (a + b) = v / 2 ^ a / 2 ^ b := by
  rw [Int.pow_add, Int.ediv_ediv_of_nonneg (Int.le_of_lt (two_pow_pos a))]

/-- The halves of a number that is shifted to the right, by less than 64. -/
theorem W_shr {h l : Int} {n : Nat} (hn : n ≤ 64) (h0 : 0 ≤ h) (l0 : 0 ≤ l) (l1 : l < 18446744073709551616) :
    W h l / 2 ^ n = W (h / 2 ^ n) (h % 2 ^ n * 2 ^ (64 - n) + l / 2 ^ n) := by
  have hp := two_pow_pos n
  have e : (18446744073709551616 : Int) = 2 ^ (64 - n) * 2 ^ n := by
    rw [← Int.pow_add, Nat.sub_add_cancel hn]; rfl
  have hd := Int.mul_ediv_add_emod h (2 ^ n)
  unfold W
  have e2 : h * 18446744073709551616 + l = (h / 2 ^ n * 18446744073709551616 + h % 2 ^ n * 2 ^ (64 - n)) * 2 ^ n + l := by
    have : h * 18446744073709551616 = (2 ^ n * (h / 2 ^ n) + h % 2 ^ n) * 18446744073709551616 := by rw [hd]
    rw [this]
    have k : h % 2 ^ n * 18446744073709551616 = h % 2 ^ n * 2 ^ (64 - n) * 2 ^ n := by rw [Int.mul_assoc, ← e]
    grind
  rw [e2, Int.add_comm _ l, Int.add_mul_ediv_right _ _ (by omega)]
  omega

/-- How many bits a number has. -/
def blen (v : Int) : Nat := Lib.bitLenAux 128 v.toNat
theorem blen_lt {v : Int} (h0 : 0 ≤ v) (h1 : v < 340282366920938463463374607431768211456) : v < 2 ^ blen v := by
  have := (bitlen_bounds 128 v.toNat (by rw [show (2 : Nat) ^ 128 = 340282366920938463463374607431768211456 from rfl]; omega)).1
  rw [two_pow_nat]; unfold blen; omega
theorem blen_ge {v : Int} (h0 : 0 < v) (h1 : v < 340282366920938463463374607431768211456) : (2 : Int) ^ blen v ≤ 2 * v := by
  have := (bitlen_bounds 128 v.toNat (by rw [show (2 : Nat) ^ 128 = 340282366920938463463374607431768211456 from rfl]; omega)).2 (by omega)
  rw [two_pow_nat]; unfold blen; omega
theorem blen_zero : blen 0 = 0 := rfl
theorem pow_lt_pow_iff {a b : Nat} : (2 : Int) ^ a < 2 ^ b ↔ a < b := by
  rw [two_pow_nat, two_pow_nat, Int.ofNat_lt]; exact Nat.pow_lt_pow_iff_right (by decide)
theorem pow_le_pow_iff {a b : Nat} : (2 : Int) ^ a ≤ 2 ^ b ↔ a ≤ b := by
  rw [two_pow_nat, two_pow_nat, Int.ofNat_le]; exact Nat.pow_le_pow_iff_right (by decide)
theorem blen_eq {v : Int} {b : Nat} (h1 : v < 340282366920938463463374607431768211456) (hl : (2 : Int) ^ b ≤ 2 * v) (hu : v < 2 ^ b) : blen v = b := by
  have hp := two_pow_pos b
  have a1 := blen_lt (v := v) (by omega) h1
  have a2 := blen_ge (v := v) (by omega) h1
  have e1 : (2 : Int) ^ b < 2 ^ (blen v + 1) := by rw [Int.pow_succ]; omega
  have e2 : (2 : Int) ^ blen v < 2 ^ (b + 1) := by rw [Int.pow_succ]; omega
  have := pow_lt_pow_iff.1 e1
  have := pow_lt_pow_iff.1 e2
  omega
theorem blen_le {v : Int} {b : Nat} (h0 : 0 ≤ v) (h1 : v < 340282366920938463463374607431768211456) (hu : v < 2 ^ b) : blen v ≤ b := by
  by_cases hz : v = 0
  · subst hz; rw [blen_zero]; omega
  · have a2 := blen_ge (v := v) (by omega) h1
    have e2 : (2 : Int) ^ blen v < 2 ^ (b + 1) := by rw [Int.pow_succ]; omega
    have := pow_lt_pow_iff.1 e2
    omega
theorem blen_128 {v : Int} (h0 : 0 ≤ v) (h1 : v < 340282366920938463463374607431768211456) : blen v ≤ 128 := blen_le h0 h1 h1
theorem bitLen_is {n : Nat} (h : n < 18446744073709551616) : Lib.bitLen n = blen (n : Int) := by
  have e : (2 : Nat) ^ 64 = 18446744073709551616 := rfl
  have b := bitlen_bounds 64 n (by rw [e]; exact h)
  by_cases hz : n = 0
  · subst hz; rfl
  · refine (blen_eq (by omega) ?_ ?_).symm
    · rw [two_pow_nat]; have := b.2 hz; unfold Lib.bitLen; omega
    · rw [two_pow_nat]; have := b.1; unfold Lib.bitLen; omega
theorem blen_pos {v : Int} (h0 : 0 < v) (h1 : v < 340282366920938463463374607431768211456) : 1 ≤ blen v := by
  have := blen_lt (v := v) (by omega) h1
  cases h : blen v with
  | zero => rw [h] at this; simp at this; omega
  | succ n => omega
/-- The length of a number with an upper half. -/
theorem blen_W {h l : Int} (h0 : 0 < h) (h1 : h < 18446744073709551616) (l0 : 0 ≤ l) (l1 : l < 18446744073709551616) : blen (W h l) = 64 + blen h := by
  have a1 := blen_lt (v := h) (by omega) (by omega)
  have a2 := blen_ge (v := h) (by omega) (by omega)
  have e : (2 : Int) ^ (64 + blen h) = 18446744073709551616 * 2 ^ blen h := by rw [Int.pow_add]; rfl
  refine blen_eq (W_lt h1 l1) ?_ ?_ <;> rw [e] <;> unfold W <;> omega

theorem or_bit_lt {x : Int} {i : Nat} (h0 : 0 ≤ x) (h1 : x < 18446744073709551616) (hi : i < 64) (h : x / 2 ^ i % 2 = 0) : x + 2 ^ i < 18446744073709551616 := by
  obtain ⟨n, rfl⟩ := Int.eq_ofNat_of_zero_le h0
  have hp : (2 : Nat) ^ i < 2 ^ 64 := Nat.pow_lt_pow_right (by decide) hi
  have hn : n < 2 ^ 64 := by rw [show (2 : Nat) ^ 64 = 18446744073709551616 from rfl]; omega
  have := Nat.or_lt_two_pow hn hp
  rw [nat_or_bit n i (by rw [two_pow_nat] at h; exact_mod_cast h), show (2 : Nat) ^ 64 = 18446744073709551616 from rfl] at this
  rw [two_pow_nat]; omega

/-! ### bits -/
theorem mod_succ (v : Int) (i : Nat) : v % 2 ^ (i + 1) = v % 2 ^ i + v / 2 ^ i % 2 * 2 ^ i := by
  have hp := two_pow_pos i
  rw [Int.pow_succ, Int.emod_def v (2 ^ i * 2), ← Int.ediv_ediv_of_nonneg (Int.le_of_lt hp)]
  have e1 := Int.mul_ediv_add_emod v (2 ^ i)
  have e2 := Int.mul_ediv_add_emod (v / 2 ^ i) 2
  generalize hq : v / 2 ^ i = q at *
  generalize hm : v % 2 ^ i = m at *
  generalize q / 2 = r at *
  generalize q % 2 = b at *
  rw [← e1, ← e2]
  grind
theorem div_succ (v : Int) (i : Nat) : v / 2 ^ i = 2 * (v / 2 ^ (i + 1)) + v / 2 ^ i % 2 := by
  rw [Int.pow_succ, ← Int.ediv_ediv_of_nonneg (Int.le_of_lt (two_pow_pos i))]; omega
theorem bit_cases (v : Int) (i : Nat) : v / 2 ^ i % 2 = 0 ∨ v / 2 ^ i % 2 = 1 := by omega
theorem div_small {v : Int} {i : Nat} (h0 : 0 ≤ v) (h1 : v < 2 ^ i) : v / 2 ^ i = 0 := Int.ediv_eq_zero_of_lt h0 h1
theorem mod_nn (v : Int) (i : Nat) : 0 ≤ v % 2 ^ i := Int.emod_nonneg _ (by have := two_pow_pos i; omega)
theorem mod_lt (v : Int) (i : Nat) : v % 2 ^ i < 2 ^ i := Int.emod_lt_of_pos _ (two_pow_pos i)
theorem pow_le128 {n : Nat} (h : n ≤ 128) : (2 : Int) ^ n ≤ 340282366920938463463374607431768211456 := by
  have := (pow_le_pow_iff (a := n) (b := 128)).2 h
  rwa [show (2 : Int) ^ 128 = 340282366920938463463374607431768211456 from rfl] at this
/-- The bit of a number of 128 bits, by its halves. -/
theorem W_bit_hi {h l : Int} {n : Nat} (hn : 64 ≤ n) (l0 : 0 ≤ l) (l1 : l < 18446744073709551616) : W h l / 2 ^ n = h / 2 ^ (n - 64) := by
  rw [show n = 64 + (n - 64) by omega, ediv_pow, show (2 : Int) ^ 64 = 18446744073709551616 from rfl, show 64 + (n - 64) - 64 = n - 64 by omega]
  congr 1
  unfold W; omega
theorem W_bit_lo {h l : Int} {n : Nat} (hn : n < 64) (h0 : 0 ≤ h) (l0 : 0 ≤ l) (l1 : l < 18446744073709551616) : W h l / 2 ^ n % 2 = l / 2 ^ n % 2 := by
  have e : (2 : Int) ^ (64 - n) = 2 * 2 ^ (63 - n) := by rw [show 64 - n = (63 - n) + 1 by omega, Int.pow_succ]; omega
  rw [W_shr (by omega) h0 l0 l1, e]
  unfold W
  have : h % 2 ^ n * (2 * 2 ^ (63 - n)) = 2 * (h % 2 ^ n * 2 ^ (63 - n)) := by grind
  rw [this]
  omega

theorem wf_u64 {a : Int} (h : (Lit.int .u64 a).wf = true) : 0 ≤ a ∧ a < 18446744073709551616 := by
  simp only [Lit.wf, IntKind.min, IntKind.max, IntKind.signed, IntKind.bits, Bool.and_eq_true, decide_eq_true_eq] at h
  simp at h
  omega
theorem wf_i64 {a : Int} (h : (Lit.int .i64 a).wf = true) : -9223372036854775808 ≤ a ∧ a ≤ 9223372036854775807 := by
  simp only [Lit.wf, IntKind.min, IntKind.max, IntKind.signed, IntKind.bits, Bool.and_eq_true, decide_eq_true_eq, if_true] at h
  omega
end Go.Proofs.Th
