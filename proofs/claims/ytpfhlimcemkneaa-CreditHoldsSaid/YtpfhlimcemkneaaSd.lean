/- math/bits.Div64 and wide.Div, as the print spells them: a number of 128 bits by one of 64, and what is left. -/
import Derived.Test.YtpfhlimcemkneaaPx21
import Derived.Test.YtpfhlimcemkneaaSw
set_option linter.unusedVariables false
set_option linter.unusedSimpArgs false
namespace Go.Proofs.Ytpfhlimcemkneaa.P
open Go.RowKit Go.Proofs.Th Go.Proofs.YtpfhlimcemkneaaW.PrintWords Go.Proofs.YtpfhlimcemkneaaW.PrintMore

/-- The second loop: from a guess that is not too small it comes to the digit. -/
theorem div_l1 {y s n1 n0 u0 q1 u : Int} (hy : y = n1 * 4294967296 + n0) (hn1 : 2147483648 ≤ n1) (hn1' : n1 < 4294967296) (hn0 : 0 ≤ n0) (hn0' : n0 < 4294967296)
    (hu : 0 ≤ u) (huy : u < y) (hu0 : 0 ≤ u0) (hu0' : u0 < 4294967296) (hs : 0 ≤ s) (d : Nat) : ∀ (k : Nat) (r q : Int), 2 * d + 2 ≤ k → q - (u * 4294967296 + u0) / y ≤ d → (u * 4294967296 + u0) / y ≤ q → q ≤ 4294967297 → 0 ≤ r → r < 4294967296 → q * n1 + r = u →
    bits_Div64.l1 k y s n1 n0 u0 q1 r u q = some (IntKind.u64.wrap (IntKind.u64.wrap (q1 * 4294967296) + (u * 4294967296 + u0) / y), shr .u64 (IntKind.u64.wrap (IntKind.u64.wrap (IntKind.u64.wrap (u * 4294967296) + u0) - IntKind.u64.wrap ((u * 4294967296 + u0) / y * y))) s) := by
  have hy0 : 0 < y := by omega
  have hdig := quo_digit hy0 huy hu0'
  have hQ0 : 0 ≤ (u * 4294967296 + u0) / y := Int.ediv_nonneg (by omega) (by omega)
  induction d with
  | zero =>
    intro k r q hk hd hq hq1 hr hr1 he
    obtain ⟨k, rfl⟩ : ∃ m, k = m + 1 + 1 := ⟨k - 2, by omega⟩
    have hqQ : q = (u * 4294967296 + u0) / y := by omega
    have hfit := guess_fits hq1 (by omega) hn0 (by omega)
    have hnot : ¬ (4294967296 * r + u0 < q * n0) := by
      intro c
      have := quo_lt (N := u * 4294967296 + u0) hy0 (by rw [hy]; exact guess_over he c)
      omega
    simp only [bits_Div64.l1]
    rw [if_neg (by omega), u64_id (x := q * n0) (by omega) (by omega), u64_id (x := 4294967296 * r) (by omega) (by omega), u64_id (x := 4294967296 * r + u0) (by omega) (by omega), decide_eq_false (by omega)]
    simp only [bits_Div64.j4]
    rw [if_neg (by decide), if_pos hs, hqQ]
  | succ d ih =>
    intro k r q hk hd hq hq1 hr hr1 he
    obtain ⟨k, rfl⟩ : ∃ m, k = m + 1 + 1 := ⟨k - 2, by omega⟩
    have hfit := guess_fits hq1 (by omega) hn0 (by omega)
    have step : (q ≥ 4294967296 ∨ 4294967296 * r + u0 < q * n0) → bits_Div64.j4 (k + 1) y s n1 n0 u0 q1 r u q true = some (IntKind.u64.wrap (IntKind.u64.wrap (q1 * 4294967296) + (u * 4294967296 + u0) / y), shr .u64 (IntKind.u64.wrap (IntKind.u64.wrap (IntKind.u64.wrap (u * 4294967296) + u0) - IntKind.u64.wrap ((u * 4294967296 + u0) / y * y))) s) := by
      intro hc
      have hlt : (u * 4294967296 + u0) / y < q := by
        rcases hc with hc | hc
        · omega
        · exact quo_lt hy0 (by rw [hy]; exact guess_over he hc)
      have he' : (q - 1) * n1 + (r + n1) = u := by rw [Int.sub_mul]; omega
      simp only [bits_Div64.j4, if_true]
      rw [u64_id (x := r + n1) (by omega) (by omega), u64_id (x := q - 1) (by omega) (by omega)]
      by_cases hb : r + n1 ≥ 4294967296
      · rw [if_pos hb, if_pos hs]
        have hge : q - 1 ≤ (u * 4294967296 + u0) / y := by
          refine quo_ge hy0 ?_
          rw [hy]
          refine guess_not he' ?_
          have : (q - 1) * n0 ≤ 4294967296 * n0 := Int.mul_le_mul_of_nonneg_right (by omega) hn0
          omega
        have : q - 1 = (u * 4294967296 + u0) / y := by omega
        rw [this]
      · rw [if_neg hb]
        exact ih k (r + n1) (q - 1) (by omega) (by omega) (by omega) (by omega) (by omega) (by omega) he'
    simp only [bits_Div64.l1]
    by_cases hc1 : q ≥ 4294967296
    · rw [if_pos hc1]; exact step (.inl hc1)
    · rw [if_neg hc1, u64_id (x := q * n0) (by omega) (by omega), u64_id (x := 4294967296 * r) (by omega) (by omega), u64_id (x := 4294967296 * r + u0) (by omega) (by omega)]
      by_cases hc2 : 4294967296 * r + u0 < q * n0
      · rw [decide_eq_true (by omega)]; exact step (.inr hc2)
      · rw [decide_eq_false (by omega)]
        have hge : q ≤ (u * 4294967296 + u0) / y := quo_ge hy0 (by rw [hy]; exact guess_not he hc2)
        simp only [bits_Div64.j4]
        rw [if_neg (by decide), if_pos hs, show q = (u * 4294967296 + u0) / y by omega]

/-- Between the loops, and the second one. -/
theorem div_j2 {y s n1 n0 u1 u0 q1 u : Int} (hy : y = n1 * 4294967296 + n0) (hn1 : 2147483648 ≤ n1) (hn1' : n1 < 4294967296) (hn0 : 0 ≤ n0) (hn0' : n0 < 4294967296)
    (hu : 0 ≤ u) (huy : u < y) (hu1 : 0 ≤ u1) (hu1' : u1 < 4294967296) (hu0 : 0 ≤ u0) (hu0' : u0 < 4294967296) (hs : 0 ≤ s) (hq : q1 = (u * 4294967296 + u1) / y) (k : Nat) (hk : 20 ≤ k) :
    bits_Div64.j2 k y s n1 n0 u u1 u0 q1 = some ((u * 18446744073709551616 + u1 * 4294967296 + u0) / y, (u * 18446744073709551616 + u1 * 4294967296 + u0) % y / 2 ^ min s.toNat 64) := by
  obtain ⟨k, rfl⟩ : ∃ m, k = m + 1 := ⟨k - 1, by omega⟩
  have hy0 : 0 < y := by omega
  have hdig := quo_digit hy0 huy hu1'
  have hQ0 : 0 ≤ (u * 4294967296 + u1) / y := Int.ediv_nonneg (by omega) (by omega)
  have hv0 : 0 ≤ (u * 4294967296 + u1) % y := Int.emod_nonneg _ (by omega)
  have hv1 : (u * 4294967296 + u1) % y < y := Int.emod_lt_of_pos _ hy0
  have hvd := Int.mul_ediv_add_emod (u * 4294967296 + u1) y
  have e1 : IntKind.u64.wrap (IntKind.u64.wrap (IntKind.u64.wrap (u * 4294967296) + u1) - IntKind.u64.wrap (q1 * y)) = (u * 4294967296 + u1) % y := by
    rw [hq]
    simp only [u64_wrap]
    rw [Int.mul_comm _ y]
    generalize y * ((u * 4294967296 + u1) / y) = z at *
    generalize (u * 4294967296 + u1) % y = v at *
    omega
  simp only [bits_Div64.j2]
  rw [if_neg (by omega), e1]
  have hle := first_small (u := (u * 4294967296 + u1) % y) hn1 hn0 hn0' (by omega)
  have hge := first_guess (u := (u * 4294967296 + u1) % y) (u1 := u0) (by omega : 0 < n1) hn0 hu0 hu0' hv0
  rw [← hy] at hge
  have hd0 : 0 ≤ (u * 4294967296 + u1) % y / n1 := Int.ediv_nonneg hv0 (by omega)
  have hm := Int.ediv_mul_add_emod ((u * 4294967296 + u1) % y) n1
  have hm0 : 0 ≤ (u * 4294967296 + u1) % y % n1 := Int.emod_nonneg _ (by omega)
  have hm1 : (u * 4294967296 + u1) % y % n1 < n1 := Int.emod_lt_of_pos _ (by omega)
  have hmn : 0 ≤ (u * 4294967296 + u1) % y / n1 * n1 := Int.mul_nonneg hd0 (by omega)
  rw [Int.tdiv_eq_ediv_of_nonneg hv0, u64_id (x := (u * 4294967296 + u1) % y / n1) hd0 (by omega), u64_id (x := (u * 4294967296 + u1) % y / n1 * n1) hmn (by omega), u64_id (x := (u * 4294967296 + u1) % y - (u * 4294967296 + u1) % y / n1 * n1) (by omega) (by omega)]
  have hgap : (u * 4294967296 + u1) % y / n1 - ((u * 4294967296 + u1) % y * 4294967296 + u0) / y ≤ 3 := by
    have h1 : ((u * 4294967296 + u1) % y / n1 - 3) ≤ ((u * 4294967296 + u1) % y * 4294967296 + u0) / y := by
      refine quo_ge hy0 ?_
      generalize hG : (u * 4294967296 + u1) % y / n1 = G at *
      generalize (u * 4294967296 + u1) % y = v at *
      have a1 : G * n1 ≤ v := by omega
      have a2 : G * n0 ≤ 4294967297 * n0 := Int.mul_le_mul_of_nonneg_right hle hn0
      rw [hy]
      have e : (G - 3) * (n1 * 4294967296 + n0) = (G * n1) * 4294967296 + G * n0 - 3 * n1 * 4294967296 - 3 * n0 := by grind
      rw [e]
      omega
    omega
  rw [div_l1 hy hn1 hn1' hn0 hn0' hv0 hv1 hu0 hu0' hs 3 k _ _ (by omega) (by omega) hge hle (by omega) (by omega) (by omega)]
  have hdig2 := quo_digit hy0 hv1 hu0'
  have hR0 : 0 ≤ ((u * 4294967296 + u1) % y * 4294967296 + u0) / y := Int.ediv_nonneg (by omega) (by omega)
  have hw0 : 0 ≤ ((u * 4294967296 + u1) % y * 4294967296 + u0) % y := Int.emod_nonneg _ (by omega)
  have hw1 : ((u * 4294967296 + u1) % y * 4294967296 + u0) % y < y := Int.emod_lt_of_pos _ hy0
  have hwd := Int.mul_ediv_add_emod ((u * 4294967296 + u1) % y * 4294967296 + u0) y
  have eN : u * 18446744073709551616 + u1 * 4294967296 + u0 = ((u * 4294967296 + u1) % y * 4294967296 + u0) + (u * 4294967296 + u1) / y * 4294967296 * y := by
    have : (u * 4294967296 + u1) / y * 4294967296 * y = y * ((u * 4294967296 + u1) / y) * 4294967296 := by grind
    omega
  have eQ : (u * 18446744073709551616 + u1 * 4294967296 + u0) / y = (u * 4294967296 + u1) / y * 4294967296 + ((u * 4294967296 + u1) % y * 4294967296 + u0) / y := by
    rw [eN, Int.add_mul_ediv_right _ _ (by omega)]; omega
  have eR : (u * 18446744073709551616 + u1 * 4294967296 + u0) % y = ((u * 4294967296 + u1) % y * 4294967296 + u0) % y := by
    rw [eN, Int.add_mul_emod_self_right]
  rw [eQ, eR, hq]
  congr 2
  · rw [u64_id (x := (u * 4294967296 + u1) / y * 4294967296) (by omega) (by omega), u64_id (by omega) (by omega)]
  · rw [shr_u64]
    congr 1
    simp only [u64_wrap]
    rw [Int.mul_comm _ y]
    generalize y * (((u * 4294967296 + u1) % y * 4294967296 + u0) / y) = z at *
    generalize (u * 4294967296 + u1) % y = v at *
    generalize (v * 4294967296 + u0) % y = x at *
    omega

theorem div_l0 {y s n1 n0 u1 u0 u : Int} (hy : y = n1 * 4294967296 + n0) (hn1 : 2147483648 ≤ n1) (hn1' : n1 < 4294967296) (hn0 : 0 ≤ n0) (hn0' : n0 < 4294967296)
    (hu : 0 ≤ u) (huy : u < y) (hu1 : 0 ≤ u1) (hu1' : u1 < 4294967296) (hu0 : 0 ≤ u0) (hu0' : u0 < 4294967296) (hs : 0 ≤ s) (d : Nat) : ∀ (k : Nat) (q r : Int), 2 * d + 22 ≤ k → q - (u * 4294967296 + u1) / y ≤ d → (u * 4294967296 + u1) / y ≤ q → q ≤ 4294967297 → 0 ≤ r → r < 4294967296 → q * n1 + r = u →
    bits_Div64.l0 k y s n1 n0 u u1 u0 q r = some ((u * 18446744073709551616 + u1 * 4294967296 + u0) / y, (u * 18446744073709551616 + u1 * 4294967296 + u0) % y / 2 ^ min s.toNat 64) := by
  have hy0 : 0 < y := by omega
  have hdig := quo_digit hy0 huy hu1'
  have hQ0 : 0 ≤ (u * 4294967296 + u1) / y := Int.ediv_nonneg (by omega) (by omega)
  have fin := fun (q1 : Int) (hq : q1 = (u * 4294967296 + u1) / y) (k : Nat) (hk : 20 ≤ k) => div_j2 hy hn1 hn1' hn0 hn0' hu huy hu1 hu1' hu0 hu0' hs hq k hk
  induction d with
  | zero =>
    intro k q r hk hd hq hq1 hr hr1 he
    obtain ⟨k, rfl⟩ : ∃ m, k = m + 1 + 1 := ⟨k - 2, by omega⟩
    have hfit := guess_fits hq1 (by omega) hn0 (by omega)
    have hnot : ¬ (4294967296 * r + u1 < q * n0) := by
      intro c
      have := quo_lt (N := u * 4294967296 + u1) hy0 (by rw [hy]; exact guess_over he c)
      omega
    simp only [bits_Div64.l0]
    rw [if_neg (by omega), u64_id (x := q * n0) (by omega) (by omega), u64_id (x := 4294967296 * r) (by omega) (by omega), u64_id (x := 4294967296 * r + u1) (by omega) (by omega), decide_eq_false (by omega)]
    simp only [bits_Div64.j1]
    rw [if_neg (by decide)]
    exact fin q (by omega) k (by omega)
  | succ d ih =>
    intro k q r hk hd hq hq1 hr hr1 he
    obtain ⟨k, rfl⟩ : ∃ m, k = m + 1 + 1 := ⟨k - 2, by omega⟩
    have hfit := guess_fits hq1 (by omega) hn0 (by omega)
    have step : (q ≥ 4294967296 ∨ 4294967296 * r + u1 < q * n0) → bits_Div64.j1 (k + 1) y s n1 n0 u u1 u0 q r true = some ((u * 18446744073709551616 + u1 * 4294967296 + u0) / y, (u * 18446744073709551616 + u1 * 4294967296 + u0) % y / 2 ^ min s.toNat 64) := by
      intro hc
      have hlt : (u * 4294967296 + u1) / y < q := by
        rcases hc with hc | hc
        · omega
        · exact quo_lt hy0 (by rw [hy]; exact guess_over he hc)
      have he' : (q - 1) * n1 + (r + n1) = u := by rw [Int.sub_mul]; omega
      simp only [bits_Div64.j1, if_true]
      rw [u64_id (x := r + n1) (by omega) (by omega), u64_id (x := q - 1) (by omega) (by omega)]
      by_cases hb : r + n1 ≥ 4294967296
      · rw [if_pos hb]
        have hge : q - 1 ≤ (u * 4294967296 + u1) / y := by
          refine quo_ge hy0 ?_
          rw [hy]
          refine guess_not he' ?_
          have : (q - 1) * n0 ≤ 4294967296 * n0 := Int.mul_le_mul_of_nonneg_right (by omega) hn0
          omega
        exact fin (q - 1) (by omega) k (by omega)
      · rw [if_neg hb]
        exact ih k (q - 1) (r + n1) (by omega) (by omega) (by omega) (by omega) (by omega) (by omega) he'
    simp only [bits_Div64.l0]
    by_cases hc1 : q ≥ 4294967296
    · rw [if_pos hc1]; exact step (.inl hc1)
    · rw [if_neg hc1, u64_id (x := q * n0) (by omega) (by omega), u64_id (x := 4294967296 * r) (by omega) (by omega), u64_id (x := 4294967296 * r + u1) (by omega) (by omega)]
      by_cases hc2 : 4294967296 * r + u1 < q * n0
      · rw [decide_eq_true (by omega)]; exact step (.inr hc2)
      · rw [decide_eq_false (by omega)]
        have hge : q ≤ (u * 4294967296 + u1) / y := quo_ge hy0 (by rw [hy]; exact guess_not he hc2)
        simp only [bits_Div64.j1]
        rw [if_neg (by decide)]
        exact fin q (by omega) k (by omega)

theorem guess_gap {u u1 n1 n0 : Int} (hn1 : 2147483648 ≤ n1) (hn0 : 0 ≤ n0) (hn0' : n0 < 4294967296) (hu : 0 ≤ u) (huy : u < n1 * 4294967296 + n0) (hu1 : 0 ≤ u1) :
    u / n1 - (u * 4294967296 + u1) / (n1 * 4294967296 + n0) ≤ 3 := by
  have hle := first_small hn1 hn0 hn0' huy
  have hm := Int.ediv_mul_add_emod u n1
  have hm0 : 0 ≤ u % n1 := Int.emod_nonneg _ (by omega)
  have h1 : u / n1 - 3 ≤ (u * 4294967296 + u1) / (n1 * 4294967296 + n0) := by
    refine quo_ge (by omega) ?_
    generalize hG : u / n1 = G at *
    have a1 : G * n1 ≤ u := by omega
    have a2 : G * n0 ≤ 4294967297 * n0 := Int.mul_le_mul_of_nonneg_right hle hn0
    have e : (G - 3) * (n1 * 4294967296 + n0) = (G * n1) * 4294967296 + G * n0 - 3 * n1 * 4294967296 - 3 * n0 := by grind
    rw [e]
    omega
  omega

theorem bits_Div64_eq {hi lo y : Int} (k : Nat) (hk : 40 ≤ k) (h0 : 0 ≤ hi) (h1 : hi < y) (l0 : 0 ≤ lo) (l1 : lo < 18446744073709551616) (y1 : y < 18446744073709551616) :
    bits_Div64.f k hi lo y = some ((hi * 18446744073709551616 + lo) / y, (hi * 18446744073709551616 + lo) % y) := by
  unfold bits_Div64.f
  rw [if_neg (by omega), if_neg (by omega)]
  by_cases hz : hi = 0
  · subst hz
    rw [if_pos rfl, Int.tdiv_eq_ediv_of_nonneg l0, Int.tmod_eq_emod_of_nonneg l0, u64_id (Int.ediv_nonneg l0 (by omega)) (by have := Int.ediv_le_self y l0; omega)]
    simp
  · rw [if_neg hz, bits_LeadingZeros64_eq k (by omega) (by omega) y1]
    simp only [Option.bind_some]
    have hb := blen_le (v := y) (b := 64) (by omega) (by omega) (by rw [show (2 : Int) ^ 64 = 18446744073709551616 from rfl]; exact y1)
    have hlt := blen_lt (v := y) (by omega) (by omega)
    have hge := blen_ge (v := y) (by omega) (by omega)
    obtain ⟨m, hm⟩ : ∃ m : Nat, m + blen y = 64 := ⟨64 - blen y, by omega⟩
    rw [show (64 : Int) - (blen y : Int) = (m : Int) by omega, u64_id (x := (m : Int)) (by omega) (by omega), u64_id (x := 64 - (m : Int)) (by omega) (by omega), if_pos (by omega), if_pos (by omega)]
    rw [shl_lt64 (x := y) (by omega), shl_lt64 (x := hi) (by omega), shl_lt64 (x := lo) (by omega), shr_lt64 (x := lo) (by omega), Int.toNat_natCast, show ((64 : Int) - (m : Int)).toNat = 64 - m by omega]
    have hm64 : m ≤ 64 := by omega
    have hp := two_pow_pos m
    have hq := two_pow_pos (64 - m)
    have e : (2 : Int) ^ (64 - m) * 2 ^ m = 18446744073709551616 := by rw [← Int.pow_add, Nat.sub_add_cancel hm64]; rfl
    have eb : blen y = 64 - m := by omega
    rw [eb] at hlt hge
    have hy1 : y * 2 ^ m ≤ 18446744073709551616 - 2 ^ m := by
      have := Int.mul_le_mul_of_nonneg_right (show y ≤ 2 ^ (64 - m) - 1 by omega) (Int.le_of_lt hp)
      rw [Int.sub_mul, e, Int.one_mul] at this
      exact this
    have hy2 : 18446744073709551616 ≤ 2 * (y * 2 ^ m) := by
      have := Int.mul_le_mul_of_nonneg_right hge (Int.le_of_lt hp)
      rw [e, Int.mul_assoc] at this
      exact this
    have hh1 : (hi + 1) * 2 ^ m ≤ y * 2 ^ m := Int.mul_le_mul_of_nonneg_right (by omega) (Int.le_of_lt hp)
    rw [Int.add_mul, Int.one_mul] at hh1
    have hh0 : 0 ≤ hi * 2 ^ m := Int.mul_nonneg h0 (Int.le_of_lt hp)
    have hl : lo / 2 ^ (64 - m) < 2 ^ m := Int.ediv_lt_of_lt_mul hq (by rw [Int.mul_comm]; omega)
    have hl0 : 0 ≤ lo / 2 ^ (64 - m) := Int.ediv_nonneg l0 (Int.le_of_lt hq)
    rw [Int.emod_eq_of_lt (a := y * 2 ^ m) (by omega) (by omega), Int.emod_eq_of_lt (a := hi * 2 ^ m) (by omega) (by omega)]
    rw [or_join m hh0 (Int.mul_emod_left _ _) (by omega) hl0 hl (by omega)]
    have eN : (hi * 2 ^ m + lo / 2 ^ (64 - m)) * 18446744073709551616 + lo * 2 ^ m % 18446744073709551616 = (hi * 18446744073709551616 + lo) * 2 ^ m := by
      have hd := Int.mul_ediv_add_emod lo (2 ^ (64 - m))
      rw [mod_mul_pow lo hm64]
      generalize lo / 2 ^ (64 - m) = A at *
      generalize lo % 2 ^ (64 - m) = B at *
      rw [← hd, ← e]; grind
    have hx0 : 0 ≤ lo * 2 ^ m % 18446744073709551616 := Int.emod_nonneg _ (by decide)
    have hx1 : lo * 2 ^ m % 18446744073709551616 < 18446744073709551616 := Int.emod_lt_of_pos _ (by decide)
    rw [and32 (x := y * 2 ^ m) (by omega) (by omega), and32 hx0 hx1]
    have eQ : (hi * 18446744073709551616 + lo) / y = (hi * 18446744073709551616 + lo) * 2 ^ m / (y * 2 ^ m) := (Int.mul_ediv_mul_of_pos_left _ _ hp).symm
    have eR : (hi * 18446744073709551616 + lo) % y = (hi * 18446744073709551616 + lo) * 2 ^ m % (y * 2 ^ m) / 2 ^ m := by
      rw [Int.mul_comm _ (2 ^ m), Int.mul_comm y, Int.mul_emod_mul_of_pos _ _ hp, Int.mul_ediv_cancel_left _ (by omega)]
    rw [eQ, eR, ← eN]
    have huy : hi * 2 ^ m + lo / 2 ^ (64 - m) < y * 2 ^ m := by omega
    have hu : 0 ≤ hi * 2 ^ m + lo / 2 ^ (64 - m) := by omega
    generalize hi * 2 ^ m + lo / 2 ^ (64 - m) = u at *
    generalize lo * 2 ^ m % 18446744073709551616 = x at *
    clear hh1 hh0 hl hl0 eQ eR eN hlt hge
    generalize y * 2 ^ m = z at *
    have hz1 : z = z / 4294967296 * 4294967296 + z % 4294967296 := by omega
    have hle := first_small (u := u) (n1 := z / 4294967296) (n0 := z % 4294967296) (by omega) (by omega) (by omega) (by omega)
    have hgu := first_guess (u := u) (u1 := x / 4294967296) (n1 := z / 4294967296) (n0 := z % 4294967296) (by omega) (by omega) (by omega) (by omega) hu
    have hgap := guess_gap (u := u) (u1 := x / 4294967296) (n1 := z / 4294967296) (n0 := z % 4294967296) (by omega) (by omega) (by omega) hu (by omega) (by omega)
    rw [← hz1] at hgu hgap
    have hd0 : 0 ≤ u / (z / 4294967296) := Int.ediv_nonneg hu (by omega)
    have hme := Int.ediv_mul_add_emod u (z / 4294967296)
    have hm0 : 0 ≤ u % (z / 4294967296) := Int.emod_nonneg _ (by omega)
    have hm1 : u % (z / 4294967296) < z / 4294967296 := Int.emod_lt_of_pos _ (by omega)
    have hmn : 0 ≤ u / (z / 4294967296) * (z / 4294967296) := Int.mul_nonneg hd0 (by omega)
    rw [if_neg (by omega), Int.tdiv_eq_ediv_of_nonneg hu, u64_id (x := u / (z / 4294967296)) hd0 (by omega), u64_id (x := u / (z / 4294967296) * (z / 4294967296)) hmn (by omega), u64_id (x := u - u / (z / 4294967296) * (z / 4294967296)) (by omega) (by omega)]
    rw [div_l0 hz1 (by omega) (by omega) (by omega) (by omega) hu huy (by omega) (by omega) (by omega) (by omega) (by omega) 3 k _ _ (by omega) (by omega) hgu hle (by omega) (by omega) (by omega)]
    rw [show u * 18446744073709551616 + x / 4294967296 * 4294967296 + x % 4294967296 = u * 18446744073709551616 + x by omega, Int.toNat_natCast, Nat.min_eq_left hm64]

theorem wide_Div_zero {h l : Int} (k : Nat) : wide_Div.f k h l 0 = some (0, 0, 0, 1) := by unfold wide_Div.f; rw [if_pos rfl]
theorem wide_Div_eq {h l d : Int} (k : Nat) (hk : 40 ≤ k) (a0 : 0 ≤ h) (a1 : h < 18446744073709551616) (b0 : 0 ≤ l) (b1 : l < 18446744073709551616) (d0 : 0 < d) (d1 : d < 18446744073709551616) :
    wide_Div.f k h l d = some (hi64 (W h l / d), lo64 (W h l / d), W h l % d, 0) := by
  unfold wide_Div.f
  have hm0 : 0 ≤ h % d := Int.emod_nonneg _ (by omega)
  have hm1 : h % d < d := Int.emod_lt_of_pos _ d0
  rw [if_neg (by omega), Int.tmod_eq_emod_of_nonneg a0, Int.tdiv_eq_ediv_of_nonneg a0, bits_Div64_eq k hk hm0 hm1 b0 b1 d1]
  simp only [Option.bind_some]
  have hq0 : 0 ≤ h / d := Int.ediv_nonneg a0 (by omega)
  have hq1 : h / d ≤ h := Int.ediv_le_self _ a0
  rw [u64_id hq0 (by omega)]
  have hd := Int.mul_ediv_add_emod h d
  have eW : W h l = (h % d * 18446744073709551616 + l) + h / d * 18446744073709551616 * d := by
    unfold W
    have : h / d * 18446744073709551616 * d = d * (h / d) * 18446744073709551616 := by grind
    omega
  have eQ : W h l / d = h / d * 18446744073709551616 + (h % d * 18446744073709551616 + l) / d := by
    rw [eW, Int.add_mul_ediv_right _ _ (by omega)]; omega
  have eR : W h l % d = (h % d * 18446744073709551616 + l) % d := by rw [eW, Int.add_mul_emod_self_right]
  have hr0 : 0 ≤ (h % d * 18446744073709551616 + l) / d := Int.ediv_nonneg (by omega) (by omega)
  have hr1 : (h % d * 18446744073709551616 + l) / d < 18446744073709551616 := by
    apply Int.ediv_lt_of_lt_mul d0
    have : (h % d + 1) * 18446744073709551616 ≤ d * 18446744073709551616 := Int.mul_le_mul_of_nonneg_right (by omega) (by decide)
    rw [Int.mul_comm 18446744073709551616]
    omega
  rw [eQ, eR]
  unfold hi64 lo64
  generalize (h % d * 18446744073709551616 + l) / d = x at *
  congr 2
  · omega
  · congr 1; omega
end Go.Proofs.Ytpfhlimcemkneaa.P
