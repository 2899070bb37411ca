/- What layer 25's functions tell, as the print spells them: a credit that is new, filled, taken from, waited for; and the document's rows. -/
import Derived.Test.YtpfhlimcemkneaaPx17
import Derived.Test.YtpfhlimcemkneaaPx19
import Derived.Test.YtpfhlimcemkneaaPx20
import Derived.Test.YtpfhlimcemkneaaPx22
import Derived.Test.YtpfhlimcemkneaaSd
set_option linter.unusedVariables false
set_option linter.unusedSimpArgs false
namespace Go.Proofs.Ytpfhlimcemkneaa.P
open Go.RowKit Go.Proofs.Th Go.Proofs.YtpfhlimcemkneaaW.PrintWords Go.Proofs.YtpfhlimcemkneaaW.PrintMore

def CIs (b t h : Int) : Prop := 1 ≤ b ∧ b ≤ 1048576 ∧ 0 ≤ t ∧ t ≤ 1099511627776 ∧ 0 ≤ h ∧ h ≤ b * 1000000
instance (b t h : Int) : Decidable (CIs b t h) := by unfold CIs; infer_instance
def newC (b t : Int) : Int × Int × Int := if b < 1 ∨ 1048576 < b then (0, 0, 1) else if 0 ≤ t ∧ t ≤ 1099511627776 then (t, b * 1000000, 0) else (0, 0, 10)
def fillC (b t h r u : Int) : Int × Int × Int := if CIs b t h then (if r < 1 ∨ 1000000000 < r then (0, 0, 8) else if 0 ≤ u ∧ u ≤ 1099511627776 ∧ t ≤ u then (u, min (b * 1000000) (h + r * (u - t)), 0) else (0, 0, 10)) else (0, 0, 1)
def takeC (b t h s : Int) : Int × Int × Int := if CIs b t h then (if s < 1 ∨ 9000 < s then (0, 0, 9) else if h < s * 1000000 then (0, 0, 13) else (t, h - s * 1000000, 0)) else (0, 0, 1)
def missC (h s : Int) : Int := max 0 (s * 1000000 - h)
def waitC (h r s : Int) : Int := if s ≤ 0 then 0 else if missC h s = 0 then 0 else if r ≤ 0 then 4611686018427387904 else min 4611686018427387904 ((missC h s + r - 1) / r)

theorem time_eq (a : Int) : credit_time.f a = some (decide (0 ≤ a ∧ a ≤ 1099511627776)) := by
  unfold credit_time.f
  by_cases h : a ≥ 0
  · rw [if_pos h]
    congr 1
    rw [decide_eq_decide]
    omega
  · rw [if_neg h, decide_eq_false (by omega)]
theorem parts_eq {b : Int} (h0 : -9223372036854 ≤ b) (h1 : b ≤ 9223372036854) : credit_bytes_parts.f b = some (b * 1000000) := by
  unfold credit_bytes_parts.f
  rw [wrap64_id (by omega) (by omega)]
theorem credit_Is_eq (b t h : Int) : credit_Is.f b t h = some (decide (CIs b t h)) := by
  unfold credit_Is.f
  have no : ¬ CIs b t h → decide (CIs b t h) = false := decide_eq_false
  by_cases h1 : b < 1
  · rw [if_pos h1, no (by unfold CIs; omega)]
  · rw [if_neg h1]
    by_cases h2 : 1048576 < b
    · rw [if_pos h2, no (by unfold CIs; omega)]
    · rw [if_neg h2]
      by_cases h3 : 0 ≤ t ∧ t ≤ 1099511627776
      · rw [if_pos h3]
        by_cases h4 : 0 ≤ h
        · rw [if_pos h4, wrap64_id (by omega) (by omega)]
          congr 1
          rw [decide_eq_decide]
          unfold CIs
          omega
        · rw [if_neg h4, no (by unfold CIs; omega)]
      · rw [if_neg h3, no (by unfold CIs; omega)]

theorem new_j0 (k : Nat) (hk : 1 ≤ k) (b t : Int) (x : Bool) (hx : x = decide (b < 1 ∨ 1048576 < b)) : credit_New.j0 k b t x = some (newC b t) := by
  obtain ⟨k, rfl⟩ : ∃ m, k = m + 1 := ⟨k - 1, by omega⟩
  simp only [credit_New.j0]
  unfold newC
  by_cases h : b < 1 ∨ 1048576 < b
  · rw [if_pos (by rw [hx]; exact decide_eq_true h), if_pos h]
  · rw [if_neg (by rw [hx, decide_eq_false h]; decide), if_neg h, time_eq]
    simp only [Option.bind_some]
    by_cases h3 : 0 ≤ t ∧ t ≤ 1099511627776
    · rw [if_pos (decide_eq_true h3), if_pos h3, parts_eq (by omega) (by omega)]; rfl
    · rw [if_neg (by rw [decide_eq_false h3]; decide), if_neg h3]
theorem credit_New_eq (k : Nat) (hk : 2 ≤ k) (b t : Int) : credit_New.f k b t = some (newC b t) := by
  unfold credit_New.f
  by_cases h : b < 1
  · rw [if_pos h]; exact new_j0 k (by omega) b t _ (by rw [decide_eq_true (.inl h)])
  · rw [if_neg h]
    exact new_j0 k (by omega) b t _ (by rw [decide_eq_decide]; omega)

theorem fill_j0 (k : Nat) (hk : 1 ≤ k) {b t h r u : Int} (hi : CIs b t h) (x : Bool) (hx : x = decide (r < 1 ∨ 1000000000 < r)) : credit_Fill.j0 k b r u x t h = some (fillC b t h r u) := by
  obtain ⟨k, rfl⟩ : ∃ m, k = m + 1 := ⟨k - 1, by omega⟩
  simp only [credit_Fill.j0]
  unfold fillC
  rw [if_pos hi]
  obtain ⟨i1, i2, i3, i4, i5, i6⟩ := hi
  by_cases h1 : r < 1 ∨ 1000000000 < r
  · rw [if_pos (by rw [hx]; exact decide_eq_true h1), if_pos h1]
  · rw [if_neg (by rw [hx, decide_eq_false h1]; decide), if_neg h1, time_eq]
    simp only [Option.bind_some]
    by_cases h3 : 0 ≤ u ∧ u ≤ 1099511627776
    · rw [if_pos (decide_eq_true h3)]
      by_cases h4 : u < t
      · rw [if_pos h4, if_neg (by omega)]
      · rw [if_neg h4, if_pos (by omega), parts_eq (by omega) (by omega), wrap64_id (x := u - t) (by omega) (by omega), u64_id (x := r) (by omega) (by omega), u64_id (x := u - t) (by omega) (by omega), wide_Mul_eq (by omega) (by omega) (by omega) (by omega)]
        simp only [Option.bind_some]
        rw [wrap64_id (x := b * 1000000 - h) (by omega) (by omega), u64_id (x := b * 1000000 - h) (by omega) (by omega)]
        have p0 : 0 ≤ r * (u - t) := Int.mul_nonneg (by omega) (by omega)
        generalize r * (u - t) = p at *
        by_cases h5 : hi64 p > 0
        · rw [if_pos h5]
          unfold hi64 at h5
          rw [show min (b * 1000000) (h + p) = b * 1000000 by omega]
        · rw [if_neg h5]
          have e : lo64 p = p := by unfold hi64 at h5; unfold lo64; omega
          rw [e]
          by_cases h6 : p ≥ b * 1000000 - h
          · rw [if_pos h6, show min (b * 1000000) (h + p) = b * 1000000 by omega]
          · rw [if_neg h6, wrap64_id (x := p) (by omega) (by omega), wrap64_id (by omega) (by omega), show min (b * 1000000) (h + p) = h + p by omega]
    · rw [if_neg (by rw [decide_eq_false h3]; decide), if_neg (by omega)]
theorem credit_Fill_eq (k : Nat) (hk : 2 ≤ k) (b t h r u : Int) : credit_Fill.f k b t h r u = some (fillC b t h r u) := by
  unfold credit_Fill.f
  rw [credit_Is_eq]
  simp only [Option.bind_some]
  by_cases hi : CIs b t h
  · rw [if_pos (decide_eq_true hi)]
    by_cases h1 : r < 1
    · rw [if_pos h1]; exact fill_j0 k (by omega) hi _ (by rw [decide_eq_true (.inl h1)])
    · rw [if_neg h1]; exact fill_j0 k (by omega) hi _ (by rw [decide_eq_decide]; omega)
  · rw [if_neg (by rw [decide_eq_false hi]; decide)]
    unfold fillC
    rw [if_neg hi]

theorem take_j0 (k : Nat) (hk : 1 ≤ k) {b t h s : Int} (hi : CIs b t h) (x : Bool) (hx : x = decide (s < 1 ∨ 9000 < s)) : credit_Take.j0 k s x t h = some (takeC b t h s) := by
  obtain ⟨k, rfl⟩ : ∃ m, k = m + 1 := ⟨k - 1, by omega⟩
  simp only [credit_Take.j0]
  unfold takeC
  rw [if_pos hi]
  obtain ⟨i1, i2, i3, i4, i5, i6⟩ := hi
  by_cases h1 : s < 1 ∨ 9000 < s
  · rw [if_pos (by rw [hx]; exact decide_eq_true h1), if_pos h1]
  · rw [if_neg (by rw [hx, decide_eq_false h1]; decide), if_neg h1, parts_eq (by omega) (by omega)]
    simp only [Option.bind_some]
    by_cases h2 : h < s * 1000000
    · rw [if_pos h2, if_pos h2]
    · rw [if_neg h2, if_neg h2, wrap64_id (by omega) (by omega)]
theorem credit_Take_eq (k : Nat) (hk : 2 ≤ k) (b t h s : Int) : credit_Take.f k b t h s = some (takeC b t h s) := by
  unfold credit_Take.f
  rw [credit_Is_eq]
  simp only [Option.bind_some]
  by_cases hi : CIs b t h
  · rw [if_pos (decide_eq_true hi)]
    by_cases h1 : s < 1
    · rw [if_pos h1]; exact take_j0 k (by omega) hi _ (by rw [decide_eq_true (.inl h1)])
    · rw [if_neg h1]; exact take_j0 k (by omega) hi _ (by rw [decide_eq_decide]; omega)
  · rw [if_neg (by rw [decide_eq_false hi]; decide)]
    unfold takeC
    rw [if_neg hi]

theorem missing_eq {t h s : Int} (h0 : -9223372036854775808 ≤ h) (h1 : h ≤ 9223372036854775807) (s0 : 0 < s) (s1 : s ≤ 9223372036854775807) : credit_missing.f t h s = some (hi64 (missC h s), lo64 (missC h s)) := by
  unfold credit_missing.f missC
  rw [u64_id (x := s) (by omega) (by omega), wide_Mul_eq (by omega) (by omega) (by decide) (by decide)]
  simp only [Option.bind_some]
  have e0 : ∀ x : Int, W 0 x = x := fun x => by unfold W; omega
  by_cases hn : h < 0
  · rw [if_pos hn]
    have e : IntKind.u64.wrap (-(IntKind.u64.wrap h)) = -h := by rw [u64_wrap, u64_wrap]; omega
    rw [e, wide_Add_eq (hi_nn (by omega)) (hi_lt (by omega)) (lo_nn _) (lo_lt _) (by decide) (by decide) (by omega) (by omega), W_hl, e0]
    simp only [Option.bind_some]
    rw [show (s * 1000000 + -h) % 340282366920938463463374607431768211456 = max 0 (s * 1000000 - h) by omega]
  · rw [if_neg hn, u64_id (x := h) (by omega) (by omega), wide_Sub_eq (hi_nn (by omega)) (hi_lt (by omega)) (lo_nn _) (lo_lt _) (by decide) (by decide) (by omega) (by omega), W_hl, e0]
    simp only [Option.bind_some]
    by_cases hc : s * 1000000 < h
    · rw [if_pos hc, if_pos (by decide), show max 0 (s * 1000000 - h) = 0 by omega]; rfl
    · rw [if_neg hc, if_neg (by decide), show (s * 1000000 - h) % 340282366920938463463374607431768211456 = max 0 (s * 1000000 - h) by omega]

theorem ceil_split {m r : Int} (hr : 0 < r) : (m + r - 1) / r = m / r + (if m % r > 0 then 1 else 0) := by
  have hd := Int.mul_ediv_add_emod m r
  have h0 := Int.emod_nonneg m (by omega : r ≠ 0)
  have h1 := Int.emod_lt_of_pos m hr
  have e : m + r - 1 = (m % r + r - 1) + r * (m / r) := by omega
  rw [e, Int.add_mul_ediv_left _ _ (by omega)]
  by_cases hz : m % r > 0
  · rw [if_pos hz, show m % r + r - 1 = (m % r - 1) + r * 1 by omega, Int.add_mul_ediv_left _ _ (by omega), Int.ediv_eq_zero_of_lt (by omega) (by omega)]; omega
  · rw [if_neg hz, Int.ediv_eq_zero_of_lt (by omega) (by omega)]; omega

theorem hl_zero {m : Int} (h0 : 0 ≤ m) (h1 : m < 340282366920938463463374607431768211456) : ((hi64 m == 0 && (lo64 m == 0)) = true) ↔ m = 0 := by
  simp only [Bool.and_eq_true, beq_iff_eq]
  unfold hi64 lo64
  omega

theorem wait_j0 (k : Nat) (hk : 1 ≤ k) {q x : Int} (q0 : 0 ≤ q) (x0 : 0 ≤ x) (b : Bool) (hb : b = decide (4611686018427387904 ≤ q)) : credit_Wait.j0 k x b (hi64 q) (lo64 q) = some (min 4611686018427387904 (q + if x > 0 then 1 else 0)) := by
  obtain ⟨k, rfl⟩ : ∃ m, k = m + 1 := ⟨k - 1, by omega⟩
  simp only [credit_Wait.j0]
  by_cases h1 : 4611686018427387904 ≤ q
  · rw [if_pos (by rw [hb]; exact decide_eq_true h1)]
    congr 1
    split <;> omega
  · rw [if_neg (by rw [hb, decide_eq_false h1]; decide)]
    have e : lo64 q = q := by unfold lo64; omega
    rw [e]
    by_cases h2 : x > 0
    · rw [if_pos h2, if_pos h2, u64_id (by omega) (by omega), wrap64_id (by omega) (by omega), show min 4611686018427387904 (q + 1) = q + 1 by omega]
    · rw [if_neg h2, if_neg h2, wrap64_id (by omega) (by omega), show min 4611686018427387904 (q + 0) = q by omega]
theorem credit_Wait_eq (k : Nat) (hk : 100 ≤ k) {t h r s : Int} (h0 : -9223372036854775808 ≤ h) (h1 : h ≤ 9223372036854775807) (r1 : r ≤ 9223372036854775807) (s1 : s ≤ 9223372036854775807) : credit_Wait.f k t h r s = some (waitC h r s) := by
  unfold credit_Wait.f waitC
  by_cases hs : s ≤ 0
  · rw [if_pos hs, if_pos hs]
  · rw [if_neg hs, if_neg hs, missing_eq h0 h1 (by omega) s1]
    simp only [Option.bind_some]
    have m0 : 0 ≤ missC h s := by unfold missC; omega
    have m1 : missC h s < 340282366920938463463374607431768211456 := by unfold missC; omega
    generalize missC h s = m at *
    by_cases hm : m = 0
    · rw [if_pos ((hl_zero m0 m1).2 hm), if_pos hm]
    · rw [if_neg (fun c => hm ((hl_zero m0 m1).1 c)), if_neg hm]
      by_cases hr : r ≤ 0
      · rw [if_pos hr, if_pos hr]
      · rw [if_neg hr, if_neg hr, u64_id (x := r) (by omega) (by omega), wide_Div_eq k (by omega) (hi_nn m0) (hi_lt m1) (lo_nn _) (lo_lt _) (by omega) (by omega), W_hl, ceil_split (by omega)]
        simp only [Option.bind_some]
        have q0 : 0 ≤ m / r := Int.ediv_nonneg m0 (by omega)
        have x0 : 0 ≤ m % r := Int.emod_nonneg _ (by omega)
        generalize m / r = q at *
        by_cases hh : hi64 q > 0
        · rw [if_pos hh]
          exact wait_j0 k (by omega) q0 x0 _ (by unfold hi64 at hh; rw [decide_eq_true (by omega)])
        · rw [if_neg hh]
          exact wait_j0 k (by omega) q0 x0 _ (by unfold hi64 at hh; unfold lo64; rw [decide_eq_decide]; omega)

theorem credited_eq (k : Nat) (hk : 100 ≤ k) : pacemakerlaw25_credited.f k = some true := by
  unfold pacemakerlaw25_credited.f
  rw [credit_New_eq k (by omega), show newC 3000 0 = (0, 3000000000, 0) by decide]
  simp only [Option.bind_some]
  rw [credit_Take_eq k (by omega), show takeC 3000 0 3000000000 1500 = (0, 1500000000, 0) by decide]
  simp only [Option.bind_some]
  rw [credit_Take_eq k (by omega), show takeC 3000 0 1500000000 1500 = (0, 0, 0) by decide]
  simp only [Option.bind_some]
  rw [credit_Take_eq k (by omega), show takeC 3000 0 0 1 = (0, 0, 13) by decide]
  simp only [Option.bind_some]
  rw [credit_Fill_eq k (by omega), show fillC 3000 0 0 1000000 1500 = (1500, 1500000000, 0) by decide]
  simp only [Option.bind_some, if_true]
  rw [credit_Wait_eq k hk (by decide) (by decide) (by decide) (by decide), show waitC 0 1000000 1500 = 1500 by decide]
  simp only [Option.bind_some, if_true]
  rw [credit_Is_eq, show decide (CIs 3000 1500 1500000000) = true by decide]
  rfl
end Go.Proofs.Ytpfhlimcemkneaa.P
