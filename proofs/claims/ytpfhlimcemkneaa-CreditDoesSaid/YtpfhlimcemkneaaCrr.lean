/- What the reference of layer 25 tells: the same credits. -/
import Derived.Test.YtpfhlimcemkneaaPx18
import Derived.Test.YtpfhlimcemkneaaPx28
import Derived.Test.YtpfhlimcemkneaaPx9
import Derived.Test.YtpfhlimcemkneaaCr
import Derived.Test.YtpfhlimcemkneaaSr
import Derived.Test.YtpfhlimcemkneaaSr2
set_option linter.unusedVariables false
set_option linter.unusedSimpArgs false
namespace Go.Proofs.Ytpfhlimcemkneaa.P
open Go.RowKit Go.Proofs.Th Go.Proofs.YtpfhlimcemkneaaW.PrintWords Go.Proofs.YtpfhlimcemkneaaW.PrintMore

theorem rTime_eq (a : Int) : pacemakerref09_Time.f a = some (decide (0 ≤ a ∧ a ≤ 1099511627776)) := by
  unfold pacemakerref09_Time.f
  by_cases h : a ≥ 0
  · rw [if_pos h]
    congr 1
    rw [decide_eq_decide]
    omega
  · rw [if_neg h, decide_eq_false (by omega)]
theorem rSize_eq (a : Int) : pacemakerref09_Size.f a = some (decide (1 ≤ a ∧ a ≤ 9000)) := by
  unfold pacemakerref09_Size.f
  by_cases h : a ≥ 1
  · rw [if_pos h]
    congr 1
    rw [decide_eq_decide]
    omega
  · rw [if_neg h, decide_eq_false (by omega)]
theorem rnew_j0 (k : Nat) (hk : 1 ≤ k) (b t : Int) (x : Bool) (hx : x = decide (b < 1 ∨ 1048576 < b)) : pacemakerref25_New.j0 k b t x = some (newC b t) := by
  obtain ⟨k, rfl⟩ : ∃ m, k = m + 1 := ⟨k - 1, by omega⟩
  simp only [pacemakerref25_New.j0]
  unfold newC
  by_cases h : b < 1 ∨ 1048576 < b
  · rw [if_pos (by rw [hx]; exact decide_eq_true h), if_pos h]
  · rw [if_neg (by rw [hx, decide_eq_false h]; decide), if_neg h, rTime_eq]
    simp only [Option.bind_some]
    by_cases h3 : 0 ≤ t ∧ t ≤ 1099511627776
    · rw [if_pos (decide_eq_true h3), if_pos h3, wrap64_id (by omega) (by omega)]
    · rw [if_neg (by rw [decide_eq_false h3]; decide), if_neg h3]
theorem rNew_eq (k : Nat) (hk : 2 ≤ k) (b t : Int) : pacemakerref25_New.f k b t = some (newC b t) := by
  unfold pacemakerref25_New.f
  by_cases h : b < 1
  · rw [if_pos h]; exact rnew_j0 k (by omega) b t _ (by rw [decide_eq_true (.inl h)])
  · rw [if_neg h]
    exact rnew_j0 k (by omega) b t _ (by rw [decide_eq_decide]; omega)
theorem rIs_eq (b t h : Int) : pacemakerref25_Is.f b t h = some (decide (CIs b t h)) := by
  unfold pacemakerref25_Is.f
  have no : ¬ CIs b t h → decide (CIs b t h) = false := decide_eq_false
  by_cases h1 : b ≥ 1
  · rw [if_pos h1]
    by_cases h2 : b ≤ 1048576
    · rw [if_pos h2, rTime_eq]
      simp only [Option.bind_some]
      by_cases h3 : 0 ≤ t ∧ t ≤ 1099511627776
      · rw [if_pos (decide_eq_true h3)]
        by_cases h4 : h ≥ 0
        · rw [if_pos h4, wrap64_id (by omega) (by omega)]
          congr 1
          rw [decide_eq_decide]
          unfold CIs
          omega
        · rw [if_neg h4, no (by unfold CIs; omega)]
      · rw [if_neg (by rw [decide_eq_false h3]; decide), no (by unfold CIs; omega)]
    · rw [if_neg h2, no (by unfold CIs; omega)]
  · rw [if_neg h1, no (by unfold CIs; omega)]

theorem rfill_j1 (k : Nat) (hk : 1 ≤ k) {b t h r u : Int} (hi : CIs b t h) (hr : ¬ (r < 1 ∨ 1000000000 < r)) (x : Bool) (hx : x = decide (¬ (0 ≤ u ∧ u ≤ 1099511627776 ∧ t ≤ u))) : pacemakerref25_Fill.j1 k b r u x t h = some (fillC b t h r u) := by
  obtain ⟨k, rfl⟩ : ∃ m, k = m + 1 := ⟨k - 1, by omega⟩
  simp only [pacemakerref25_Fill.j1]
  unfold fillC
  rw [if_pos hi, if_neg hr]
  obtain ⟨i1, i2, i3, i4, i5, i6⟩ := hi
  by_cases h3 : 0 ≤ u ∧ u ≤ 1099511627776 ∧ t ≤ u
  · rw [if_neg (by rw [hx, decide_eq_false (fun c => c h3)]; decide), if_pos h3, if_neg (by omega), wrap64_id (x := u - t) (by omega) (by omega), wrap64_id (x := b * 1000000) (by omega) (by omega), wrap64_id (x := b * 1000000 - h) (by omega) (by omega), Int.tdiv_eq_ediv_of_nonneg (by omega)]
    have hq0 : 0 ≤ (b * 1000000 - h) / r := Int.ediv_nonneg (by omega) (by omega)
    have hq1 : (b * 1000000 - h) / r ≤ b * 1000000 - h := Int.ediv_le_self _ (by omega)
    rw [wrap64_id (x := (b * 1000000 - h) / r) (by omega) (by omega)]
    have hiff : u - t ≤ (b * 1000000 - h) / r ↔ (u - t) * r ≤ b * 1000000 - h := Int.le_ediv_iff_mul_le (by omega)
    have p0 : 0 ≤ (u - t) * r := Int.mul_nonneg (by omega) (by omega)
    rw [Int.mul_comm r]
    by_cases hc : u - t ≤ (b * 1000000 - h) / r
    · have := hiff.1 hc
      rw [if_pos hc, wrap64_id (x := (u - t) * r) (by omega) (by omega), wrap64_id (by omega) (by omega), show min (b * 1000000) (h + (u - t) * r) = h + (u - t) * r by omega]
    · have : ¬ (u - t) * r ≤ b * 1000000 - h := fun c => hc (hiff.2 c)
      rw [if_neg hc, wrap64_id (by omega) (by omega), show min (b * 1000000) (h + (u - t) * r) = h + (b * 1000000 - h) by omega]
  · rw [if_pos (by rw [hx]; exact decide_eq_true h3), if_neg h3]
theorem rfill_j0 (k : Nat) (hk : 2 ≤ k) {b t h r u : Int} (hi : CIs b t h) (x : Bool) (hx : x = decide (r < 1 ∨ 1000000000 < r)) : pacemakerref25_Fill.j0 k b r u x t h = some (fillC b t h r u) := by
  obtain ⟨k, rfl⟩ : ∃ m, k = m + 1 := ⟨k - 1, by omega⟩
  simp only [pacemakerref25_Fill.j0]
  by_cases h1 : r < 1 ∨ 1000000000 < r
  · rw [if_pos (by rw [hx]; exact decide_eq_true h1)]
    unfold fillC
    rw [if_pos hi, if_pos h1]
  · rw [if_neg (by rw [hx, decide_eq_false h1]; decide), rTime_eq]
    simp only [Option.bind_some]
    by_cases h3 : 0 ≤ u ∧ u ≤ 1099511627776
    · rw [if_pos (decide_eq_true h3)]
      exact rfill_j1 k (by omega) hi h1 _ (by rw [decide_eq_decide]; omega)
    · rw [if_neg (by rw [decide_eq_false h3]; decide)]
      exact rfill_j1 k (by omega) hi h1 _ (by rw [decide_eq_true (by omega)])
theorem rFill_eq (k : Nat) (hk : 3 ≤ k) (b t h r u : Int) : pacemakerref25_Fill.f k b t h r u = some (fillC b t h r u) := by
  unfold pacemakerref25_Fill.f
  rw [rIs_eq]
  simp only [Option.bind_some]
  by_cases hi : CIs b t h
  · rw [if_pos (decide_eq_true hi)]
    by_cases h1 : r < 1
    · rw [if_pos h1]; exact rfill_j0 k (by omega) hi _ (by rw [decide_eq_true (.inl h1)])
    · rw [if_neg h1]; exact rfill_j0 k (by omega) hi _ (by rw [decide_eq_decide]; omega)
  · rw [if_neg (by rw [decide_eq_false hi]; decide)]
    unfold fillC
    rw [if_neg hi]
theorem rTake_eq (b t h s : Int) : pacemakerref25_Take.f b t h s = some (takeC b t h s) := by
  unfold pacemakerref25_Take.f takeC
  rw [rIs_eq]
  simp only [Option.bind_some]
  by_cases hi : CIs b t h
  · rw [if_pos (decide_eq_true hi), if_pos hi, rSize_eq]
    simp only [Option.bind_some]
    obtain ⟨i1, i2, i3, i4, i5, i6⟩ := hi
    by_cases h1 : 1 ≤ s ∧ s ≤ 9000
    · rw [if_pos (decide_eq_true h1), if_neg (show ¬ (s < 1 ∨ 9000 < s) by omega), wrap64_id (x := s * 1000000) (by omega) (by omega)]
      by_cases h2 : h < s * 1000000
      · rw [if_pos h2, if_pos h2]
      · rw [if_neg h2, if_neg h2, wrap64_id (by omega) (by omega)]
    · rw [if_neg (by rw [decide_eq_false h1]; decide), if_pos (show s < 1 ∨ 9000 < s by omega)]
  · rw [if_neg (by rw [decide_eq_false hi]; decide), if_neg hi]
theorem rFar_eq {a : Int} (h0 : -9223372036854775808 ≤ a) (h1 : a ≤ 9223372036854775807) : pacemakerref02_Far.f a = some (if a < 0 then -a else a) := by
  unfold pacemakerref02_Far.f
  by_cases h : a < 0
  · rw [if_pos h, if_pos h, u64_wrap, u64_wrap]
    congr 1
    omega
  · rw [if_neg h, if_neg h, u64_id (by omega) (by omega)]

theorem rwait_j1 (k : Nat) (hk : 1 ≤ k) {q x : Int} (q0 : 0 ≤ q) (x0 : 0 ≤ x) (b : Bool) (hb : b = decide (4611686018427387904 ≤ q)) : pacemakerref25_Wait.j1 k x b (hi64 q) (lo64 q) = some (min 4611686018427387904 (q + if x > 0 then 1 else 0)) := by
  obtain ⟨k, rfl⟩ : ∃ m, k = m + 1 := ⟨k - 1, by omega⟩
  simp only [pacemakerref25_Wait.j1]
  by_cases h1 : 4611686018427387904 ≤ q
  · rw [if_pos (by rw [hb]; exact decide_eq_true h1)]
    congr 1
    split <;> omega
  · rw [if_neg (by rw [hb, decide_eq_false h1]; decide)]
    have e : lo64 q = q := by unfold lo64; omega
    rw [e]
    by_cases h2 : x > 0
    · rw [if_pos h2, if_pos h2, wrap64_id (x := q) (by omega) (by omega), wrap64_id (by omega) (by omega), show min 4611686018427387904 (q + 1) = q + 1 by omega]
    · rw [if_neg h2, if_neg h2, wrap64_id (by omega) (by omega), show min 4611686018427387904 (q + 0) = q by omega]
theorem rwait_j0 (k : Nat) (hk : 700 ≤ k) {m r : Int} (m0 : 0 ≤ m) (m1 : m < 340282366920938463463374607431768211456) (r1 : r ≤ 9223372036854775807) : pacemakerref25_Wait.j0 k r (hi64 m) (lo64 m) = some (if r ≤ 0 then 4611686018427387904 else min 4611686018427387904 ((m + r - 1) / r)) := by
  obtain ⟨k, rfl⟩ : ∃ m, k = m + 1 := ⟨k - 1, by omega⟩
  simp only [pacemakerref25_Wait.j0]
  by_cases hr : r ≤ 0
  · rw [if_pos hr, if_pos hr]
  · rw [if_neg hr, if_neg hr, u64_id (x := r) (by omega) (by omega), ref_Div_eq k (by omega) (hi_nn m0) (hi_lt m1) (lo_nn _) (lo_lt _) (by omega) (by omega), W_hl, ceil_split (by omega)]
    simp only [Option.bind_some]
    have q0 : 0 ≤ m / r := Int.ediv_nonneg m0 (by omega)
    have x0 : 0 ≤ m % r := Int.emod_nonneg _ (by omega)
    generalize m / r = q at *
    by_cases hh : hi64 q > 0
    · rw [if_pos hh]
      exact rwait_j1 k (by omega) q0 x0 _ (by unfold hi64 at hh; rw [decide_eq_true (by omega)])
    · rw [if_neg hh]
      exact rwait_j1 k (by omega) q0 x0 _ (by unfold hi64 at hh; unfold lo64; rw [decide_eq_decide]; omega)
theorem rWait_eq (k : Nat) (hk : 800 ≤ k) {t h r s : Int} (h0 : -9223372036854775808 ≤ h) (h1 : h ≤ 9223372036854775807) (r1 : r ≤ 9223372036854775807) (s1 : s ≤ 9223372036854775807) : pacemakerref25_Wait.f k t h r s = some (waitC h r s) := by
  unfold pacemakerref25_Wait.f waitC
  by_cases hs : s ≤ 0
  · rw [if_pos hs, if_pos hs]
  · have e0 : ∀ x : Int, W 0 x = x := fun x => by unfold W; omega
    rw [if_neg hs, if_neg hs, u64_id (x := s) (by omega) (by omega), ref_Times_eq (by omega) (by omega) (by decide) (by decide), rFar_eq h0 h1]
    simp only [Option.bind_some]
    rw [ref_Add_eq k (by omega) (hi_nn (by omega)) (hi_lt (by omega)) (lo_nn _) (lo_lt _) (by decide) (by decide) (by split <;> omega) (by split <;> omega), W_hl, e0]
    simp only [Option.bind_some]
    by_cases hn : h ≥ 0
    · rw [if_pos hn, if_neg (show ¬ h < 0 by omega), ref_Cmp_eq k (by omega) (hi_nn (by omega)) (hi_lt (by omega)) (lo_nn _) (lo_lt _) (by decide) (by decide) (by omega) (by omega), W_hl, e0]
      simp only [Option.bind_some]
      by_cases hc : s * 1000000 ≤ h
      · have h2 : (if s * 1000000 < h then (-1 : Int) else if h < s * 1000000 then 1 else 0) ≤ 0 := by
          split
          · decide
          · rw [if_neg (by omega)]; decide
        rw [if_pos h2, if_pos (by unfold missC; omega)]
      · have h2 : ¬ (if s * 1000000 < h then (-1 : Int) else if h < s * 1000000 then 1 else 0) ≤ 0 := by
          rw [if_neg (by omega), if_pos (by omega)]; decide
        rw [if_neg h2, if_neg (by unfold missC; omega), ref_Sub_eq k (by omega) (hi_nn (by omega)) (hi_lt (by omega)) (lo_nn _) (lo_lt _) (by decide) (by decide) (by omega) (by omega), W_hl, e0]
        simp only [Option.bind_some]
        rw [show (s * 1000000 - h) % 340282366920938463463374607431768211456 = missC h s by unfold missC; omega]
        exact rwait_j0 k (by omega) (by unfold missC; omega) (by unfold missC; omega) r1
    · rw [if_neg hn, if_pos (show h < 0 by omega), if_neg (by unfold missC; omega), show (s * 1000000 + -h) % 340282366920938463463374607431768211456 = missC h s by unfold missC; omega]
      exact rwait_j0 k (by omega) (by unfold missC; omega) (by unfold missC; omega) r1
end Go.Proofs.Ytpfhlimcemkneaa.P
