/- Behind the wait there is enough, and a microsecond ahead of that not, if a burst may have so much. -/
import Derived.Test.YtpfhlimcemkneaaPx28
import Derived.Test.YtpfhlimcemkneaaCr
set_option linter.unusedVariables false
set_option linter.unusedSimpArgs false
namespace Go.Proofs.Ytpfhlimcemkneaa.Pure
open Go.RowKit Go.Proofs.Th Go.Proofs.YtpfhlimcemkneaaW.PrintWords Go.Proofs.YtpfhlimcemkneaaW.PrintMore Go.Proofs.Ytpfhlimcemkneaa.P
theorem wait_nn {h r s : Int} : 0 ≤ waitC h r s ∧ waitC h r s ≤ 4611686018427387904 := by
  unfold waitC
  by_cases hs : s ≤ 0
  · rw [if_pos hs]; omega
  · rw [if_neg hs]
    have m0 : 0 ≤ missC h s := by unfold missC; omega
    by_cases hm : missC h s = 0
    · rw [if_pos hm]; omega
    · rw [if_neg hm]
      by_cases hr : r ≤ 0
      · rw [if_pos hr]; omega
      · rw [if_neg hr]
        have : 0 ≤ (missC h s + r - 1) / r := Int.ediv_nonneg (by omega) (by omega)
        omega
theorem waits_end {b t h r s n : Int} (k : Nat) (hk : 150 ≤ k) (n0 : 0 ≤ n) (n1 : n ≤ 4611686018427387904) : P.pacemakerlaw25_CreditWaits.j0 k b r s n true t h = some true := by
  obtain ⟨k, rfl⟩ : ∃ m, k = m + 1 := ⟨k - 1, by omega⟩
  simp only [P.pacemakerlaw25_CreditWaits.j0, if_true]
  rw [credited_eq k (by omega)]
  simp only [Option.bind_some, if_true]
  rw [if_pos n0, decide_eq_true n1]
theorem waits_go {b t h r s n : Int} (k : Nat) (hk : 200 ≤ k) (hi : CIs b t h) (r0 : 1 ≤ r) (r1 : r ≤ 1000000000) (s0 : 1 ≤ s) (s1 : s ≤ 9000) (sb : s ≤ b) (hn : n = waitC h r s) (hle : n ≤ 1099511627776 - t) :
    P.pacemakerlaw25_CreditWaits.j0 k b r s n false t h = some true := by
  obtain ⟨k, rfl⟩ : ∃ m, k = m + 1 + 1 := ⟨k - 2, by omega⟩
  have hnn := wait_nn (h := h) (r := r) (s := s)
  rw [← hn] at hnn
  have hi' := hi
  obtain ⟨i1, i2, i3, i4, i5, i6⟩ := hi'
  have hw : n = 0 ∧ s * 1000000 ≤ h ∨ 0 < n ∧ s * 1000000 - h ≤ r * n ∧ r * (n - 1) < s * 1000000 - h := by
    unfold waitC at hn
    rw [if_neg (by omega)] at hn
    by_cases hm : missC h s = 0
    · rw [if_pos hm] at hn
      unfold missC at hm
      left; omega
    · rw [if_neg hm, if_neg (by omega)] at hn
      have em : missC h s = s * 1000000 - h := by unfold missC at *; omega
      rw [em] at hn
      have hm0 : 0 < s * 1000000 - h := by unfold missC at hm; omega
      generalize s * 1000000 - h = m at *
      right
      have hd := Int.mul_ediv_add_emod (m + r - 1) r
      have h0 := Int.emod_nonneg (m + r - 1) (by omega : r ≠ 0)
      have h1 := Int.emod_lt_of_pos (m + r - 1) (by omega : 0 < r)
      have hq : (m + r - 1) / r = n := by omega
      rw [hq] at hd
      have e : r * (n - 1) = r * n - r := by rw [Int.mul_sub, Int.mul_one]
      have hpos : 0 < n := by
        apply Int.lt_of_not_ge
        intro c
        have : r * n ≤ 0 := Int.mul_nonpos_of_nonneg_of_nonpos (by omega) c
        omega
      refine ⟨hpos, by omega, by omega⟩
  have take_ok : ∀ u g : Int, CIs b u g → s * 1000000 ≤ g → takeC b u g s = (u, g - s * 1000000, 0) := by
    intro u g hg hle
    unfold takeC
    rw [if_pos hg, if_neg (by omega), if_neg (by omega)]
  have take_no : ∀ u g : Int, CIs b u g → g < s * 1000000 → takeC b u g s = (0, 0, 13) := by
    intro u g hg hle
    unfold takeC
    rw [if_pos hg, if_neg (by omega), if_pos (by omega)]
  have fill_ok : ∀ u : Int, 0 ≤ u → u ≤ 1099511627776 → t ≤ u → fillC b t h r u = (u, min (b * 1000000) (h + r * (u - t)), 0) := by
    intro u u0 u1 u2
    unfold fillC
    rw [if_pos hi, if_neg (by omega), if_pos (by omega)]
  have p0 : 0 ≤ r * n := Int.mul_nonneg (by omega) (by omega)
  simp only [P.pacemakerlaw25_CreditWaits.j0]
  rw [if_neg (by decide), wrap64_id (x := t + n) (by omega) (by omega), credit_Fill_eq (k + 1) (by omega), fill_ok (t + n) (by omega) (by omega) (by omega), show t + n - t = n by omega]
  simp only [Option.bind_some]
  rw [credit_Take_eq (k + 1) (by omega), take_ok _ _ ⟨i1, i2, by omega, by omega, by omega, by omega⟩ (by omega)]
  simp only [Option.bind_some, if_true]
  rw [if_neg (by omega), show ((0 : Int) != 0) = false by decide]
  simp only [P.pacemakerlaw25_CreditWaits.j1]
  rw [if_neg (by decide)]
  by_cases hz : n = 0
  · rw [if_pos hz, credited_eq k (by omega)]; rfl
  · rcases hw with hw | ⟨hw1, hw2, hw3⟩
    · exact absurd hw.1 hz
    · have p1 : 0 ≤ r * (n - 1) := Int.mul_nonneg (by omega) (by omega)
      rw [if_neg hz, wrap64_id (x := t + n) (by omega) (by omega), wrap64_id (x := t + n - 1) (by omega) (by omega), credit_Fill_eq k (by omega), fill_ok (t + n - 1) (by omega) (by omega) (by omega), show t + n - 1 - t = n - 1 by omega]
      simp only [Option.bind_some]
      rw [credit_Take_eq k (by omega), take_no _ _ ⟨i1, i2, by omega, by omega, by omega, by omega⟩ (by omega), credited_eq k (by omega)]
      rfl
theorem CreditWaits (b t h r s : Int) (w0 : (Lit.int .i64 b).wf = true) (w1 : (Lit.int .i64 t).wf = true) (w2 : (Lit.int .i64 h).wf = true) (w3 : (Lit.int .i64 r).wf = true) (w4 : (Lit.int .i64 s).wf = true) :
    ∃ k, P.pacemakerlaw25_CreditWaits.f k b t h r s = some true := by
  obtain ⟨h0, h1⟩ := wf_i64 w2
  obtain ⟨r0, r1⟩ := wf_i64 w3
  obtain ⟨s0, s1⟩ := wf_i64 w4
  refine ⟨1000, ?_⟩
  have hnn := wait_nn (h := h) (r := r) (s := s)
  have out := waits_end (b := b) (t := t) (h := h) (r := r) (s := s) 1000 (by decide) hnn.1 hnn.2
  unfold P.pacemakerlaw25_CreditWaits.f
  rw [credit_Wait_eq 1000 (by decide) h0 h1 r1 s1, credit_Is_eq]
  simp only [Option.bind_some]
  by_cases hi : CIs b t h
  · have hi' := hi
    obtain ⟨i1, i2, i3, i4, i5, i6⟩ := hi'
    rw [if_pos (decide_eq_true hi)]
    by_cases c1 : r < 1
    · rw [if_pos c1]; exact out
    rw [if_neg c1]
    by_cases c2 : r > 1000000000
    · rw [if_pos c2]; exact out
    rw [if_neg c2]
    by_cases c3 : s < 1
    · rw [if_pos c3]; exact out
    rw [if_neg c3]
    by_cases c4 : s > 9000
    · rw [if_pos c4]; exact out
    rw [if_neg c4]
    by_cases c5 : s > b
    · rw [if_pos c5]; exact out
    rw [if_neg c5, wrap64_id (by omega) (by omega)]
    by_cases c6 : waitC h r s > 1099511627776 - t
    · rw [decide_eq_true c6]; exact out
    · rw [decide_eq_false c6]
      exact waits_go 1000 (by decide) hi (by omega) (by omega) (by omega) (by omega) (by omega) rfl (by omega)
  · rw [if_neg (by rw [decide_eq_false hi]; decide)]
    exact out
end Go.Proofs.Ytpfhlimcemkneaa.Pure
