/- To fill in two steps at one rate is to fill in one; what is waited for, times the rate, is not below what is missing. -/
import Derived.Test.YtpfhlimcemkneaaPx29
import Derived.Test.YtpfhlimcemkneaaCr
set_option linter.unusedVariables false
set_option linter.unusedSimpArgs false
namespace Go.Proofs.Ytpfhlimcemkneaa.Pure
open Go.RowKit Go.Proofs.Th Go.Proofs.YtpfhlimcemkneaaW.PrintWords Go.Proofs.YtpfhlimcemkneaaW.PrintMore Go.Proofs.Ytpfhlimcemkneaa.P
theorem splits_end {r s n t h : Int} (k : Nat) (hk : 150 ≤ k) : P.pacemakerlaw25_CreditSplits.j1 k r s n true t h = some true := by
  obtain ⟨k, rfl⟩ : ∃ m, k = m + 1 := ⟨k - 1, by omega⟩
  simp only [P.pacemakerlaw25_CreditSplits.j1, if_true]
  rw [credited_eq k (by omega)]; rfl
theorem splits_j0 {r s t h : Int} (k : Nat) (hk : 200 ≤ k) (h0 : -9223372036854775808 ≤ h) (h1 : h ≤ 9223372036854775807) (r1 : r ≤ 9223372036854775807) (s1 : s ≤ 9223372036854775807) : P.pacemakerlaw25_CreditSplits.j0 k r s false t h = some true := by
  obtain ⟨k, rfl⟩ : ∃ m, k = m + 1 + 1 := ⟨k - 2, by omega⟩
  have out := fun n => splits_end (r := r) (s := s) (n := n) (t := t) (h := h) (k + 1) (by omega)
  simp only [P.pacemakerlaw25_CreditSplits.j0]
  rw [if_neg (by decide), credit_Wait_eq (k + 1) (by omega) h0 h1 r1 s1]
  simp only [Option.bind_some]
  by_cases c1 : s ≤ 0
  · rw [if_pos c1]; exact out _
  rw [if_neg c1]
  by_cases c2 : r ≤ 0
  · rw [if_pos c2]; exact out _
  rw [if_neg c2]
  by_cases c3 : h < 0
  · rw [if_pos c3]; exact out _
  rw [if_neg c3]
  by_cases c4 : waitC h r s = 4611686018427387904
  · rw [show (waitC h r s == 4611686018427387904) = true from beq_iff_eq.2 c4]; exact out _
  rw [show (waitC h r s == 4611686018427387904) = false from beq_eq_false_iff_ne.2 c4]
  have hw : 0 ≤ waitC h r s ∧ waitC h r s < 4611686018427387904 ∧ s * 1000000 - h ≤ r * waitC h r s := by
    by_cases hm : missC h s = 0
    · have hv : waitC h r s = 0 := by unfold waitC; rw [if_neg c1, if_pos hm]
      rw [hv]
      unfold missC at hm
      refine ⟨by omega, by omega, by omega⟩
    · have em : missC h s = s * 1000000 - h := by unfold missC at *; omega
      have hm0 : 0 < s * 1000000 - h := by unfold missC at hm; omega
      have hv : waitC h r s = min 4611686018427387904 ((s * 1000000 - h + r - 1) / r) := by unfold waitC; rw [if_neg c1, if_neg hm, if_neg c2, em]
      rw [hv] at c4 ⊢
      clear hv em hm
      generalize s * 1000000 - h = m at *
      have hd := Int.mul_ediv_add_emod (m + r - 1) r
      have q0 := Int.emod_nonneg (m + r - 1) (by omega : r ≠ 0)
      have q1 := Int.emod_lt_of_pos (m + r - 1) (by omega : 0 < r)
      have q2 : 0 ≤ (m + r - 1) / r := Int.ediv_nonneg (by omega) (by omega)
      have e : min 4611686018427387904 ((m + r - 1) / r) = (m + r - 1) / r := by omega
      rw [e] at c4 ⊢
      exact ⟨q2, by omega, by omega⟩
  obtain ⟨n0, n1, n2⟩ := hw
  generalize waitC h r s = n at *
  simp only [P.pacemakerlaw25_CreditSplits.j1]
  have e0 : ∀ x : Int, W 0 x = x := fun x => by unfold W; omega
  have p0 : 0 ≤ r * n := Int.mul_nonneg (by omega) n0
  have p1 : r * n ≤ 9223372036854775807 * 4611686018427387904 := Int.mul_le_mul (by omega) (by omega) n0 (by decide)
  rw [if_neg (by decide), u64_id (x := r) (by omega) (by omega), u64_id (x := n) n0 (by omega), u64_id (x := h) (by omega) (by omega), u64_id (x := s) (by omega) (by omega), wide_Mul_eq (x := r) (by omega) (by omega) n0 (by omega), wide_Mul_eq (x := s) (by omega) (by omega) (by decide) (by decide)]
  simp only [Option.bind_some]
  rw [wide_Add_eq (hi_nn p0) (hi_lt (by omega)) (lo_nn _) (lo_lt _) (by decide) (by decide) (by omega) (by omega), W_hl, e0, Int.emod_eq_of_lt (a := r * n + h) (by omega) (by omega)]
  simp only [Option.bind_some]
  rw [credited_eq k (by omega)]
  simp only [Option.bind_some, if_true]
  rw [if_pos n0, wide_Cmp_eq (lo_nn _) (lo_lt _) (lo_nn _) (lo_lt _), W_hl, W_hl]
  simp only [Option.bind_some]
  congr 1
  rw [decide_eq_true_iff]
  rw [if_neg (by omega)]
  split <;> decide
theorem fill_split {b t h r u v : Int} (hi : CIs b t h) (hr : ¬ (r < 1 ∨ 1000000000 < r)) (hu : 0 ≤ u ∧ u ≤ 1099511627776 ∧ t ≤ u) (hv : 0 ≤ v ∧ v ≤ 1099511627776 ∧ u ≤ v) :
    fillC b u (min (b * 1000000) (h + r * (u - t))) r v = (v, min (b * 1000000) (h + r * (v - t)), 0) := by
  obtain ⟨i1, i2, i3, i4, i5, i6⟩ := hi
  have p0 : 0 ≤ r * (u - t) := Int.mul_nonneg (by omega) (by omega)
  have p1 : 0 ≤ r * (v - u) := Int.mul_nonneg (by omega) (by omega)
  have e : r * (v - t) = r * (u - t) + r * (v - u) := by rw [← Int.mul_add]; congr 1; omega
  unfold fillC
  rw [if_pos ⟨i1, i2, by omega, by omega, by omega, by omega⟩, if_neg hr, if_pos hv, e]
  generalize r * (u - t) = p at *
  generalize r * (v - u) = q at *
  congr 2
  omega
theorem CreditSplits (b t h r u v s : Int) (w0 : (Lit.int .i64 b).wf = true) (w1 : (Lit.int .i64 t).wf = true) (w2 : (Lit.int .i64 h).wf = true) (w3 : (Lit.int .i64 r).wf = true) (w4 : (Lit.int .i64 u).wf = true) (w5 : (Lit.int .i64 v).wf = true) (w6 : (Lit.int .i64 s).wf = true) :
    ∃ k, P.pacemakerlaw25_CreditSplits.f k b t h r u v s = some true := by
  obtain ⟨h0, h1⟩ := wf_i64 w2
  obtain ⟨r0, r1⟩ := wf_i64 w3
  obtain ⟨s0, s1⟩ := wf_i64 w6
  refine ⟨1000, ?_⟩
  have fin := splits_j0 (r := r) (s := s) (t := t) (h := h) 1000 (by decide) h0 h1 r1 s1
  unfold P.pacemakerlaw25_CreditSplits.f
  rw [credit_Fill_eq 1000 (by decide)]
  simp only [Option.bind_some]
  rw [credit_Fill_eq 1000 (by decide), credit_Fill_eq 1000 (by decide)]
  simp only [Option.bind_some]
  by_cases c1 : (fillC b t h r u).2.2 = 0
  · rw [if_pos c1]
    by_cases c2 : (fillC b (fillC b t h r u).1 (fillC b t h r u).2.1 r v).2.2 = 0
    · rw [if_pos c2]
      have hi : CIs b t h := by
        by_cases c : CIs b t h
        · exact c
        · unfold fillC at c1; rw [if_neg c] at c1; simp at c1
      have hr : ¬ (r < 1 ∨ 1000000000 < r) := by
        intro c
        unfold fillC at c1; rw [if_pos hi, if_pos c] at c1; simp at c1
      have hu : 0 ≤ u ∧ u ≤ 1099511627776 ∧ t ≤ u := by
        by_cases c : 0 ≤ u ∧ u ≤ 1099511627776 ∧ t ≤ u
        · exact c
        · unfold fillC at c1; rw [if_pos hi, if_neg hr, if_neg c] at c1; simp at c1
      have e1 : fillC b t h r u = (u, min (b * 1000000) (h + r * (u - t)), 0) := by
        unfold fillC; rw [if_pos hi, if_neg hr, if_pos hu]
      rw [e1] at c2 ⊢
      simp only at c2 ⊢
      have hi2 := hi
      obtain ⟨i1, i2, i3, i4, i5, i6⟩ := hi2
      have p0 : 0 ≤ r * (u - t) := Int.mul_nonneg (by omega) (by omega)
      have hv : 0 ≤ v ∧ v ≤ 1099511627776 ∧ u ≤ v := by
        by_cases c : 0 ≤ v ∧ v ≤ 1099511627776 ∧ u ≤ v
        · exact c
        · unfold fillC at c2; rw [if_pos ⟨i1, i2, by omega, by omega, by omega, by omega⟩, if_neg hr, if_neg c] at c2; simp at c2
      have e2 := fill_split hi hr hu hv
      have e3 : fillC b t h r v = (v, min (b * 1000000) (h + r * (v - t)), 0) := by
        unfold fillC; rw [if_pos hi, if_neg hr, if_pos ⟨hv.1, hv.2.1, by omega⟩]
      rw [e2, e3]
      simp only [if_true, beq_self_eq_true, Bool.not_true, Bool.or_self]
      exact fin
    · rw [if_neg c2]; exact fin
  · rw [if_neg c1]; exact fin
end Go.Proofs.Ytpfhlimcemkneaa.Pure
