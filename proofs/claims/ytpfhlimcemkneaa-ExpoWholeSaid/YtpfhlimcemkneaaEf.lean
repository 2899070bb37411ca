/- How near logarithm and power by bits are to one another. No program in sight. -/
import Derived.Test.YtpfhlimcemkneaaEe
set_option linter.unusedVariables false
set_option linter.unusedSimpArgs false
namespace Go.Proofs.Ee
open Go.Proofs.Th
theorem exp_le_of {N x y : Nat} (h : 2 ^ (62 * N + x) ≤ 2 ^ (62 * N + y)) : x ≤ y := by
  have e := (Nat.pow_le_pow_iff_right (a := 2) (by decide)).1 h
  omega
theorem pow_le_of {a b N : Nat} (hN : N ≠ 0) (h : a ^ N ≤ b ^ N) : a ≤ b := (Nat.pow_le_pow_iff_left hN).1 h
section
variable {g : Nat → Nat} (hg : Rt g)
include hg
theorem pw_up {f : Nat} (hf : f < 1048576) : pw g f ^ 2 ^ 20 ≤ 2 ^ (60 * 2 ^ 20 + f) := by
  have h := ex_up hg 20 0 f 1152921504606846976 2305843009213693952 (by decide)
  have e : f % 2 ^ 20 = f := Nat.mod_eq_of_lt hf
  rw [Nat.zero_add, e] at h
  unfold pw
  have e2 : (1152921504606846976 : Nat) = 2 ^ 60 := by decide
  generalize ex g 20 f 1152921504606846976 2305843009213693952 = x at *
  rw [e2] at h
  generalize (2 : Nat) ^ 20 = N at *
  rw [← Nat.pow_mul, ← Nat.pow_add] at h
  exact h
theorem pw_dn {f : Nat} (hf : f < 1048576) : 2 ^ (60 * 2 ^ 20 + f) ≤ (pw g f + 6291456) ^ 2 ^ 20 := by
  have h := ex_dn hg 20 0 f 1152921504606846976 2305843009213693952 0 (by decide) (by decide) (by decide) (by decide) (by decide)
  have e : f % 2 ^ 20 = f := Nat.mod_eq_of_lt hf
  rw [Nat.zero_add, Nat.zero_add, Nat.add_zero, e] at h
  unfold pw
  have e2 : (1152921504606846976 : Nat) = 2 ^ 60 := by decide
  have e3 : 6 * 2 ^ 20 = 6291456 := by decide
  rw [e3] at h
  generalize ex g 20 f 1152921504606846976 2305843009213693952 = x at *
  rw [e2] at h
  generalize (2 : Nat) ^ 20 = N at *
  rw [← Nat.pow_mul, ← Nat.pow_add] at h
  exact h
theorem four_up {f : Nat} (hf : f < 1048576) : (4 * pw g f) ^ 2 ^ 20 ≤ 2 ^ (62 * 2 ^ 20 + f) := by
  have h := pw_up hg hf
  generalize pw g f = x at *
  generalize (2 : Nat) ^ 20 = N at *
  rw [Nat.mul_pow]
  calc 4 ^ N * x ^ N ≤ 4 ^ N * 2 ^ (60 * N + f) := Nat.mul_le_mul_left _ h
    _ = 2 ^ (62 * N + f) := by
      have e : (4 : Nat) ^ N = 2 ^ (2 * N) := by rw [Nat.pow_mul]
      rw [e, ← Nat.pow_add]; congr 1; omega
theorem four_dn {f : Nat} (hf : f < 1048576) : 2 ^ (62 * 2 ^ 20 + f) ≤ (4 * pw g f + 25165824) ^ 2 ^ 20 := by
  have h := pw_dn hg hf
  generalize pw g f = x at *
  have e3 : 4 * x + 25165824 = 4 * (x + 6291456) := by omega
  rw [e3]
  generalize (2 : Nat) ^ 20 = N at *
  rw [Nat.mul_pow]
  calc 2 ^ (62 * N + f) = 4 ^ N * 2 ^ (60 * N + f) := by
        have e : (4 : Nat) ^ N = 2 ^ (2 * N) := by rw [Nat.pow_mul]
        rw [e, ← Nat.pow_add]; congr 1; omega
    _ ≤ 4 ^ N * (x + 6291456) ^ N := Nat.mul_le_mul_left _ h
/-- The power of a logarithm is not above the number. -/
theorem back_le {m : Nat} (h : In m) : 4 * pw g (lg 20 m) ≤ m := by
  have a := four_up hg (lg_lt 20 m)
  have b := lg_le 20 m h
  exact pow_le_of (Nat.ne_of_gt (Nat.two_pow_pos 20)) (Nat.le_trans a b)
/-- The logarithm of a power is not above what it was a power of. -/
theorem log_le {f m : Nat} (hf : f < 1048576) (h : In m) (hm : m ≤ 4 * pw g f) : lg 20 m ≤ f := by
  have a := four_up hg hf
  have b := lg_le 20 m h
  have c := Nat.pow_le_pow_left hm (2 ^ 20)
  have d := Nat.le_trans b (Nat.le_trans c a)
  exact exp_le_of d
/-- .. and below it by no more than three parts. -/
theorem log_ge {f m : Nat} (hf : f < 1048576) (h : In m) (hm : 4 * pw g f < m + 4398046511104) : f ≤ lg 20 m + 3 := by
  apply Nat.le_of_not_lt
  intro hc
  have a := four_dn hg hf
  have b := lg_ge 20 m 0 h (by decide)
  have m0 := h.1
  have m1 := h.2
  have p0 := pw_ge hg f
  generalize hx : pw g f = x at *
  generalize hl : lg 20 m = l at *
  clear hx hl
  -- m + e is what the power is near to
  obtain ⟨e, he⟩ : ∃ e, e = 4398046511104 + 25165824 := ⟨_, rfl⟩
  have hle : 4 * x + 25165824 ≤ m + e := by clear a b; omega
  obtain ⟨N, hN⟩ : ∃ N : Nat, N = 2 ^ 20 := ⟨_, rfl⟩
  rw [← hN] at a b
  have c : (4 * x + 25165824) ^ N ≤ (m + e) ^ N := Nat.pow_le_pow_left hle _
  have b2 : m ^ N * 2 ^ 62 ≤ 2 ^ (62 * N + l) * 2 ^ 64 := by
    refine Nat.le_trans b (Nat.mul_le_mul_left _ (by decide))
  obtain ⟨K, hK⟩ : ∃ K : Nat, K = 262144 := ⟨_, rfl⟩
  have hNK : N = K * 4 := by subst hN hK; rfl
  -- 4 * m ^ N ≤ (m + e) ^ N
  have d1 : 4 * m ^ N ≤ (m + e) ^ N := by
    have k1 : 2 ^ (62 * N + l) * 16 ≤ 2 ^ (62 * N + f) := by
      rw [show (16 : Nat) = 2 ^ 4 by decide, ← Nat.pow_add]
      exact Nat.pow_le_pow_right (by decide) (by omega)
    have k2 := Nat.le_trans k1 (Nat.le_trans a c)
    generalize 2 ^ (62 * N + l) = y at *
    generalize (m + e) ^ N = z at *
    generalize m ^ N = w at *
    omega
  have d2 := bern_dn m e K
  -- so much is left of m + e
  have d3 : 5 * (m + e) ^ K ≤ 7 * m ^ K := by
    have k1 : 7 * (K * e) ≤ 2 * (m + e) := by
      have : K * e = 262144 * 4398071676928 := by rw [hK, he]
      omega
    have k2 := Nat.mul_le_mul_right ((m + e) ^ K) k1
    have e1 : 7 * (K * e) * (m + e) ^ K = 7 * (K * e * (m + e) ^ K) := Nat.mul_assoc _ _ _
    have e2 : 2 * (m + e) * (m + e) ^ K = 2 * ((m + e) ^ K * (m + e)) := by rw [Nat.mul_assoc, Nat.mul_comm (m + e)]
    refine Nat.le_of_mul_le_mul_right (c := m + e) ?_ (by omega)
    have e3 : 5 * (m + e) ^ K * (m + e) = 5 * ((m + e) ^ K * (m + e)) := Nat.mul_assoc _ _ _
    have e4 : 7 * m ^ K * (m + e) = 7 * ((m + e) * m ^ K) := by rw [Nat.mul_assoc, Nat.mul_comm (m + e)]
    rw [e3, e4]
    rw [e1, e2] at k2
    omega
  have d4 := Nat.pow_le_pow_left d3 4
  rw [Nat.mul_pow, Nat.mul_pow, ← Nat.pow_mul, ← Nat.pow_mul, ← hNK] at d4
  have d5 : 0 < m ^ N := Nat.pow_pos (by omega)
  have e5 : (5 : Nat) ^ 4 = 625 := by decide
  have e7 : (7 : Nat) ^ 4 = 2401 := by decide
  rw [e5, e7] at d4
  generalize (m + e) ^ N = z at *
  generalize m ^ N = w at *
  omega
/-- The power of a logarithm is below the number by no more than its 1048576th part. -/
theorem back_ge {m : Nat} (h : In m) : 1048575 * m ≤ 4194304 * pw g (lg 20 m) := by
  apply Nat.le_of_not_lt
  intro hc
  have a := four_dn hg (lg_lt 20 m)
  have b := lg_ge 20 m 0 h (by decide)
  have m0 := h.1
  have m1 := h.2
  have p0 := pw_ge hg (lg 20 m)
  generalize hx : pw g (lg 20 m) = x at *
  generalize hl : lg 20 m = l at *
  clear hx hl
  obtain ⟨A, hA⟩ : ∃ A, A = 4 * x + 25165824 := ⟨_, rfl⟩
  obtain ⟨e, he⟩ : ∃ e, m = A + e := ⟨m - A, by omega⟩
  obtain ⟨K, hK⟩ : ∃ K : Nat, K = 524288 := ⟨_, rfl⟩
  obtain ⟨N, hN⟩ : ∃ N : Nat, N = 2 ^ 20 := ⟨_, rfl⟩
  rw [← hA, ← hN] at a
  have b2 : m ^ N * 2 ^ 62 ≤ 2 ^ (62 * N + l) * (9223372036854775808 + 95367431640625) := by
    rw [← hN] at b
    exact Nat.le_trans b (Nat.mul_le_mul_left _ (by decide))
  have hNK : N = K * 2 := by subst hN hK; rfl
  have d1 : 100 * m ^ N ≤ 201 * A ^ N := by
    have k := Nat.mul_le_mul_right (9223372036854775808 + 95367431640625) a
    generalize 2 ^ (62 * N + l) = y at *
    generalize m ^ N = w at *
    generalize A ^ N = z at *
    omega
  have d2 := bern_up A e K
  rw [← he] at d2
  have d3 : 29 * A ^ K ≤ 20 * m ^ K := by
    have k1 : 29 * A ≤ 20 * (A + K * e) := by rw [hK]; omega
    have k2 := Nat.mul_le_mul_left (A ^ K) k1
    refine Nat.le_of_mul_le_mul_right (c := A) ?_ (by omega)
    have e1 : 29 * A ^ K * A = A ^ K * (29 * A) := by rw [Nat.mul_comm 29, Nat.mul_assoc]
    have e2 : 20 * m ^ K * A = 20 * (A * m ^ K) := by rw [Nat.mul_assoc, Nat.mul_comm A]
    have e3 : A ^ K * (20 * (A + K * e)) = 20 * (A ^ K * (A + K * e)) := Nat.mul_left_comm _ _ _
    rw [e1, e2]
    rw [e3] at k2
    omega
  have d4 := Nat.pow_le_pow_left d3 2
  rw [Nat.mul_pow, Nat.mul_pow, ← Nat.pow_mul, ← Nat.pow_mul, ← hNK] at d4
  have d5 : 0 < A ^ N := Nat.pow_pos (by omega)
  have e5 : (29 : Nat) ^ 2 = 841 := by decide
  have e7 : (20 : Nat) ^ 2 = 400 := by decide
  rw [e5, e7] at d4
  generalize A ^ N = z at *
  generalize m ^ N = w at *
  omega
end
end Go.Proofs.Ee
