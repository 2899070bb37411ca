/- Twice as great a number has a logarithm greater by 1; the power of 1 more is twice as great, or one part more. -/
import Derived.Test.YtpfhlimcemkneaaPx10
import Derived.Test.YtpfhlimcemkneaaEt
set_option linter.unusedVariables false
set_option linter.unusedSimpArgs false
namespace Go.Proofs.Ytpfhlimcemkneaa.Pure
open Go.RowKit Go.Proofs.Th Go.Proofs.Ee Go.Proofs.YtpfhlimcemkneaaW.PrintWords Go.Proofs.YtpfhlimcemkneaaW.PrintMore Go.Proofs.Ytpfhlimcemkneaa.P
theorem doubles_j1 {a : Int} (k : Nat) (hk : 120 ≤ k) (h : ¬ (a < -22020096 ∨ a ≥ 42991616)) : P.pacemakerlaw04_ExpoDoubles.j1 k a false = some true := by
  obtain ⟨k, rfl⟩ : ∃ n, k = n + 1 := ⟨k - 1, by omega⟩
  simp only [P.pacemakerlaw04_ExpoDoubles.j1]
  have e0 := E_nn a
  have e1 := E_nn (a + 1048576)
  have e2 := E_le (a + 1048576)
  have e3 : 2 * E a ≤ E (a + 1048576) := by rcases E_double (a := a) (by omega) (by omega) with h | h <;> omega
  rw [if_neg (by decide), Exp2_eq k (by omega), wrap64_id (x := a + 1048576) (by omega) (by omega)]
  simp only [Option.bind_some]
  rw [Exp2_eq k (by omega)]
  simp only [Option.bind_some]
  rw [powered_eq k (by omega)]
  simp only [Option.bind_some]
  rw [if_pos trivial, wrap64_id (x := 2 * E a) (by omega) (by omega)]
  rcases E_double (a := a) (by omega) (by omega) with h | h
  · rw [if_pos h]
  · rw [if_neg (by omega), wrap64_id (x := 2 * E a + 1) (by omega) (by omega), h]
    simp
theorem doubles_j1t {a : Int} (k : Nat) (hk : 120 ≤ k) : P.pacemakerlaw04_ExpoDoubles.j1 k a true = some true := by
  obtain ⟨k, rfl⟩ : ∃ n, k = n + 1 := ⟨k - 1, by omega⟩
  simp only [P.pacemakerlaw04_ExpoDoubles.j1]
  rw [if_pos trivial, powered_eq k (by omega)]
  rfl
theorem doubles_j0 {a : Int} (k : Nat) (hk : 121 ≤ k) : P.pacemakerlaw04_ExpoDoubles.j0 k a false = some true := by
  obtain ⟨k, rfl⟩ : ∃ n, k = n + 1 := ⟨k - 1, by omega⟩
  simp only [P.pacemakerlaw04_ExpoDoubles.j0]
  rw [if_neg (by decide)]
  by_cases h1 : a < -22020096
  · rw [if_pos h1]; exact doubles_j1t k (by omega)
  · rw [if_neg h1]
    by_cases h2 : a ≥ 42991616
    · rw [decide_eq_true h2]; exact doubles_j1t k (by omega)
    · rw [decide_eq_false h2]; exact doubles_j1 k (by omega) (by omega)
theorem ExpoDoubles : P.pacemakerlaw04_ExpoDoubles.Pure := by
  intro a w0
  refine ⟨200, ?_⟩
  unfold P.pacemakerlaw04_ExpoDoubles.f
  by_cases h0 : a > 0
  · rw [if_pos h0]
    by_cases h1 : a ≤ 2305843009213693952
    · rw [if_pos h1, wrap64_id (x := 2 * a) (by omega) (by omega), Log2_eq 200 (by decide), Log2_eq 200 (by decide)]
      simp only [Option.bind_some]
      have b := Lg_bounds (c := min a 4611686018427387904) (by omega) (by omega)
      have e : L a = Lg (min a 4611686018427387904) := by unfold L; rw [if_neg (by omega)]
      rw [wrap64_id (x := L a + 1048576) (by omega) (by omega), L_double h0 h1]
      have e2 : (L a + 1048576 != L a + 1048576) = false := by simp
      rw [e2]
      exact doubles_j0 200 (by decide)
    · rw [if_neg h1]; exact doubles_j0 200 (by decide)
  · rw [if_neg h0]; exact doubles_j0 200 (by decide)
end Go.Proofs.Ytpfhlimcemkneaa.Pure
