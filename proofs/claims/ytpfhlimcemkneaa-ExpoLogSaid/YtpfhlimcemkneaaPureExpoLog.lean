/- The logarithm of a power of 0 to 42 is the number, or at most three parts less. -/
import Derived.Test.YtpfhlimcemkneaaPx9
import Derived.Test.YtpfhlimcemkneaaEt
set_option linter.unusedVariables false
set_option linter.unusedSimpArgs false
namespace Go.Proofs.Ytpfhlimcemkneaa.Pure
open Go.RowKit Go.Proofs.Th Go.Proofs.Ee Go.Proofs.YtpfhlimcemkneaaW.PrintWords Go.Proofs.YtpfhlimcemkneaaW.PrintMore Go.Proofs.Ytpfhlimcemkneaa.P
theorem log_j0t {a : Int} (k : Nat) (hk : 120 ≤ k) : P.pacemakerlaw04_ExpoLog.j0 k a true = some true := by
  obtain ⟨k, rfl⟩ : ∃ n, k = n + 1 := ⟨k - 1, by omega⟩
  simp only [P.pacemakerlaw04_ExpoLog.j0]
  rw [if_pos trivial, powered_eq k (by omega)]
  rfl
theorem log_j0 {a : Int} (k : Nat) (hk : 120 ≤ k) (h0 : 0 ≤ a) (h1 : a ≤ 44040192) : P.pacemakerlaw04_ExpoLog.j0 k a false = some true := by
  obtain ⟨k, rfl⟩ : ∃ n, k = n + 1 := ⟨k - 1, by omega⟩
  have hb : L (E a) ≤ a ∧ a ≤ L (E a) + 3 := by
    by_cases ht : a = 44040192
    · subst ht
      have e : L (E 44040192) = 44040192 := by
        rw [E_high (by decide)]
        decide +kernel
      rw [e]
      decide
    · exact forth h0 (by omega)
  simp only [P.pacemakerlaw04_ExpoLog.j0]
  rw [if_neg (by decide), Exp2_eq k (by omega)]
  simp only [Option.bind_some]
  rw [Log2_eq k (by omega)]
  simp only [Option.bind_some]
  rw [powered_eq k (by omega)]
  simp only [Option.bind_some]
  rw [if_pos trivial, if_pos hb.1, wrap64_id (x := a - 3) (by omega) (by omega), decide_eq_true (by omega)]
theorem ExpoLog : P.pacemakerlaw04_ExpoLog.Pure := by
  intro a w0
  refine ⟨200, ?_⟩
  unfold P.pacemakerlaw04_ExpoLog.f
  by_cases h : a < 0
  · rw [if_pos h]; exact log_j0t 200 (by decide)
  · rw [if_neg h]
    by_cases h2 : a > 44040192
    · rw [decide_eq_true h2]; exact log_j0t 200 (by decide)
    · rw [decide_eq_false h2]; exact log_j0 200 (by decide) (by omega) (by omega)
end Go.Proofs.Ytpfhlimcemkneaa.Pure
