/- Logarithm and power grow; factors fall, and are never below 1. -/
import Derived.Test.YtpfhlimcemkneaaPx7
import Derived.Test.YtpfhlimcemkneaaEt
set_option linter.unusedVariables false
set_option linter.unusedSimpArgs false
namespace Go.Proofs.Ytpfhlimcemkneaa.Pure
open Go.RowKit Go.Proofs.Th Go.Proofs.Ee Go.Proofs.YtpfhlimcemkneaaW.PrintWords Go.Proofs.YtpfhlimcemkneaaW.PrintMore Go.Proofs.Ytpfhlimcemkneaa.P
theorem ExpoGrows : P.pacemakerlaw04_ExpoGrows.Pure := by
  intro a b w0 w1
  refine ⟨200, ?_⟩
  unfold P.pacemakerlaw04_ExpoGrows.f
  by_cases h : a > b
  · rw [if_pos h, powered_eq 200 (by decide)]; rfl
  · rw [if_neg h, powered_eq 200 (by decide)]
    simp only [Option.bind_some]
    rw [if_pos trivial, Log2_eq 200 (by decide), Log2_eq 200 (by decide)]
    simp only [Option.bind_some]
    rw [if_pos (L_mono (by omega)), Exp2_eq 200 (by decide), Exp2_eq 200 (by decide)]
    simp only [Option.bind_some]
    rw [if_pos (E_mono (by omega)), Factor_eq 200 (by decide), Factor_eq 200 (by decide)]
    simp only [Option.bind_some]
    have f1 := fa_mono hrt (j := (max 0 (min a 20)).toNat) (k := (max 0 (min b 20)).toNat) (by omega)
    have f2 := fa_gt hrt (max 0 (min b 20)).toNat (30 - (max 0 (min b 20)).toNat) (by omega)
    have f3 : 0 < 4 ^ (30 - (max 0 (min b 20)).toNat) := Nat.pow_pos (by decide)
    rw [if_pos (by omega), if_pos (by omega), decide_eq_true (E_nn a)]
end Go.Proofs.Ytpfhlimcemkneaa.Pure
