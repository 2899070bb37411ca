/- Of whole numbers logarithm and power are exact. -/
import Derived.Test.YtpfhlimcemkneaaPx12
import Derived.Test.YtpfhlimcemkneaaPx11
import Derived.Test.YtpfhlimcemkneaaEt
set_option linter.unusedVariables false
set_option linter.unusedSimpArgs false
namespace Go.Proofs.Ytpfhlimcemkneaa.Pure
open Go.RowKit Go.Proofs.Th Go.Proofs.Ee Go.Proofs.YtpfhlimcemkneaaW.PrintWords Go.Proofs.YtpfhlimcemkneaaW.PrintMore Go.Proofs.Ytpfhlimcemkneaa.P
theorem of_eq (a : Int) : fix_Of.f a = some (max (-4398046511104) (min a 4398046511104) * 1048576) := by
  unfold fix_Of.f mx mn
  congr 1
  have e : (if (-4398046511104 : Int) < (if a < 4398046511104 then a else 4398046511104) then (if a < 4398046511104 then a else 4398046511104) else -4398046511104) = max (-4398046511104) (min a 4398046511104) := by
    split <;> split <;> omega
  first
    | (rw [e])
    | (congr 1; omega)
theorem whole_tab : ∀ j : Fin 63, L (2 ^ j.val) = ((j.val : Int) - 20) * 1048576 ∧ shl .i64 1 (j.val : Int) = 2 ^ j.val ∧ (j.val < 62 → 2305843009213693952 / 2 ^ (61 - j.val) = 2 ^ j.val) := by decide +kernel
theorem E_whole {j : Nat} (hj : j ≤ 62) : E (((j : Int) - 20) * 1048576) = 2 ^ j := by
  by_cases h : j = 62
  · subst h
    rw [E_high (by decide)]
    decide
  · rw [E_main (by omega) (by omega)]
    have e1 : ((j : Int) - 20) * 1048576 % 1048576 = 0 := by omega
    have e2 : ((j : Int) - 20) * 1048576 / 1048576 = (j : Int) - 20 := by omega
    have e3 : (41 - ((j : Int) - 20)).toNat = 61 - j := by omega
    rw [e1, e2, e3]
    unfold pw
    rw [ex_zero rt 20 _ _ _ (by decide)]
    have t := (whole_tab ⟨j, by omega⟩).2.2 (by show j < 62; omega)
    have e4 : 1152921504606846976 * 2 = 2305843009213693952 := by decide
    rw [e4]
    have t2 : 2305843009213693952 / 2 ^ (61 - j) = 2 ^ j := t
    rw [t2]
    simp
theorem whole_j0 {n : Int} (k : Nat) (hk : 120 ≤ k) (h : ¬ (n < -20 ∨ n > 42)) : P.pacemakerlaw04_ExpoWhole.j0 k n false = some true := by
  obtain ⟨k, rfl⟩ : ∃ n, k = n + 1 := ⟨k - 1, by omega⟩
  obtain ⟨j, hj⟩ : ∃ j : Nat, (j : Int) = n + 20 := ⟨(n + 20).toNat, by omega⟩
  have t := whole_tab ⟨j, by omega⟩
  have t1 : L (2 ^ j) = ((j : Int) - 20) * 1048576 := t.1
  have t2 : shl .i64 1 (j : Int) = 2 ^ j := t.2.1
  have en : max (-4398046511104) (min n 4398046511104) * 1048576 = ((j : Int) - 20) * 1048576 := by omega
  simp only [P.pacemakerlaw04_ExpoWhole.j0]
  rw [if_neg (by decide), wrap64_id (x := n + 20) (by omega) (by omega), if_pos (by omega), powered_eq k (by omega), of_eq, en, ← hj, t2]
  simp only [Option.bind_some]
  rw [if_pos trivial, Exp2_eq k (by omega), Log2_eq k (by omega), E_whole (by omega), t1]
  simp
theorem whole_j0t {n : Int} (k : Nat) (hk : 120 ≤ k) (h : n < -20 ∨ n > 42) : P.pacemakerlaw04_ExpoWhole.j0 k n true = some true := by
  obtain ⟨k, rfl⟩ : ∃ n, k = n + 1 := ⟨k - 1, by omega⟩
  simp only [P.pacemakerlaw04_ExpoWhole.j0]
  rw [if_pos trivial, powered_eq k (by omega), of_eq]
  simp only [Option.bind_some]
  rw [if_pos trivial]
  by_cases c : n < -20
  · rw [if_pos c, Exp2_eq k (by omega), E_low (by omega)]
    simp
  · rw [if_neg c, if_pos (by omega), Exp2_eq k (by omega), E_high (by omega)]
    simp
theorem ExpoWhole : P.pacemakerlaw04_ExpoWhole.Pure := by
  intro n w0
  refine ⟨200, ?_⟩
  unfold P.pacemakerlaw04_ExpoWhole.f
  by_cases h : n < -20
  · rw [if_pos h]; exact whole_j0t 200 (by decide) (.inl h)
  · rw [if_neg h]
    by_cases h2 : n > 42
    · rw [decide_eq_true h2]; exact whole_j0t 200 (by decide) (.inr h2)
    · rw [decide_eq_false h2]; exact whole_j0 200 (by decide) (by omega)
end Go.Proofs.Ytpfhlimcemkneaa.Pure
