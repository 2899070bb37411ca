/- What is added is taken away again, whatever goes over; sums hang on no order. -/
import Derived.Test.YtlmjghmofgmofaaPx17
import Derived.Test.YtlmjghmofgmofaaSb
set_option linter.unusedVariables false
set_option linter.unusedSimpArgs false
namespace Go.Proofs.Ytlmjghmofgmofaa.Pure
open Go.RowKit Go.Proofs.Th Go.Proofs.YtlmjghmofgmofaaW.PrintWords Go.Proofs.YtlmjghmofgmofaaW.PrintMore Go.Proofs.Ytlmjghmofgmofaa.P
theorem add_mod_l (a b m : Int) : (a % m + b) % m = (a + b) % m := Int.emod_add_emod a m b
theorem WideBack (a0 a1 b0 b1 c0 c1 : Int) (w0 : (Lit.int .u64 a0).wf = true) (w1 : (Lit.int .u64 a1).wf = true) (w2 : (Lit.int .u64 b0).wf = true) (w3 : (Lit.int .u64 b1).wf = true) (w4 : (Lit.int .u64 c0).wf = true) (w5 : (Lit.int .u64 c1).wf = true) :
    ∃ k, P.pacemakerlaw01_WideBack.f k a0 a1 b0 b1 c0 c1 = some true := by
  obtain ⟨h0, h1⟩ := wf_u64 w0
  obtain ⟨l0, l1⟩ := wf_u64 w1
  obtain ⟨x0, x1⟩ := wf_u64 w2
  obtain ⟨y0, y1⟩ := wf_u64 w3
  obtain ⟨u0, u1⟩ := wf_u64 w4
  obtain ⟨v0, v1⟩ := wf_u64 w5
  refine ⟨1000, ?_⟩
  have A0 := W_nn h0 l0; have A1 := W_lt h1 l1
  have B0 := W_nn x0 y0; have B1 := W_lt x1 y1
  have C0 := W_nn u0 v0; have C1 := W_lt u1 v1
  have hA := hi_W (h := a0) l0 l1
  have lA := lo_W (h := a0) l0 l1
  have X0 : 0 ≤ (W a0 a1 + W b0 b1) % 340282366920938463463374607431768211456 := by omega
  have X1 : (W a0 a1 + W b0 b1) % 340282366920938463463374607431768211456 < 340282366920938463463374607431768211456 := by omega
  have S0 : 0 ≤ (W b0 b1 + W c0 c1) % 340282366920938463463374607431768211456 := by omega
  have S1 : (W b0 b1 + W c0 c1) % 340282366920938463463374607431768211456 < 340282366920938463463374607431768211456 := by omega
  unfold P.pacemakerlaw01_WideBack.f
  rw [wide_Add_eq h0 h1 l0 l1 x0 x1 y0 y1]
  simp only [Option.bind_some]
  rw [wide_Sub_eq (hi_nn X0) (hi_lt X1) (lo_nn _) (lo_lt _) x0 x1 y0 y1, wide_Add_eq x0 x1 y0 y1 h0 h1 l0 l1, wide_Add_eq (hi_nn X0) (hi_lt X1) (lo_nn _) (lo_lt _) u0 u1 v0 v1, wide_Add_eq x0 x1 y0 y1 u0 u1 v0 v1]
  simp only [Option.bind_some]
  rw [wide_Add_eq h0 h1 l0 l1 (hi_nn S0) (hi_lt S1) (lo_nn _) (lo_lt _), broad_eq 1000 (by decide), wide_Cmp_eq (lo_nn _) (lo_lt _) l0 l1]
  simp only [Option.bind_some, if_true, W_hl]
  generalize W a0 a1 = a at *
  generalize W b0 b1 = b at *
  generalize W c0 c1 = c at *
  have e1 : ((a + b) % 340282366920938463463374607431768211456 - b) % 340282366920938463463374607431768211456 = a := by omega
  have e2 : (if (a + b) % 340282366920938463463374607431768211456 < b then (1 : Int) else 0) = (a + b) / 340282366920938463463374607431768211456 := by split <;> omega
  have e3 : b + a = a + b := by omega
  have e4 : ((a + b) % 340282366920938463463374607431768211456 + c) % 340282366920938463463374607431768211456 = (a + (b + c) % 340282366920938463463374607431768211456) % 340282366920938463463374607431768211456 := by omega
  rw [e1, e2, e3, e4, hA, lA]
  simp only [if_true, beq_self_eq_true, Bool.and_self]
  by_cases ho : a + b < 340282366920938463463374607431768211456
  · rw [Int.ediv_eq_zero_of_lt (by omega) ho, Int.emod_eq_of_lt (by omega) ho]
    by_cases hb : b = 0
    · subst hb; simp
    · rw [if_neg (by omega), if_pos (by omega)]; rfl
  · rw [show (a + b) / 340282366920938463463374607431768211456 = 1 by omega, if_pos (by omega)]; rfl
end Go.Proofs.Ytlmjghmofgmofaa.Pure
