/- The row of pacemaker/pacemakerlaw10.SlopeRatios: for every input that the row's conditions let in the law returns true, and each argument reads as it did. Out of the pure statement and the printed walk. -/
import Derived.Test.YtcmbogdilplmlaaRows
import Derived.Test.YtcmbogdilplmlaaPx9
import Derived.Test.YtcmbogdilplmlaaPureSlopeRatios
import Derived.WalkKit
import Derived.ProofKit
import Derived.OpenShut
import Derived.ShutString
import Derived.ChangeOld
import Derived.Below
import Derived.SizedLaws
import Derived.Lib.SmallJoins
namespace Go.Proofs.Ytcmbogdilplmlaa.slopeRatios
open Go.ChangeShapes Go.WideShapes Go.ChangeAt Go.RowKit Go.Joins
open Go.ChangeMaps (open_string shut_string)
set_option linter.unusedVariables false
set_option linter.unusedSimpArgs false
theorem own : ownKnob Try.prog.godebug = none := by kernel_rfl
theorem cells24 : Try.prog.cellsOf 24 = 2 := by kernel_rfl
theorem shut24 {H : Type} {enc : TypeId × Value → H} {a0 a1 : Int} (w0 : (Lit.int .u64 a0).wf = true) (w1 : (Lit.int .u64 a1).wf = true) (W' : World) (sp : Nat → Bool) : DataW.Trod enc Try.prog W' 0 sp true 24 (.agg #[.int .u64 a0, .int .u64 a1]) (.agg [.lit (.int .u64 a0), .lit (.int .u64 a1)]) [] :=
  shut_agg2 (y0 := (.lit (.int .u64 a0), [])) (y1 := (.lit (.int .u64 a1), [])) Try.underlying24 (by kernel_rfl) cells24 ⟨1, by simp [DataW.trod, Try.underlying22, w0]⟩ ⟨1, by simp [DataW.trod, Try.underlying22, w1]⟩
set_option maxRecDepth 100000 in
theorem lifted (os : Os) (started : os.Started) (H : Type) (enc : TypeId × Value → H) :
    ReturnsInHanded {} Try.checked os 3 .any (Rows.slopeRatiosSpec.pre6 enc Try.prog Try.f3 Rows.slopeRatiosRow.domain false) (Rows.slopeRatiosSpec.post enc Try.prog Try.f3 false true false false) := by
  refine returnsInHanded_of_change_sized (C := Try.checked) own started (by kernel_rfl) Try.func3
    (ChangeSpec.witness6 (enc := enc) (C := Try.checked) false ⟨#[], #[.agg #[.int .u64 0, .int .u64 0], .agg #[.int .u64 0, .int .u64 0]], []⟩ 8 (by kernel_rfl) (by kernel_rfl) (by kernel_rfl) (by kernel_rfl)) ?_
  intro W base args ds gs before hval0 hW hcnd hsz0 _
  have hval : ∀ (j : Nat) t v, Try.f3.params[j]? = some t → args[j]? = some v → Value.okWide Try.prog W .any base t v := hval0
  have hW' := hW
  obtain ⟨p, q, hA0, hV, rfl, hfz, hnd⟩ := hW
  have hA : DataW.TrodAll enc Try.prog W 0 (fun _ => true) true Try.f3.params.toList args.toList ds p := hA0
  rw [Try.params3] at hA hval
  obtain ⟨v0, vs0, d0, ds0, p0, q0, hargs, rfl, rfl, h0, r0⟩ := trodAll_cons hA
  obtain ⟨v1, vs1, d1, ds1, p1, q1, rfl, rfl, rfl, h1, r1⟩ := trodAll_cons r0
  obtain ⟨rfl, rfl, rfl⟩ := trodAll_nil r1
  obtain rfl : args = #[v0, v1] := by cases args; simp_all
  obtain ⟨rfl, rfl⟩ := trodVars_none hV
  obtain ⟨c0_0, c0_1, y0_0, y0_1, m0, rfl, rfl, rfl, hy0_0, hy0_1⟩ := open_agg2 Try.underlying24 (by kernel_rfl) cells24 (hval 0 24 v0 rfl rfl) h0
  obtain ⟨a0_0, e0_0, rfl, w0_0⟩ := DataW.trod_int Try.underlying22 hy0_0
  simp at e0_0
  subst e0_0
  obtain ⟨a0_1, e0_1, rfl, w0_1⟩ := DataW.trod_int Try.underlying22 hy0_1
  simp at e0_1
  subst e0_1
  obtain ⟨c1_0, c1_1, y1_0, y1_1, m1, rfl, rfl, rfl, hy1_0, hy1_1⟩ := open_agg2 Try.underlying24 (by kernel_rfl) cells24 (hval 1 24 v1 rfl rfl) h1
  obtain ⟨a1_0, e1_0, rfl, w1_0⟩ := DataW.trod_int Try.underlying22 hy1_0
  simp at e1_0
  subst e1_0
  obtain ⟨a1_1, e1_1, rfl, w1_1⟩ := DataW.trod_int Try.underlying22 hy1_1
  simp at e1_1
  subst e1_1
  clear hA0 hval0 hsz0
  obtain ⟨k, h⟩ := Pure.SlopeRatios a0_0 a0_1 a1_0 a1_1 w0_0 w0_1 w1_0 w1_1
  refine (P.pacemakerlaw10_SlopeRatios.calls k a0_0 a0_1 a1_0 a1_1 true W h).mono fun e W' ⟨he, bel0⟩ => ?_
  have bel : Below W.heap.size W W' := bel0
  subst he
  exact ⟨_, rfl, _, _, _, [], _, [], hW', trodAll_mk1 (shut_bool Try.underlying4 _), (trodAll_cons_mk (shut24 w0_0 w0_1 _ _) (trodAll_cons_mk (shut24 w1_0 w1_1 _ _) trodAll_mk0)), rfl, bel.frame _, fun h => by cases h⟩
theorem over : Rows.slopeRatiosRow.holds Try.pinned (OpenSpec.ofChange Rows.slopeRatiosSpec) :=
  OpenClaim.holds_of_wide 3 Try.f3 rfl rfl rfl rfl rfl rfl rfl ⟨rfl, rfl, rfl, rfl, rfl⟩ rfl rfl rfl rfl rfl (by kernel_rfl) Try.func3 (by kernel_rfl)
    (of_decide_eq_true (by kernel_rfl)) (by unfold Func.isWrapper; first | (rw [if_pos (by decide +kernel)]; kernel_rfl) | (rw [if_neg (by decide +kernel)]; exact ⟨rfl, rfl⟩))
    (fun os started H enc _ => lifted os started H enc)
theorem proved : Rows.SlopeRatiosSaid := over
#print axioms proved
end Go.Proofs.Ytcmbogdilplmlaa.slopeRatios
namespace Go.Proofs.Ytcmbogdilplmlaa
/-- The row, under a short name, for the claim. -/
theorem slopeRatios_holds : Rows.SlopeRatiosSaid := slopeRatios.proved
end Go.Proofs.Ytcmbogdilplmlaa
