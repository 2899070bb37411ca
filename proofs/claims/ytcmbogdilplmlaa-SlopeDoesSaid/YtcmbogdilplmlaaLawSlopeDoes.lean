/- The row of pacemaker/pacemakerlaw10.SlopeDoes: for every input that the row's conditions let in the law returns true, and each argument reads as it did. Out of the pure statement and the printed walk. -/
import Derived.Test.YtcmbogdilplmlaaRows
import Derived.Test.YtcmbogdilplmlaaPx15
import Derived.Test.YtcmbogdilplmlaaPureSlopeDoes
import Derived.WalkKit
import Derived.ProofKit
import Derived.OpenShut
import Derived.ShutString
import Derived.ChangeOld
import Derived.Below
import Derived.SizedLaws
import Derived.Lib.SmallJoins
import Derived.Test.YtcmbogdilplmlaaSlMi
namespace Go.Proofs.Ytcmbogdilplmlaa.slopeDoes
open Go.ChangeShapes Go.WideShapes Go.ChangeAt Go.RowKit Go.Joins
open Go.ChangeMaps (open_string shut_string)
set_option linter.unusedVariables false
set_option linter.unusedSimpArgs false
theorem own : ownKnob Try.prog.godebug = none := by kernel_rfl
theorem laidOut : laidOutB Try.prog = true := by kernel_rfl
theorem cells29 : Try.prog.cellsOf 29 = 15 := by kernel_rfl
set_option maxRecDepth 100000 in
theorem lifted (os : Os) (started : os.Started) (H : Type) (enc : TypeId × Value → H) :
    ReturnsInHanded {} Try.checked os 4 .any (Rows.slopeDoesSpec.pre6 enc Try.prog Try.f4 Rows.slopeDoesRow.domain false) (Rows.slopeDoesSpec.post enc Try.prog Try.f4 false true false false) := by
  refine returnsInHanded_of_change_sized (C := Try.checked) own started (by kernel_rfl) Try.func4
    (ChangeSpec.witness6 (enc := enc) (C := Try.checked) false ⟨#[], #[.agg #[.int .i64 0, .int .i64 0, .int .i64 0, .int .i64 0, .int .i64 0, .int .i64 0, .int .i64 0, .int .i64 0, .int .i64 0, .int .i64 0, .int .i64 0, .int .i64 0, .int .i64 0, .int .i64 0, .int .i64 0]], []⟩ 8 (by kernel_rfl) (by kernel_rfl) (by kernel_rfl) (by kernel_rfl)) ?_
  intro W base args ds gs before hval0 hW hcnd hsz0 _
  have hval : ∀ (j : Nat) t v, Try.f4.params[j]? = some t → args[j]? = some v → Value.okWide Try.prog W .any base t v := hval0
  have hW' := hW
  obtain ⟨p, q, hA0, hV, rfl, hfz, hnd⟩ := hW
  have hA : DataW.TrodAll enc Try.prog W 0 (fun _ => true) true Try.f4.params.toList args.toList ds p := hA0
  rw [Try.params4] at hA hval
  obtain ⟨v0, vs0, d0, ds0, p0, q0, hargs, rfl, rfl, h0, r0⟩ := trodAll_cons hA
  obtain ⟨rfl, rfl, rfl⟩ := trodAll_nil r0
  obtain rfl : args = #[v0] := by cases args; simp_all
  obtain ⟨rfl, rfl⟩ := trodVars_none hV
  have k0 := h0
  have lt0 : ∀ x ∈ p0, x.block < W.heap.size := by obtain ⟨m, hm⟩ := k0; exact DataW.trod_lt m _ _ _ hm
  obtain ⟨c0_0, c0_1, c0_2, c0_3, c0_4, c0_5, c0_6, c0_7, c0_8, c0_9, c0_10, c0_11, c0_12, c0_13, c0_14, y0_0, y0_1, y0_2, y0_3, y0_4, y0_5, y0_6, y0_7, y0_8, y0_9, y0_10, y0_11, y0_12, y0_13, y0_14, m0, rfl, rfl, hy0_0, hy0_1, hy0_2, hy0_3, hy0_4, hy0_5, hy0_6, hy0_7, hy0_8, hy0_9, hy0_10, hy0_11, hy0_12, hy0_13, hy0_14⟩ := Go.Proofs.YtcmbogdilplmlaaX.open_agg15 Try.underlying29 (by kernel_rfl) cells29 (hval 0 29 v0 rfl rfl) h0
  obtain ⟨a0_0, e0_0, rfl, w0_0⟩ := DataW.trod_int Try.underlying3 hy0_0
  simp at e0_0
  subst e0_0
  obtain ⟨a0_1, e0_1, rfl, w0_1⟩ := DataW.trod_int Try.underlying3 hy0_1
  simp at e0_1
  subst e0_1
  obtain ⟨a0_2, e0_2, rfl, w0_2⟩ := DataW.trod_int Try.underlying3 hy0_2
  simp at e0_2
  subst e0_2
  obtain ⟨a0_3, e0_3, rfl, w0_3⟩ := DataW.trod_int Try.underlying3 hy0_3
  simp at e0_3
  subst e0_3
  obtain ⟨a0_4, e0_4, rfl, w0_4⟩ := DataW.trod_int Try.underlying3 hy0_4
  simp at e0_4
  subst e0_4
  obtain ⟨a0_5, e0_5, rfl, w0_5⟩ := DataW.trod_int Try.underlying3 hy0_5
  simp at e0_5
  subst e0_5
  obtain ⟨a0_6, e0_6, rfl, w0_6⟩ := DataW.trod_int Try.underlying3 hy0_6
  simp at e0_6
  subst e0_6
  obtain ⟨a0_7, e0_7, rfl, w0_7⟩ := DataW.trod_int Try.underlying3 hy0_7
  simp at e0_7
  subst e0_7
  obtain ⟨a0_8, e0_8, rfl, w0_8⟩ := DataW.trod_int Try.underlying3 hy0_8
  simp at e0_8
  subst e0_8
  obtain ⟨a0_9, e0_9, rfl, w0_9⟩ := DataW.trod_int Try.underlying3 hy0_9
  simp at e0_9
  subst e0_9
  obtain ⟨a0_10, e0_10, rfl, w0_10⟩ := DataW.trod_int Try.underlying3 hy0_10
  simp at e0_10
  subst e0_10
  obtain ⟨a0_11, e0_11, rfl, w0_11⟩ := DataW.trod_int Try.underlying3 hy0_11
  simp at e0_11
  subst e0_11
  obtain ⟨a0_12, e0_12, rfl, w0_12⟩ := DataW.trod_int Try.underlying3 hy0_12
  simp at e0_12
  subst e0_12
  obtain ⟨a0_13, e0_13, rfl, w0_13⟩ := DataW.trod_int Try.underlying3 hy0_13
  simp at e0_13
  subst e0_13
  obtain ⟨a0_14, e0_14, rfl, w0_14⟩ := DataW.trod_int Try.underlying3 hy0_14
  simp at e0_14
  subst e0_14
  clear hA0 hval0 hsz0
  obtain ⟨k, h⟩ := Pure.SlopeDoes a0_0 a0_1 a0_2 a0_3 a0_4 a0_5 a0_6 a0_7 a0_8 a0_9 a0_10 a0_11 a0_12 a0_13 a0_14 w0_0 w0_1 w0_2 w0_3 w0_4 w0_5 w0_6 w0_7 w0_8 w0_9 w0_10 w0_11 w0_12 w0_13 w0_14
  refine (P.pacemakerlaw10_SlopeDoes.calls k a0_0 a0_1 a0_2 a0_3 a0_4 a0_5 a0_6 a0_7 a0_8 a0_9 a0_10 a0_11 a0_12 a0_13 a0_14 true W h).mono fun e W' ⟨he, bel0⟩ => ?_
  have bel : Below W.heap.size W W' := bel0
  subst he
  exact ⟨_, rfl, _, _, _, [], _, [], hW', trodAll_mk1 (shut_bool Try.underlying4 _), (trodAll_cons_mk (Below.trod laidOut (by kernel_rfl) (of_decide_eq_true (by kernel_rfl)) k0 bel lt0) trodAll_mk0), rfl, bel.frame _, fun h => by cases h⟩
theorem over : Rows.slopeDoesRow.holds Try.pinned (OpenSpec.ofChange Rows.slopeDoesSpec) :=
  OpenClaim.holds_of_wide 4 Try.f4 rfl rfl rfl rfl rfl rfl rfl ⟨rfl, rfl, rfl, rfl, rfl⟩ rfl rfl rfl rfl rfl (by kernel_rfl) Try.func4 (by kernel_rfl)
    (of_decide_eq_true (by kernel_rfl)) (by unfold Func.isWrapper; first | (rw [if_pos (by decide +kernel)]; kernel_rfl) | (rw [if_neg (by decide +kernel)]; exact ⟨rfl, rfl⟩))
    (fun os started H enc _ => lifted os started H enc)
theorem proved : Rows.SlopeDoesSaid := over
#print axioms proved
end Go.Proofs.Ytcmbogdilplmlaa.slopeDoes
namespace Go.Proofs.Ytcmbogdilplmlaa
/-- The row, under a short name, for the claim. -/
theorem slopeDoes_holds : Rows.SlopeDoesSaid := slopeDoes.proved
end Go.Proofs.Ytcmbogdilplmlaa
