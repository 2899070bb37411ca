/- The row of pacemaker/pacemakerlaw03.RootBack: for every input that the row's conditions let in the law returns true, and each argument reads as it did. Out of the pure statement and the printed walk. -/
import Derived.Test.YtlmjghmofgmofaaRows
import Derived.Test.YtlmjghmofgmofaaPx26
import Derived.Test.YtlmjghmofgmofaaPureRootBack
import Derived.WalkKit
import Derived.ProofKit
import Derived.OpenShut
import Derived.ShutString
import Derived.ChangeOld
import Derived.Below
import Derived.SizedLaws
import Derived.Lib.SmallJoins
namespace Go.Proofs.Ytlmjghmofgmofaa.rootBack
open Go.ChangeShapes Go.WideShapes Go.ChangeAt Go.RowKit Go.Joins
open Go.ChangeMaps (open_string shut_string)
set_option linter.unusedVariables false
set_option linter.unusedSimpArgs false
theorem own : ownKnob Try.prog.godebug = none := by kernel_rfl
theorem cells24 : Try.prog.cellsOf 24 = 2 := by kernel_rfl
theorem shut24 {H : Type} {enc : TypeId × Value → H} {a0 a1 : Int} (w0 : (Lit.int .u64 a0).wf = true) (w1 : (Lit.int .u64 a1).wf = true) (W' : World) (sp : Nat → Bool) : DataW.Trod enc Try.prog W' 0 sp true 24 (.agg #[.int .u64 a0, .int .u64 a1]) (.agg [.lit (.int .u64 a0), .lit (.int .u64 a1)]) [] :=
  shut_agg2 (y0 := (.lit (.int .u64 a0), [])) (y1 := (.lit (.int .u64 a1), [])) Try.underlying24 (by kernel_rfl) cells24 ⟨1, by simp [DataW.trod, Try.underlying22, w0]⟩ ⟨1, by simp [DataW.trod, Try.underlying22, w1]⟩
set_option maxRecDepth 100000 in
theorem lifted (os : Os) (started : os.Started) (H : Type) (enc : TypeId × Value → H) :
    ReturnsInHanded {} Try.checked os 7 .any (Rows.rootBackSpec.pre6 enc Try.prog Try.f7 Rows.rootBackRow.domain false) (Rows.rootBackSpec.post enc Try.prog Try.f7 false true false false) := by
  refine returnsInHanded_of_change_sized (C := Try.checked) own started (by kernel_rfl) Try.func7
    (ChangeSpec.witness6 (enc := enc) (C := Try.checked) false ⟨#[], #[.int .u64 0, .agg #[.int .u64 0, .int .u64 0], .agg #[.int .u64 0, .int .u64 0]], []⟩ 8 (by kernel_rfl) (by kernel_rfl) (by kernel_rfl) (by kernel_rfl)) ?_
  intro W base args ds gs before hval0 hW hcnd hsz0 _
  have hval : ∀ (j : Nat) t v, Try.f7.params[j]? = some t → args[j]? = some v → Value.okWide Try.prog W .any base t v := hval0
  have hW' := hW
  obtain ⟨p, q, hA0, hV, rfl, hfz, hnd⟩ := hW
  have hA : DataW.TrodAll enc Try.prog W 0 (fun _ => true) true Try.f7.params.toList args.toList ds p := hA0
  rw [Try.params7] at hA hval
  obtain ⟨v0, vs0, d0, ds0, p0, q0, hargs, rfl, rfl, h0, r0⟩ := trodAll_cons hA
  obtain ⟨v1, vs1, d1, ds1, p1, q1, rfl, rfl, rfl, h1, r1⟩ := trodAll_cons r0
  obtain ⟨v2, vs2, d2, ds2, p2, q2, rfl, rfl, rfl, h2, r2⟩ := trodAll_cons r1
  obtain ⟨rfl, rfl, rfl⟩ := trodAll_nil r2
  obtain rfl : args = #[v0, v1, v2] := by cases args; simp_all
  obtain ⟨rfl, rfl⟩ := trodVars_none hV
  obtain ⟨a0, rfl, rfl, rfl, w0⟩ := open_int Try.underlying22 (hval 0 22 v0 rfl rfl) h0
  obtain ⟨c1_0, c1_1, y1_0, y1_1, m1, rfl, rfl, rfl, hy1_0, hy1_1⟩ := open_agg2 Try.underlying24 (by kernel_rfl) cells24 (hval 1 24 v1 rfl rfl) h1
  obtain ⟨a1_0, e1_0, rfl, w1_0⟩ := DataW.trod_int Try.underlying22 hy1_0
  simp at e1_0
  subst e1_0
  obtain ⟨a1_1, e1_1, rfl, w1_1⟩ := DataW.trod_int Try.underlying22 hy1_1
  simp at e1_1
  subst e1_1
  obtain ⟨c2_0, c2_1, y2_0, y2_1, m2, rfl, rfl, rfl, hy2_0, hy2_1⟩ := open_agg2 Try.underlying24 (by kernel_rfl) cells24 (hval 2 24 v2 rfl rfl) h2
  obtain ⟨a2_0, e2_0, rfl, w2_0⟩ := DataW.trod_int Try.underlying22 hy2_0
  simp at e2_0
  subst e2_0
  obtain ⟨a2_1, e2_1, rfl, w2_1⟩ := DataW.trod_int Try.underlying22 hy2_1
  simp at e2_1
  subst e2_1
  clear hA0 hval0 hsz0
  obtain ⟨k, h⟩ := Pure.RootBack a0 a1_0 a1_1 a2_0 a2_1 w0 w1_0 w1_1 w2_0 w2_1
  refine (P.pacemakerlaw03_RootBack.calls k a0 a1_0 a1_1 a2_0 a2_1 true W h).mono fun e W' ⟨he, bel0⟩ => ?_
  have bel : Below W.heap.size W W' := bel0
  subst he
  exact ⟨_, rfl, _, _, _, [], _, [], hW', trodAll_mk1 (shut_bool Try.underlying4 _), (trodAll_cons_mk (shut_int Try.underlying22 w0) (trodAll_cons_mk (shut24 w1_0 w1_1 _ _) (trodAll_cons_mk (shut24 w2_0 w2_1 _ _) trodAll_mk0))), rfl, bel.frame _, fun h => by cases h⟩
theorem over : Rows.rootBackRow.holds Try.pinned (OpenSpec.ofChange Rows.rootBackSpec) :=
  OpenClaim.holds_of_wide 7 Try.f7 rfl rfl rfl rfl rfl rfl rfl ⟨rfl, rfl, rfl, rfl, rfl⟩ rfl rfl rfl rfl rfl (by kernel_rfl) Try.func7 (by kernel_rfl)
    (of_decide_eq_true (by kernel_rfl)) (by unfold Func.isWrapper; first | (rw [if_pos (by decide +kernel)]; kernel_rfl) | (rw [if_neg (by decide +kernel)]; exact ⟨rfl, rfl⟩))
    (fun os started H enc _ => lifted os started H enc)
theorem proved : Rows.RootBackSaid := over
#print axioms proved
end Go.Proofs.Ytlmjghmofgmofaa.rootBack
namespace Go.Proofs.Ytlmjghmofgmofaa
/-- The row, under a short name, for the claim. -/
theorem rootBack_holds : Rows.RootBackSaid := rootBack.proved
end Go.Proofs.Ytlmjghmofgmofaa
