/- The row of pacemaker/pacemakerlaw10.SlopeMoves: for every input that the row's conditions let in the law returns true, and each argument reads as it did. Out of the pure statement and the printed walk. -/
import Derived.Test.YtcmbogdilplmlaaRows
import Derived.Test.YtcmbogdilplmlaaPx16
import Derived.Test.YtcmbogdilplmlaaPureSlopeMoves
import Derived.WalkKit
import Derived.ProofKit
import Derived.OpenShut
import Derived.ShutString
import Derived.ChangeOld
import Derived.Below
import Derived.SizedLaws
import Derived.Lib.SmallJoins
import Derived.Test.YtcmbogdilplmlaaSlSt
namespace Go.Proofs.Ytcmbogdilplmlaa.slopeMoves
open Go.ChangeShapes Go.WideShapes Go.ChangeAt Go.RowKit Go.Joins
open Go.ChangeMaps (open_string shut_string)
set_option linter.unusedVariables false
set_option linter.unusedSimpArgs false
theorem own : ownKnob Try.prog.godebug = none := by kernel_rfl
theorem laidOut : laidOutB Try.prog = true := by kernel_rfl
theorem fields36 : ∀ (fs : Array Field), Try.prog.underlying 36 = some (.struct fs) → fs.size = 2 ∧ ∀ (j : Nat) (f : Field), fs[j]? = some f → f.offset = j ∧ Try.prog.cellsOf f.type = 1 ∧ Try.prog.underlying f.type = some (.int .i64) := by
  intro fs h
  rw [Try.underlying36] at h
  injection h with h; injection h with h; subst h
  refine ⟨rfl, fun j f hj => ?_⟩
  match j, hj with
  | 0, hj => (have e := Option.some.inj hj; subst e; exact ⟨rfl, by kernel_rfl, Try.underlying3⟩)
  | 1, hj => (have e := Option.some.inj hj; subst e; exact ⟨rfl, by kernel_rfl, Try.underlying3⟩)
  | j + 2, hj => simp at hj
theorem row32 {H : Type} {enc : TypeId × Value → H} {W : World} {base : Nat} {spare : Nat → Bool} {held : Bool} {fuel : Nat} {a : Option Addr} {len cap : Nat} {x : DataW H × List MemPlace} (h : DataW.trod enc Try.prog W base spare held fuel 32 [.slice a len cap] = some x) :
    ∃ l : List P.S36, len = l.length ∧ Go.Proofs.YtcmbogdilplmlaaW.PrintWords.Kd.C P.k36 W a l.length l ∧ l.length ≤ cap ∧ cap ≤ maxLen ∧ ∀ s ∈ l, (Lit.int .i64 s.f0).wf = true ∧ (Lit.int .i64 s.f1).wf = true := by
  obtain ⟨fs, hs⟩ : ∃ fs, Try.prog.underlying 36 = some (.struct fs) := ⟨_, Try.underlying36⟩
  rcases Go.Proofs.YtcmbogdilplmlaaX.open_structs (n := 2) Try.underlying32 hs (fields36 fs hs).1 (by kernel_rfl) (fields36 fs hs).2 h with ⟨hcs, _⟩ | ⟨ad, l, c, V, es, rest, ps, hcs, hl, hm, _, _, hV⟩
  · simp at hcs
    obtain ⟨rfl, rfl, rfl⟩ := hcs
    exact ⟨[], rfl, ⟨rfl, by decide, fun h => absurd h (by decide)⟩, Nat.le_refl _, Nat.zero_le _, fun s h => by cases h⟩
  · simp at hcs
    obtain ⟨rfl, rfl, rfl⟩ := hcs
    have hx : maxLen ≤ 9223372036854775807 := by decide
    refine ⟨(List.range len).map fun i => ⟨V i 0, V i 1⟩, by simp, ?_, by simpa using hl, hm, ?_⟩
    · rw [List.length_map, List.length_range]
      refine ⟨by simp, by omega, fun _ => ⟨ad, rfl, fun j p hp => ?_⟩⟩
      have hj : j < len := by have := (List.getElem?_eq_some_iff.1 hp).1; simpa using this
      simp only [List.getElem?_map, List.getElem?_range hj, Option.map_some, Option.some.injEq] at hp
      subst hp
      refine ⟨[.int .i64 (V j 0), .int .i64 (V j 1)], rfl, P.k36_mk W _, fun i v hv => ?_⟩
      match i, hv with
      | 0, hv => (obtain rfl := Option.some.inj hv; exact (hV j 0 hj (by decide)).1)
      | 1, hv => (obtain rfl := Option.some.inj hv; exact (hV j 1 hj (by decide)).1)
      | i + 2, hv => simp at hv
    · intro s hs
      obtain ⟨i, hi, rfl⟩ := List.mem_map.1 hs
      have hi := List.mem_range.1 hi
      exact ⟨(hV i 0 hi (by decide)).2, (hV i 1 hi (by decide)).2⟩
set_option maxRecDepth 100000 in
theorem lifted (os : Os) (started : os.Started) (H : Type) (enc : TypeId × Value → H) :
    ReturnsInHanded {} Try.checked os 5 .any (Rows.slopeMovesSpec.pre6 enc Try.prog Try.f5 Rows.slopeMovesRow.domain false) (Rows.slopeMovesSpec.post enc Try.prog Try.f5 false true false false) := by
  refine returnsInHanded_of_change_sized (C := Try.checked) own started (by kernel_rfl) Try.func5
    (ChangeSpec.witness6 (enc := enc) (C := Try.checked) false ⟨#[], #[.slice none 0 0, .int .i64 0], []⟩ 8 (by kernel_rfl) (by kernel_rfl) (by kernel_rfl) (by kernel_rfl)) ?_
  intro W base args ds gs before hval0 hW hcnd hsz0 _
  have hval : ∀ (j : Nat) t v, Try.f5.params[j]? = some t → args[j]? = some v → Value.okWide Try.prog W .any base t v := hval0
  have hW' := hW
  obtain ⟨p, q, hA0, hV, rfl, hfz, hnd⟩ := hW
  have hA : DataW.TrodAll enc Try.prog W 0 (fun _ => true) true Try.f5.params.toList args.toList ds p := hA0
  rw [Try.params5] at hA hval
  obtain ⟨v0, vs0, d0, ds0, p0, q0, hargs, rfl, rfl, h0, r0⟩ := trodAll_cons hA
  obtain ⟨v1, vs1, d1, ds1, p1, q1, rfl, rfl, rfl, h1, r1⟩ := trodAll_cons r0
  obtain ⟨rfl, rfl, rfl⟩ := trodAll_nil r1
  obtain rfl : args = #[v0, v1] := by cases args; simp_all
  obtain ⟨rfl, rfl⟩ := trodVars_none hV
  obtain ⟨A0, len0, cap0, rfl⟩ := okWide_slice Try.underlying32 (hval 0 32 v0 rfl rfl)
  have k0 := h0
  have lt0 : ∀ x ∈ p0, x.block < W.heap.size := by obtain ⟨m, hm⟩ := k0; exact DataW.trod_lt m _ _ _ hm
  obtain ⟨fuel0, hf0⟩ := h0
  obtain ⟨l0, rfl, hr0, hc0, hm0, hw0⟩ := row32 hf0
  obtain ⟨a1, rfl, rfl, rfl, w1⟩ := open_int Try.underlying3 (hval 1 3 v1 rfl rfl) h1
  clear hA0 hval0 hsz0
  obtain ⟨k, h⟩ := Pure.SlopeMoves l0 a1 hw0 w1
  refine (P.pacemakerlaw10_SlopeMoves.calls k _ _ l0 a1 true W hr0 hc0 h).mono fun e W' ⟨he, bel0⟩ => ?_
  have bel : Below W.heap.size W W' := bel0
  subst he
  exact ⟨_, rfl, _, _, _, [], _, [], hW', trodAll_mk1 (shut_bool Try.underlying4 _), (trodAll_cons_mk (Below.trod laidOut (by kernel_rfl) (of_decide_eq_true (by kernel_rfl)) k0 bel lt0) (trodAll_cons_mk (shut_int Try.underlying3 w1) trodAll_mk0)), rfl, bel.frame _, fun h => by cases h⟩
theorem over : Rows.slopeMovesRow.holds Try.pinned (OpenSpec.ofChange Rows.slopeMovesSpec) :=
  OpenClaim.holds_of_wide 5 Try.f5 rfl rfl rfl rfl rfl rfl rfl ⟨rfl, rfl, rfl, rfl, rfl⟩ rfl rfl rfl rfl rfl (by kernel_rfl) Try.func5 (by kernel_rfl)
    (of_decide_eq_true (by kernel_rfl)) (by unfold Func.isWrapper; first | (rw [if_pos (by decide +kernel)]; kernel_rfl) | (rw [if_neg (by decide +kernel)]; exact ⟨rfl, rfl⟩))
    (fun os started H enc _ => lifted os started H enc)
theorem proved : Rows.SlopeMovesSaid := over
#print axioms proved
end Go.Proofs.Ytcmbogdilplmlaa.slopeMoves
namespace Go.Proofs.Ytcmbogdilplmlaa
/-- The row, under a short name, for the claim. -/
theorem slopeMoves_holds : Rows.SlopeMovesSaid := slopeMoves.proved
end Go.Proofs.Ytcmbogdilplmlaa
