/- The row of pacemaker/pacemakerlaw25.CreditHolds: for every input that the row's conditions let in the law returns true, and each argument reads as it did. Out of the pure statement and the printed walk. -/
import Derived.Test.YtpfhlimcemkneaaRows
import Derived.Test.YtpfhlimcemkneaaPx30
import Derived.Test.YtpfhlimcemkneaaPureCreditHolds
import Derived.WalkKit
import Derived.ProofKit
import Derived.OpenShut
import Derived.ShutString
import Derived.ChangeOld
import Derived.Below
import Derived.SizedLaws
import Derived.Lib.SmallJoins
import Derived.Test.YtpfhlimcemkneaaSlSt
namespace Go.Proofs.Ytpfhlimcemkneaa.creditHolds
open Go.ChangeShapes Go.WideShapes Go.ChangeAt Go.RowKit Go.Joins
open Go.ChangeMaps (open_string shut_string)
set_option linter.unusedVariables false
set_option linter.unusedSimpArgs false
theorem own : ownKnob Try.prog.godebug = none := by kernel_rfl
theorem laidOut : laidOutB Try.prog = true := by kernel_rfl
theorem fields41 : ∀ (fs : Array Field), Try.prog.underlying 41 = some (.struct fs) → fs.size = 3 ∧ ∀ (j : Nat) (f : Field), fs[j]? = some f → f.offset = j ∧ Try.prog.cellsOf f.type = 1 ∧ Try.prog.underlying f.type = some (.int .i64) := by
  intro fs h
  rw [Try.underlying41] at h
  injection h with h; injection h with h; subst h
  refine ⟨rfl, fun j f hj => ?_⟩
  match j, hj with
  | 0, hj => (have e := Option.some.inj hj; subst e; exact ⟨rfl, by kernel_rfl, Try.underlying3⟩)
  | 1, hj => (have e := Option.some.inj hj; subst e; exact ⟨rfl, by kernel_rfl, Try.underlying3⟩)
  | 2, hj => (have e := Option.some.inj hj; subst e; exact ⟨rfl, by kernel_rfl, Try.underlying3⟩)
  | j + 3, hj => simp at hj
theorem row38 {H : Type} {enc : TypeId × Value → H} {W : World} {base : Nat} {spare : Nat → Bool} {held : Bool} {fuel : Nat} {a : Option Addr} {len cap : Nat} {x : DataW H × List MemPlace} (h : DataW.trod enc Try.prog W base spare held fuel 38 [.slice a len cap] = some x) :
    ∃ l : List P.S41, len = l.length ∧ Go.Proofs.YtpfhlimcemkneaaW.PrintWords.Kd.C P.k41 W a l.length l ∧ l.length ≤ cap ∧ cap ≤ maxLen ∧ ∀ s ∈ l, (Lit.int .i64 s.f0).wf = true ∧ (Lit.int .i64 s.f1).wf = true ∧ (Lit.int .i64 s.f2).wf = true := by
  obtain ⟨fs, hs⟩ : ∃ fs, Try.prog.underlying 41 = some (.struct fs) := ⟨_, Try.underlying41⟩
  rcases Go.Proofs.YtpfhlimcemkneaaX.open_structs (n := 3) Try.underlying38 hs (fields41 fs hs).1 (by kernel_rfl) (fields41 fs hs).2 h with ⟨hcs, _⟩ | ⟨ad, l, c, V, es, rest, ps, hcs, hl, hm, _, _, hV⟩
  · simp at hcs
    obtain ⟨rfl, rfl, rfl⟩ := hcs
    exact ⟨[], rfl, ⟨rfl, by decide, fun h => absurd h (by decide)⟩, Nat.le_refl _, Nat.zero_le _, fun s h => by cases h⟩
  · simp at hcs
    obtain ⟨rfl, rfl, rfl⟩ := hcs
    have hx : maxLen ≤ 9223372036854775807 := by decide
    refine ⟨(List.range len).map fun i => ⟨V i 0, V i 1, V i 2⟩, by simp, ?_, by simpa using hl, hm, ?_⟩
    · rw [List.length_map, List.length_range]
      refine ⟨by simp, by omega, fun _ => ⟨ad, rfl, fun j p hp => ?_⟩⟩
      have hj : j < len := by have := (List.getElem?_eq_some_iff.1 hp).1; simpa using this
      simp only [List.getElem?_map, List.getElem?_range hj, Option.map_some, Option.some.injEq] at hp
      subst hp
      refine ⟨[.int .i64 (V j 0), .int .i64 (V j 1), .int .i64 (V j 2)], rfl, P.k41_mk W _, fun i v hv => ?_⟩
      match i, hv with
      | 0, hv => (obtain rfl := Option.some.inj hv; exact (hV j 0 hj (by decide)).1)
      | 1, hv => (obtain rfl := Option.some.inj hv; exact (hV j 1 hj (by decide)).1)
      | 2, hv => (obtain rfl := Option.some.inj hv; exact (hV j 2 hj (by decide)).1)
      | i + 3, hv => simp at hv
    · intro s hs
      obtain ⟨i, hi, rfl⟩ := List.mem_map.1 hs
      have hi := List.mem_range.1 hi
      exact ⟨(hV i 0 hi (by decide)).2, (hV i 1 hi (by decide)).2, (hV i 2 hi (by decide)).2⟩
set_option maxRecDepth 100000 in
theorem lifted (os : Os) (started : os.Started) (H : Type) (enc : TypeId × Value → H) :
    ReturnsInHanded {} Try.checked os 10 .any (Rows.creditHoldsSpec.pre6 enc Try.prog Try.f10 Rows.creditHoldsRow.domain false) (Rows.creditHoldsSpec.post enc Try.prog Try.f10 false true false false) := by
  refine returnsInHanded_of_change_sized (C := Try.checked) own started (by kernel_rfl) Try.func10
    (ChangeSpec.witness6 (enc := enc) (C := Try.checked) false ⟨#[], #[.int .i64 0, .int .i64 0, .slice none 0 0], []⟩ 8 (by kernel_rfl) (by kernel_rfl) (by kernel_rfl) (by kernel_rfl)) ?_
  intro W base args ds gs before hval0 hW hcnd hsz0 _
  have hval : ∀ (j : Nat) t v, Try.f10.params[j]? = some t → args[j]? = some v → Value.okWide Try.prog W .any base t v := hval0
  have hW' := hW
  obtain ⟨p, q, hA0, hV, rfl, hfz, hnd⟩ := hW
  have hA : DataW.TrodAll enc Try.prog W 0 (fun _ => true) true Try.f10.params.toList args.toList ds p := hA0
  rw [Try.params10] at hA hval
  obtain ⟨v0, vs0, d0, ds0, p0, q0, hargs, rfl, rfl, h0, r0⟩ := trodAll_cons hA
  obtain ⟨v1, vs1, d1, ds1, p1, q1, rfl, rfl, rfl, h1, r1⟩ := trodAll_cons r0
  obtain ⟨v2, vs2, d2, ds2, p2, q2, rfl, rfl, rfl, h2, r2⟩ := trodAll_cons r1
  obtain ⟨rfl, rfl, rfl⟩ := trodAll_nil r2
  obtain rfl : args = #[v0, v1, v2] := by cases args; simp_all
  obtain ⟨rfl, rfl⟩ := trodVars_none hV
  obtain ⟨a0, rfl, rfl, rfl, w0⟩ := open_int Try.underlying3 (hval 0 3 v0 rfl rfl) h0
  obtain ⟨a1, rfl, rfl, rfl, w1⟩ := open_int Try.underlying3 (hval 1 3 v1 rfl rfl) h1
  obtain ⟨A2, len2, cap2, rfl⟩ := okWide_slice Try.underlying38 (hval 2 38 v2 rfl rfl)
  have k2 := h2
  have lt2 : ∀ x ∈ p2, x.block < W.heap.size := by obtain ⟨m, hm⟩ := k2; exact DataW.trod_lt m _ _ _ hm
  obtain ⟨fuel2, hf2⟩ := h2
  obtain ⟨l2, rfl, hr2, hc2, hm2, hw2⟩ := row38 hf2
  clear hA0 hval0 hsz0
  obtain ⟨k, h⟩ := Pure.CreditHolds a0 a1 l2 w0 w1 hw2
  refine (P.pacemakerlaw25_CreditHolds.calls k a0 a1 _ _ l2 true W hr2 hc2 h).mono fun e W' ⟨he, bel0⟩ => ?_
  have bel : Below W.heap.size W W' := bel0
  subst he
  exact ⟨_, rfl, _, _, _, [], _, [], hW', trodAll_mk1 (shut_bool Try.underlying4 _), (trodAll_cons_mk (shut_int Try.underlying3 w0) (trodAll_cons_mk (shut_int Try.underlying3 w1) (trodAll_cons_mk (Below.trod laidOut (by kernel_rfl) (of_decide_eq_true (by kernel_rfl)) k2 bel lt2) trodAll_mk0))), rfl, bel.frame _, fun h => by cases h⟩
theorem over : Rows.creditHoldsRow.holds Try.pinned (OpenSpec.ofChange Rows.creditHoldsSpec) :=
  OpenClaim.holds_of_wide 10 Try.f10 rfl rfl rfl rfl rfl rfl rfl ⟨rfl, rfl, rfl, rfl, rfl⟩ rfl rfl rfl rfl rfl (by kernel_rfl) Try.func10 (by kernel_rfl)
    (of_decide_eq_true (by kernel_rfl)) (by unfold Func.isWrapper; first | (rw [if_pos (by decide +kernel)]; kernel_rfl) | (rw [if_neg (by decide +kernel)]; exact ⟨rfl, rfl⟩))
    (fun os started H enc _ => lifted os started H enc)
theorem proved : Rows.CreditHoldsSaid := over
#print axioms proved
end Go.Proofs.Ytpfhlimcemkneaa.creditHolds
namespace Go.Proofs.Ytpfhlimcemkneaa
/-- The row, under a short name, for the claim. -/
theorem creditHolds_holds : Rows.CreditHoldsSaid := creditHolds.proved
end Go.Proofs.Ytpfhlimcemkneaa
