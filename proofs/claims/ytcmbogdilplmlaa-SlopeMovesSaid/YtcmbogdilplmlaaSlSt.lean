/- A row's slice of structs whose fields are ints alone: opened. -/
import Derived.WalkKit
import Derived.Deep.Slices
import Derived.ChangeSame
import Derived.SizedLaws
import Derived.ChangeSlices
import Derived.Test.YtcmbogdilplmlaaWWords
set_option linter.unusedVariables false
set_option linter.unusedSimpArgs false
namespace Go.Proofs.YtcmbogdilplmlaaX
open Go.ChangeShapes Go.WideShapes Go.Deep
section
variable {H : Type} {enc : TypeId × Value → H} {P : Program} {w : World} {base : Nat} {spare : Nat → Bool} {held : Bool}
theorem struct_ints {e : TypeId} {fs : Array Field} {n fuel : Nat} {cs : List Value} {x : DataW H × List MemPlace} (he : P.underlying e = some (.struct fs)) (hn : fs.size = n)
    (hf : ∀ (j : Nat) (f : Field), fs[j]? = some f → f.offset = j ∧ P.cellsOf f.type = 1 ∧ P.underlying f.type = some (.int .i64)) (h : DataW.trod enc P w base spare held fuel e cs = some x) :
    ∀ j, j < n → ∃ v : Int, cs[j]? = some (.int .i64 v) ∧ (Lit.int .i64 v).wf = true := by
  intro j hj
  obtain ⟨xs, k, hk, hxy, _, hxl, hf'⟩ := DataW.trod_struct he h
  have hj2 : j < fs.size := by omega
  obtain ⟨o, c, u⟩ := hf j fs[j] (Array.getElem?_eq_getElem hj2)
  have g := hf' j fs[j] (Array.getElem?_eq_getElem hj2)
  rw [o, c, List.getElem?_eq_getElem (show j < xs.length by omega)] at g
  obtain ⟨v, e1, _, hw⟩ := DataW.trod_int u g
  refine ⟨v, ?_, hw⟩
  have e2 : ((cs.drop j).take 1)[0]? = some (.int .i64 v) := by rw [e1]; rfl
  rw [List.getElem?_take] at e2
  simpa using e2
theorem open_structs {t e : TypeId} {fs : Array Field} {n fuel : Nat} {cs : List Value} {x : DataW H × List MemPlace} (ht : P.underlying t = some (.slice e)) (he : P.underlying e = some (.struct fs)) (hn : fs.size = n) (ce : P.cellsOf e = n)
    (hf : ∀ (j : Nat) (f : Field), fs[j]? = some f → f.offset = j ∧ P.cellsOf f.type = 1 ∧ P.underlying f.type = some (.int .i64)) (h : DataW.trod enc P w base spare held fuel t cs = some x) :
    (cs = [.slice none 0 0] ∧ x = (.nil, [])) ∨
    ∃ (a : Addr) (len cap : Nat) (V : Nat → Nat → Int) (es rest : List (DataW H)) (ps : List MemPlace), cs = [.slice (some a) len cap] ∧ len ≤ cap ∧ cap ≤ maxLen ∧ x = (.slice es rest, ps) ∧ es.length = len ∧
      ∀ i j, i < len → j < n → w.cell? (a.add (i * n + j)) = some (.int .i64 (V i j)) ∧ (Lit.int .i64 (V i j)).wf = true := by
  rcases open_slice ht h with h0 | ⟨a, len, cap, m, n', D, Pl, rfl, hb, hl, hm, hmm, rfl, hx⟩
  · exact .inl h0
  right
  have hlm : len ≤ m := by rw [hmm]; split <;> omega
  have each : ∀ i, i < m → ∃ q : Nat → Int, ∀ j, j < n → w.cell? (a.add (i * n + j)) = some (.int .i64 (q j)) ∧ (Lit.int .i64 (q j)).wf = true := by
    intro i hi
    obtain ⟨cs', h1, h2⟩ := hx i hi
    rw [ce] at h1
    obtain ⟨_, hlen, hcell⟩ := World.cells?_some h1
    have k := struct_ints he hn hf h2
    obtain ⟨q, hq⟩ := choose_lt k
    refine ⟨q, fun j hj => ⟨?_, (hq j hj).2⟩⟩
    rw [← (hq j hj).1, ← hcell j hj, add_add]
  obtain ⟨V, hV⟩ := choose_lt each
  exact ⟨a, len, cap, V, _, _, _, rfl, hl, hm, rfl, by simp, fun i j hi hj => hV i (by omega) j hj⟩
end
end Go.Proofs.YtcmbogdilplmlaaX
