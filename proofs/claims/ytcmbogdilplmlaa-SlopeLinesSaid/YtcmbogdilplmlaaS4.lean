import Derived.Test.YtcmbogdilplmlaaS3
namespace Go.Proofs.Ytcmbogdilplmlaa.P
open Go.RowKit Go.Proofs.YtcmbogdilplmlaaW.PrintWords Go.Proofs.YtcmbogdilplmlaaW.PrintLast Go.Proofs.YtcmbogdilplmlaaW.PrintMore Go.Proofs.YtcmbogdilplmlaaX
attribute [local go_sem] max2_int min2_int max_two min_two max_three min_three max_four min_four
set_option linter.unusedVariables false
set_option linter.unusedSimpArgs false
set_option maxHeartbeats 8000000 in
set_option maxRecDepth 100000 in
theorem is_any (a0 a1 a2 a3 a4 a5 a6 a7 a8 a9 a10 a11 a12 a13 a14 : Int) (w : World) :
    Calls Try.prog 40 #[.agg #[.int .i64 a0, .int .i64 a1, .int .i64 a2, .int .i64 a3, .int .i64 a4, .int .i64 a5, .int .i64 a6, .int .i64 a7, .int .i64 a8, .int .i64 a9, .int .i64 a10, .int .i64 a11, .int .i64 a12, .int .i64 a13, .int .i64 a14]] w fun e w' => e = .returned (.bool (rightB a0 a1 a2 a3 a4 a5 a6 a7 a8 a9 a10 a11 a12 a13 a14)) ∧ Below w.heap.size w w' := by
  go_enter Try.func40, Try.ntmps40
  go_wp2_with fail
  refine (right_any _ _ _ _ _ _ _ _ _ _ _ _ _ _ _ _).mono ?_
  rintro e w1 ⟨rfl, hb⟩
  have HB := Aside0.mk (below_step (below_alloc (Below.refl w.heap.size w) _) hb)
  clear hb
  go_wp2_with fail
  go_ret
  exact ⟨rfl, HB.out⟩
set_option maxHeartbeats 8000000 in
set_option maxRecDepth 100000 in
theorem size_one (w : World) : Calls Try.prog 49 #[.int .i64 1] w fun e w' => e = .returned (.bool true) ∧ w = w' := by
  go_enter Try.func49, Try.ntmps49
  go_wp2
  go_ret
  exact ⟨rfl, rfl⟩
set_option maxHeartbeats 8000000 in
set_option maxRecDepth 100000 in
theorem open_zero (w : World) : Calls Try.prog 34 #[.int .i64 0, .int .i64 0] w fun e w' => e = .returned (.tuple #[.agg #[.int .i64 0, .int .i64 0, .int .i64 (-1), .int .i64 0, .int .i64 0, .int .i64 0, .int .i64 0, .int .i64 0, .int .i64 0, .int .i64 0, .int .i64 0, .int .i64 0, .int .i64 0, .int .i64 0, .int .i64 0], .int .i64 0]) ∧ Below w.heap.size w w' := by
  go_enter Try.func34, Try.ntmps34
  go_wp2_with (go_at_call 48; (with_reducible refine (time_is _ true (by decide) _).mono ?_); rintro e w1 ⟨rfl, rfl⟩)
  trace_state
  exact bodyPost_ret (v := .tuple #[.agg #[.int .i64 0, .int .i64 0, .int .i64 (-1), .int .i64 0, .int .i64 0, .int .i64 0, .int .i64 0, .int .i64 0, .int .i64 0, .int .i64 0, .int .i64 0, .int .i64 0, .int .i64 0, .int .i64 0, .int .i64 0], .int .i64 0]) (by simp [results, Try.results34, go_sem]) rfl ⟨rfl, by repeat (first | exact Below.refl _ _ | apply below_alloc | apply pw_below_drewN | apply below_drew1)⟩
theorem cells15' (a0 a1 a2 a3 a4 a5 a6 a7 a8 a9 a10 a11 a12 a13 a14 : Int) {T : TypeId} {w : World} {g : Nat} (h : Aside0 (w.heap[g]? = some (.cells #[.int .i64 a0, .int .i64 a1, .int .i64 a2, .int .i64 a3, .int .i64 a4, .int .i64 a5, .int .i64 a6, .int .i64 a7, .int .i64 a8, .int .i64 a9, .int .i64 a10, .int .i64 a11, .int .i64 a12, .int .i64 a13, .int .i64 a14] T (0, 0)))) : (w.cell? ⟨g, 0, none⟩ = some (.int .i64 a0) ∧ w.cell? ⟨g, 1, none⟩ = some (.int .i64 a1) ∧ w.cell? ⟨g, 2, none⟩ = some (.int .i64 a2) ∧ w.cell? ⟨g, 3, none⟩ = some (.int .i64 a3) ∧ w.cell? ⟨g, 4, none⟩ = some (.int .i64 a4) ∧ w.cell? ⟨g, 5, none⟩ = some (.int .i64 a5) ∧ w.cell? ⟨g, 6, none⟩ = some (.int .i64 a6) ∧ w.cell? ⟨g, 7, none⟩ = some (.int .i64 a7) ∧ w.cell? ⟨g, 8, none⟩ = some (.int .i64 a8) ∧ w.cell? ⟨g, 9, none⟩ = some (.int .i64 a9) ∧ w.cell? ⟨g, 10, none⟩ = some (.int .i64 a10) ∧ w.cell? ⟨g, 11, none⟩ = some (.int .i64 a11) ∧ w.cell? ⟨g, 12, none⟩ = some (.int .i64 a12) ∧ w.cell? ⟨g, 13, none⟩ = some (.int .i64 a13) ∧ w.cell? ⟨g, 14, none⟩ = some (.int .i64 a14)) := cells15 _ _ _ _ _ _ _ _ _ _ _ _ _ _ _ h.out
theorem zeros15 {T : TypeId} {w : World} {g : Nat} (h : w.heap[g]? = some (.cells #[.int .i64 0, .int .i64 0, .int .i64 0, .int .i64 0, .int .i64 0, .int .i64 0, .int .i64 0, .int .i64 0, .int .i64 0, .int .i64 0, .int .i64 0, .int .i64 0, .int .i64 0, .int .i64 0, .int .i64 0] T (0, 0))) : ∀ j, j < 15 → w.cell? ⟨g, j, none⟩ = some (.int .i64 0) := by
  intro j hj
  refine (blk_cell h j).trans ?_
  match j, hj with
  | 0, _ | 1, _ | 2, _ | 3, _ | 4, _ | 5, _ | 6, _ | 7, _ | 8, _ | 9, _ | 10, _ | 11, _ | 12, _ | 13, _ | 14, _ => rfl
  | j + 15, h => omega
theorem blk15 {T : TypeId} {z0 z1 z2 z3 z4 z5 z6 z7 z8 z9 z10 z11 z12 z13 z14 b0 b1 b2 b3 b4 b5 b6 b7 b8 b9 b10 b11 b12 b13 b14 : Int} {W : World} {g : Nat} (h : W.heap[g]? = some (.cells #[.int .i64 z0, .int .i64 z1, .int .i64 z2, .int .i64 z3, .int .i64 z4, .int .i64 z5, .int .i64 z6, .int .i64 z7, .int .i64 z8, .int .i64 z9, .int .i64 z10, .int .i64 z11, .int .i64 z12, .int .i64 z13, .int .i64 z14] T (0, 0))) :
    (((((((((((((((W.setCell ⟨g, 0, none⟩ (.int .i64 b0)).setCell ⟨g, 1, none⟩ (.int .i64 b1)).setCell ⟨g, 2, none⟩ (.int .i64 b2)).setCell ⟨g, 3, none⟩ (.int .i64 b3)).setCell ⟨g, 4, none⟩ (.int .i64 b4)).setCell ⟨g, 5, none⟩ (.int .i64 b5)).setCell ⟨g, 6, none⟩ (.int .i64 b6)).setCell ⟨g, 7, none⟩ (.int .i64 b7)).setCell ⟨g, 8, none⟩ (.int .i64 b8)).setCell ⟨g, 9, none⟩ (.int .i64 b9)).setCell ⟨g, 10, none⟩ (.int .i64 b10)).setCell ⟨g, 11, none⟩ (.int .i64 b11)).setCell ⟨g, 12, none⟩ (.int .i64 b12)).setCell ⟨g, 13, none⟩ (.int .i64 b13)).setCell ⟨g, 14, none⟩ (.int .i64 b14)).heap[g]? = some (.cells #[.int .i64 b0, .int .i64 b1, .int .i64 b2, .int .i64 b3, .int .i64 b4, .int .i64 b5, .int .i64 b6, .int .i64 b7, .int .i64 b8, .int .i64 b9, .int .i64 b10, .int .i64 b11, .int .i64 b12, .int .i64 b13, .int .i64 b14] T (0, 0)) := by
  have h := blk_put (cs' := #[.int .i64 b0, .int .i64 z1, .int .i64 z2, .int .i64 z3, .int .i64 z4, .int .i64 z5, .int .i64 z6, .int .i64 z7, .int .i64 z8, .int .i64 z9, .int .i64 z10, .int .i64 z11, .int .i64 z12, .int .i64 z13, .int .i64 z14]) h 0 (.int .i64 b0) rfl
  have h := blk_put (cs' := #[.int .i64 b0, .int .i64 b1, .int .i64 z2, .int .i64 z3, .int .i64 z4, .int .i64 z5, .int .i64 z6, .int .i64 z7, .int .i64 z8, .int .i64 z9, .int .i64 z10, .int .i64 z11, .int .i64 z12, .int .i64 z13, .int .i64 z14]) h 1 (.int .i64 b1) rfl
  have h := blk_put (cs' := #[.int .i64 b0, .int .i64 b1, .int .i64 b2, .int .i64 z3, .int .i64 z4, .int .i64 z5, .int .i64 z6, .int .i64 z7, .int .i64 z8, .int .i64 z9, .int .i64 z10, .int .i64 z11, .int .i64 z12, .int .i64 z13, .int .i64 z14]) h 2 (.int .i64 b2) rfl
  have h := blk_put (cs' := #[.int .i64 b0, .int .i64 b1, .int .i64 b2, .int .i64 b3, .int .i64 z4, .int .i64 z5, .int .i64 z6, .int .i64 z7, .int .i64 z8, .int .i64 z9, .int .i64 z10, .int .i64 z11, .int .i64 z12, .int .i64 z13, .int .i64 z14]) h 3 (.int .i64 b3) rfl
  have h := blk_put (cs' := #[.int .i64 b0, .int .i64 b1, .int .i64 b2, .int .i64 b3, .int .i64 b4, .int .i64 z5, .int .i64 z6, .int .i64 z7, .int .i64 z8, .int .i64 z9, .int .i64 z10, .int .i64 z11, .int .i64 z12, .int .i64 z13, .int .i64 z14]) h 4 (.int .i64 b4) rfl
  have h := blk_put (cs' := #[.int .i64 b0, .int .i64 b1, .int .i64 b2, .int .i64 b3, .int .i64 b4, .int .i64 b5, .int .i64 z6, .int .i64 z7, .int .i64 z8, .int .i64 z9, .int .i64 z10, .int .i64 z11, .int .i64 z12, .int .i64 z13, .int .i64 z14]) h 5 (.int .i64 b5) rfl
  have h := blk_put (cs' := #[.int .i64 b0, .int .i64 b1, .int .i64 b2, .int .i64 b3, .int .i64 b4, .int .i64 b5, .int .i64 b6, .int .i64 z7, .int .i64 z8, .int .i64 z9, .int .i64 z10, .int .i64 z11, .int .i64 z12, .int .i64 z13, .int .i64 z14]) h 6 (.int .i64 b6) rfl
  have h := blk_put (cs' := #[.int .i64 b0, .int .i64 b1, .int .i64 b2, .int .i64 b3, .int .i64 b4, .int .i64 b5, .int .i64 b6, .int .i64 b7, .int .i64 z8, .int .i64 z9, .int .i64 z10, .int .i64 z11, .int .i64 z12, .int .i64 z13, .int .i64 z14]) h 7 (.int .i64 b7) rfl
  have h := blk_put (cs' := #[.int .i64 b0, .int .i64 b1, .int .i64 b2, .int .i64 b3, .int .i64 b4, .int .i64 b5, .int .i64 b6, .int .i64 b7, .int .i64 b8, .int .i64 z9, .int .i64 z10, .int .i64 z11, .int .i64 z12, .int .i64 z13, .int .i64 z14]) h 8 (.int .i64 b8) rfl
  have h := blk_put (cs' := #[.int .i64 b0, .int .i64 b1, .int .i64 b2, .int .i64 b3, .int .i64 b4, .int .i64 b5, .int .i64 b6, .int .i64 b7, .int .i64 b8, .int .i64 b9, .int .i64 z10, .int .i64 z11, .int .i64 z12, .int .i64 z13, .int .i64 z14]) h 9 (.int .i64 b9) rfl
  have h := blk_put (cs' := #[.int .i64 b0, .int .i64 b1, .int .i64 b2, .int .i64 b3, .int .i64 b4, .int .i64 b5, .int .i64 b6, .int .i64 b7, .int .i64 b8, .int .i64 b9, .int .i64 b10, .int .i64 z11, .int .i64 z12, .int .i64 z13, .int .i64 z14]) h 10 (.int .i64 b10) rfl
  have h := blk_put (cs' := #[.int .i64 b0, .int .i64 b1, .int .i64 b2, .int .i64 b3, .int .i64 b4, .int .i64 b5, .int .i64 b6, .int .i64 b7, .int .i64 b8, .int .i64 b9, .int .i64 b10, .int .i64 b11, .int .i64 z12, .int .i64 z13, .int .i64 z14]) h 11 (.int .i64 b11) rfl
  have h := blk_put (cs' := #[.int .i64 b0, .int .i64 b1, .int .i64 b2, .int .i64 b3, .int .i64 b4, .int .i64 b5, .int .i64 b6, .int .i64 b7, .int .i64 b8, .int .i64 b9, .int .i64 b10, .int .i64 b11, .int .i64 b12, .int .i64 z13, .int .i64 z14]) h 12 (.int .i64 b12) rfl
  have h := blk_put (cs' := #[.int .i64 b0, .int .i64 b1, .int .i64 b2, .int .i64 b3, .int .i64 b4, .int .i64 b5, .int .i64 b6, .int .i64 b7, .int .i64 b8, .int .i64 b9, .int .i64 b10, .int .i64 b11, .int .i64 b12, .int .i64 b13, .int .i64 z14]) h 13 (.int .i64 b13) rfl
  have h := blk_put (cs' := #[.int .i64 b0, .int .i64 b1, .int .i64 b2, .int .i64 b3, .int .i64 b4, .int .i64 b5, .int .i64 b6, .int .i64 b7, .int .i64 b8, .int .i64 b9, .int .i64 b10, .int .i64 b11, .int .i64 b12, .int .i64 b13, .int .i64 b14]) h 14 (.int .i64 b14) rfl
  exact h
theorem below15 {b0 b1 b2 b3 b4 b5 b6 b7 b8 b9 b10 b11 b12 b13 b14 : Int} {w W : World} {g : Nat} (h : Below w.heap.size w W) (hg : w.heap.size ≤ g) :
    Below w.heap.size w (((((((((((((((W.setCell ⟨g, 0, none⟩ (.int .i64 b0)).setCell ⟨g, 1, none⟩ (.int .i64 b1)).setCell ⟨g, 2, none⟩ (.int .i64 b2)).setCell ⟨g, 3, none⟩ (.int .i64 b3)).setCell ⟨g, 4, none⟩ (.int .i64 b4)).setCell ⟨g, 5, none⟩ (.int .i64 b5)).setCell ⟨g, 6, none⟩ (.int .i64 b6)).setCell ⟨g, 7, none⟩ (.int .i64 b7)).setCell ⟨g, 8, none⟩ (.int .i64 b8)).setCell ⟨g, 9, none⟩ (.int .i64 b9)).setCell ⟨g, 10, none⟩ (.int .i64 b10)).setCell ⟨g, 11, none⟩ (.int .i64 b11)).setCell ⟨g, 12, none⟩ (.int .i64 b12)).setCell ⟨g, 13, none⟩ (.int .i64 b13)).setCell ⟨g, 14, none⟩ (.int .i64 b14)) := below_set (below_set (below_set (below_set (below_set (below_set (below_set (below_set (below_set (below_set (below_set (below_set (below_set (below_set (below_set (h) hg) hg) hg) hg) hg) hg) hg) hg) hg) hg) hg) hg) hg) hg) hg
theorem made2 (a0 a1 a2 a3 a4 a5 a6 a7 a8 a9 a10 a11 a12 a13 a14 : Int) (w : World) : ∃ w2 g, (w.alloc (.cells #[.int .i64 a0, .int .i64 a1, .int .i64 a2, .int .i64 a3, .int .i64 a4, .int .i64 a5, .int .i64 a6, .int .i64 a7, .int .i64 a8, .int .i64 a9, .int .i64 a10, .int .i64 a11, .int .i64 a12, .int .i64 a13, .int .i64 a14] 29)).alloc (.cells #[.int .i64 0, .int .i64 0, .int .i64 0, .int .i64 0, .int .i64 0, .int .i64 0, .int .i64 0, .int .i64 0, .int .i64 0, .int .i64 0, .int .i64 0, .int .i64 0, .int .i64 0, .int .i64 0, .int .i64 0] 29) = w2 ∧ w.heap.size = g ∧ Aside0 (w2.heap[g]? = some (.cells #[.int .i64 a0, .int .i64 a1, .int .i64 a2, .int .i64 a3, .int .i64 a4, .int .i64 a5, .int .i64 a6, .int .i64 a7, .int .i64 a8, .int .i64 a9, .int .i64 a10, .int .i64 a11, .int .i64 a12, .int .i64 a13, .int .i64 a14] 29 (0, 0))) ∧ Aside0 (w2.heap[g + 1]? = some (.cells #[.int .i64 0, .int .i64 0, .int .i64 0, .int .i64 0, .int .i64 0, .int .i64 0, .int .i64 0, .int .i64 0, .int .i64 0, .int .i64 0, .int .i64 0, .int .i64 0, .int .i64 0, .int .i64 0, .int .i64 0] 29 (0, 0))) ∧ Aside0 (Below w.heap.size w w2) ∧ Aside0 (w.heap.size = g) :=
  ⟨_, _, rfl, rfl, ⟨blk_alloc (blk_new w _) _⟩, ⟨by have := blk_new (w.alloc (.cells #[.int .i64 a0, .int .i64 a1, .int .i64 a2, .int .i64 a3, .int .i64 a4, .int .i64 a5, .int .i64 a6, .int .i64 a7, .int .i64 a8, .int .i64 a9, .int .i64 a10, .int .i64 a11, .int .i64 a12, .int .i64 a13, .int .i64 a14] 29)) (.cells #[.int .i64 0, .int .i64 0, .int .i64 0, .int .i64 0, .int .i64 0, .int .i64 0, .int .i64 0, .int .i64 0, .int .i64 0, .int .i64 0, .int .i64 0, .int .i64 0, .int .i64 0, .int .i64 0, .int .i64 0] 29); simpa using this⟩, ⟨below_alloc (below_alloc (Below.refl w.heap.size w) _) _⟩, ⟨rfl⟩⟩
set_option maxHeartbeats 8000000 in
set_option maxRecDepth 100000 in
theorem send_ok (a0 a1 a2 a3 a4 a5 a6 a7 a8 a9 a10 a11 a12 a13 a14 : Int) (w : World) (h1 : rightB a0 a1 a2 a3 a4 a5 a6 a7 a8 a9 a10 a11 a12 a13 a14 = true) (h2 : (a2 != -1) = false) (h3 : (a6 == 1048576) = false) (h4 : 0 ≤ a6) (h5 : a6 ≤ 1048576) (h6 : 0 ≤ a3) (h7 : a3 ≤ 9437184000) :
    Calls Try.prog 35 #[.agg #[.int .i64 a0, .int .i64 a1, .int .i64 a2, .int .i64 a3, .int .i64 a4, .int .i64 a5, .int .i64 a6, .int .i64 a7, .int .i64 a8, .int .i64 a9, .int .i64 a10, .int .i64 a11, .int .i64 a12, .int .i64 a13, .int .i64 a14], .int .i64 1] w fun e w' => e = .returned (.tuple #[.agg #[.int .i64 a0, .int .i64 a1, .int .i64 a2, .int .i64 (a3 + 1), .int .i64 a4, .int .i64 a5, .int .i64 (a6 + 1), .int .i64 a7, .int .i64 a8, .int .i64 a9, .int .i64 a10, .int .i64 a11, .int .i64 a12, .int .i64 a13, .int .i64 a14], .int .i64 0]) ∧ Below w.heap.size w w' := by
  have H1 := Aside0.mk h1
  clear h1
  go_enter Try.func35, Try.ntmps35
  go_wp2_with fail
  obtain ⟨w2, g, e1, e2, Kg, Kh, HB, HG⟩ := made2 a0 a1 a2 a3 a4 a5 a6 a7 a8 a9 a10 a11 a12 a13 a14 w
  simp only [e1, e2]
  clear e1 e2
  refine (is_any _ _ _ _ _ _ _ _ _ _ _ _ _ _ _ _).mono ?_
  rintro e w3 ⟨rfl, hb⟩
  rw [H1.out]
  have Kg3 := Aside0.mk (blk_below Kg.out hb)
  have Kh3 := Aside0.mk (blk_below Kh.out hb)
  have HB3 := Aside0.mk (below_step HB.out hb)
  clear hb Kg Kh HB H1
  have c := cells15' _ _ _ _ _ _ _ _ _ _ _ _ _ _ _ Kg3
  have z := cells15' _ _ _ _ _ _ _ _ _ _ _ _ _ _ _ Kh3
  have f1 := blk_frozen Kg3.out
  have f2 := blk_frozen Kh3.out
  have n1 : g ≠ g + 1 := by omega
  have n2 : g + 1 ≠ g := by omega
  go_split_ands
  go_wp2_with (go_at_call 49; refine (size_one _).mono ?_; rintro e w4 ⟨rfl, rfl⟩)
  have e := HG.out
  exact bodyPost_ret (results_ct rfl _ _ (g + 1) 29 _ (0, 0) _ rfl (blk15 (blk_far (blk_far Kh3.out n2 _) n2 _)) Try.underlying29 rfl (by kernel_rfl)) rfl ⟨rfl, below15 (below_set (below_set HB3.out (by omega)) (by omega)) (by omega)⟩

end Go.Proofs.Ytcmbogdilplmlaa.P
