import Derived.Test.YtcmbogdilplmlaaPx0
namespace Go.Proofs.Ytcmbogdilplmlaa.P
open Go.RowKit Go.Proofs.YtcmbogdilplmlaaW.PrintWords Go.Proofs.YtcmbogdilplmlaaW.PrintLast Go.Proofs.YtcmbogdilplmlaaW.PrintMore Go.Proofs.YtcmbogdilplmlaaX
attribute [local go_sem] max2_int min2_int max_two min_two max_three min_three max_four min_four
set_option linter.unusedVariables false
set_option linter.unusedSimpArgs false
def countsB (a6 a7 a8 : Int) : Bool := decide (0 ≤ a6 ∧ a6 ≤ 1048576 ∧ 0 ≤ a7 ∧ a7 ≤ a6 ∧ 0 ≤ a8 ∧ a8 ≤ a6 - a7)
theorem ret_bool {a b : Bool} (h : a = true ↔ b = true) : Ending.returned (.bool a) = .returned (.bool b) := by rw [Bool.eq_iff_iff.2 h]
set_option maxHeartbeats 4000000 in
set_option maxRecDepth 100000 in
theorem counts_any (a0 a1 a2 a3 a4 a5 a6 a7 a8 a9 a10 a11 a12 a13 a14 : Int) (w : World) :
    Calls Try.prog 53 #[.agg #[.int .i64 a0, .int .i64 a1, .int .i64 a2, .int .i64 a3, .int .i64 a4, .int .i64 a5, .int .i64 a6, .int .i64 a7, .int .i64 a8, .int .i64 a9, .int .i64 a10, .int .i64 a11, .int .i64 a12, .int .i64 a13, .int .i64 a14]] w fun e w' => e = .returned (.bool (countsB a6 a7 a8)) ∧ Below w.heap.size w w' := by
  go_enter Try.func53, Try.ntmps53
  go_wp2
  all_goals
    go_ret
    exact ⟨ret_bool (by simp only [countsB, decide_eq_true_eq, Bool.false_eq_true, false_iff]; omega), (Below.refl _ _).alloc (Nat.le_refl _) _⟩
def timeB (a : Int) : Bool := decide (0 ≤ a ∧ a ≤ 1099511627776)
set_option maxHeartbeats 4000000 in
set_option maxRecDepth 100000 in
theorem time_any (a : Int) (w : World) : Calls Try.prog 48 #[.int .i64 a] w fun e w' => e = .returned (.bool (timeB a)) ∧ w = w' := by
  go_enter Try.func48, Try.ntmps48
  go_wp2
  all_goals
    go_ret
    exact ⟨ret_bool (by simp only [timeB, decide_eq_true_eq, Bool.false_eq_true, false_iff]; omega), rfl⟩
def fitB (a p : Int) : Bool := decide (p ≤ a ∧ a ≤ p * 9000)
set_option maxHeartbeats 4000000 in
set_option maxRecDepth 100000 in
theorem fit_any (a p : Int) (h0 : 0 ≤ p) (h1 : p ≤ 1048576) (w : World) : Calls Try.prog 56 #[.int .i64 a, .int .i64 p] w fun e w' => e = .returned (.bool (fitB a p)) ∧ w = w' := by
  go_enter Try.func56, Try.ntmps56
  go_wp2
  all_goals
    go_ret
    exact ⟨ret_bool (by simp only [fitB, decide_eq_true_eq, Bool.false_eq_true, false_iff]; omega), rfl⟩
set_option maxHeartbeats 4000000 in
set_option maxRecDepth 100000 in
theorem resolved_any (a0 a1 a2 a3 a4 a5 a6 a7 a8 a9 a10 a11 a12 a13 a14 : Int) (h : 0 ≤ a7) (h1 : a7 ≤ 1048576) (h2 : 0 ≤ a8) (h3 : a8 ≤ 1048576) (w : World) :
    Calls Try.prog 57 #[.agg #[.int .i64 a0, .int .i64 a1, .int .i64 a2, .int .i64 a3, .int .i64 a4, .int .i64 a5, .int .i64 a6, .int .i64 a7, .int .i64 a8, .int .i64 a9, .int .i64 a10, .int .i64 a11, .int .i64 a12, .int .i64 a13, .int .i64 a14]] w fun e w' => e = .returned (.bool (a7 + a8 == a6)) ∧ Below w.heap.size w w' := by
  go_enter Try.func57, Try.ntmps57
  go_wp2
  go_ret
  exact ⟨rfl, (Below.refl _ _).alloc (Nat.le_refl _) _⟩
def bytesB (a3 a4 a5 a6 a7 a8 : Int) : Bool := fitB a3 a6 && fitB a4 a7 && fitB a5 a8 && decide (a4 + a5 ≤ a3) && ((a4 + a5 == a3) == (a7 + a8 == a6))
theorem cells15 (a0 a1 a2 a3 a4 a5 a6 a7 a8 a9 a10 a11 a12 a13 a14 : Int) {T : TypeId} {w : World} {g : Nat} (h : w.heap[g]? = some (.cells #[.int .i64 a0, .int .i64 a1, .int .i64 a2, .int .i64 a3, .int .i64 a4, .int .i64 a5, .int .i64 a6, .int .i64 a7, .int .i64 a8, .int .i64 a9, .int .i64 a10, .int .i64 a11, .int .i64 a12, .int .i64 a13, .int .i64 a14] T (0, 0))) :
    w.cell? ⟨g, 0, none⟩ = some (.int .i64 a0) ∧ w.cell? ⟨g, 1, none⟩ = some (.int .i64 a1) ∧ w.cell? ⟨g, 2, none⟩ = some (.int .i64 a2) ∧ w.cell? ⟨g, 3, none⟩ = some (.int .i64 a3) ∧ w.cell? ⟨g, 4, none⟩ = some (.int .i64 a4) ∧ w.cell? ⟨g, 5, none⟩ = some (.int .i64 a5) ∧ w.cell? ⟨g, 6, none⟩ = some (.int .i64 a6) ∧ w.cell? ⟨g, 7, none⟩ = some (.int .i64 a7) ∧ w.cell? ⟨g, 8, none⟩ = some (.int .i64 a8) ∧ w.cell? ⟨g, 9, none⟩ = some (.int .i64 a9) ∧ w.cell? ⟨g, 10, none⟩ = some (.int .i64 a10) ∧ w.cell? ⟨g, 11, none⟩ = some (.int .i64 a11) ∧ w.cell? ⟨g, 12, none⟩ = some (.int .i64 a12) ∧ w.cell? ⟨g, 13, none⟩ = some (.int .i64 a13) ∧ w.cell? ⟨g, 14, none⟩ = some (.int .i64 a14) :=
  ⟨(blk_cell h 0).trans rfl, (blk_cell h 1).trans rfl, (blk_cell h 2).trans rfl, (blk_cell h 3).trans rfl, (blk_cell h 4).trans rfl, (blk_cell h 5).trans rfl, (blk_cell h 6).trans rfl, (blk_cell h 7).trans rfl, (blk_cell h 8).trans rfl, (blk_cell h 9).trans rfl, (blk_cell h 10).trans rfl, (blk_cell h 11).trans rfl, (blk_cell h 12).trans rfl, (blk_cell h 13).trans rfl, (blk_cell h 14).trans rfl⟩
theorem q_of {P : Program} {f : FuncId} {args : Array Value} {w : World} {v : Value} (h : Calls P f args w fun e w' => e = .returned v ∧ w = w') : Calls P f args w fun e w' => e = .returned v ∧ w' = w :=
  h.mono fun _ _ ⟨a, b⟩ => ⟨a, b.symm⟩
theorem fit_is (a p : Int) (r : Bool) (h0 : 0 ≤ p) (h1 : p ≤ 1048576) (c : fitB a p = r) (w : World) : Calls Try.prog 56 #[.int .i64 a, .int .i64 p] w fun e w' => e = .returned (.bool r) ∧ w = w' := by
  subst c; exact fit_any a p h0 h1 w
theorem keep15 (a0 a1 a2 a3 a4 a5 a6 a7 a8 a9 a10 a11 a12 a13 a14 : Int) {w0 w w1 : World} {B g : Nat} (hb : Below w.heap.size w w1) (h : (w.cell? ⟨g, 0, none⟩ = some (.int .i64 a0) ∧ w.cell? ⟨g, 1, none⟩ = some (.int .i64 a1) ∧ w.cell? ⟨g, 2, none⟩ = some (.int .i64 a2) ∧ w.cell? ⟨g, 3, none⟩ = some (.int .i64 a3) ∧ w.cell? ⟨g, 4, none⟩ = some (.int .i64 a4) ∧ w.cell? ⟨g, 5, none⟩ = some (.int .i64 a5) ∧ w.cell? ⟨g, 6, none⟩ = some (.int .i64 a6) ∧ w.cell? ⟨g, 7, none⟩ = some (.int .i64 a7) ∧ w.cell? ⟨g, 8, none⟩ = some (.int .i64 a8) ∧ w.cell? ⟨g, 9, none⟩ = some (.int .i64 a9) ∧ w.cell? ⟨g, 10, none⟩ = some (.int .i64 a10) ∧ w.cell? ⟨g, 11, none⟩ = some (.int .i64 a11) ∧ w.cell? ⟨g, 12, none⟩ = some (.int .i64 a12) ∧ w.cell? ⟨g, 13, none⟩ = some (.int .i64 a13) ∧ w.cell? ⟨g, 14, none⟩ = some (.int .i64 a14)) ∧ g < w.heap.size ∧ B ≤ w.heap.size ∧ Below B w0 w) : (w1.cell? ⟨g, 0, none⟩ = some (.int .i64 a0) ∧ w1.cell? ⟨g, 1, none⟩ = some (.int .i64 a1) ∧ w1.cell? ⟨g, 2, none⟩ = some (.int .i64 a2) ∧ w1.cell? ⟨g, 3, none⟩ = some (.int .i64 a3) ∧ w1.cell? ⟨g, 4, none⟩ = some (.int .i64 a4) ∧ w1.cell? ⟨g, 5, none⟩ = some (.int .i64 a5) ∧ w1.cell? ⟨g, 6, none⟩ = some (.int .i64 a6) ∧ w1.cell? ⟨g, 7, none⟩ = some (.int .i64 a7) ∧ w1.cell? ⟨g, 8, none⟩ = some (.int .i64 a8) ∧ w1.cell? ⟨g, 9, none⟩ = some (.int .i64 a9) ∧ w1.cell? ⟨g, 10, none⟩ = some (.int .i64 a10) ∧ w1.cell? ⟨g, 11, none⟩ = some (.int .i64 a11) ∧ w1.cell? ⟨g, 12, none⟩ = some (.int .i64 a12) ∧ w1.cell? ⟨g, 13, none⟩ = some (.int .i64 a13) ∧ w1.cell? ⟨g, 14, none⟩ = some (.int .i64 a14)) ∧ g < w1.heap.size ∧ B ≤ w1.heap.size ∧ Below B w0 w1 := by
  obtain ⟨h, hg, hB, hw⟩ := h
  have hs := hb.size
  refine ⟨?_, by omega, by omega, hw.trans (hb.mono hB)⟩
  simp only [hb.cell (p := ⟨g, _, none⟩) hg]
  exact h
theorem made15 (a0 a1 a2 a3 a4 a5 a6 a7 a8 a9 a10 a11 a12 a13 a14 : Int) {T : TypeId} (w : World) : ∃ w1 g, w.alloc (.cells #[.int .i64 a0, .int .i64 a1, .int .i64 a2, .int .i64 a3, .int .i64 a4, .int .i64 a5, .int .i64 a6, .int .i64 a7, .int .i64 a8, .int .i64 a9, .int .i64 a10, .int .i64 a11, .int .i64 a12, .int .i64 a13, .int .i64 a14] T) = w1 ∧ w.heap.size = g ∧ ((w1.cell? ⟨g, 0, none⟩ = some (.int .i64 a0) ∧ w1.cell? ⟨g, 1, none⟩ = some (.int .i64 a1) ∧ w1.cell? ⟨g, 2, none⟩ = some (.int .i64 a2) ∧ w1.cell? ⟨g, 3, none⟩ = some (.int .i64 a3) ∧ w1.cell? ⟨g, 4, none⟩ = some (.int .i64 a4) ∧ w1.cell? ⟨g, 5, none⟩ = some (.int .i64 a5) ∧ w1.cell? ⟨g, 6, none⟩ = some (.int .i64 a6) ∧ w1.cell? ⟨g, 7, none⟩ = some (.int .i64 a7) ∧ w1.cell? ⟨g, 8, none⟩ = some (.int .i64 a8) ∧ w1.cell? ⟨g, 9, none⟩ = some (.int .i64 a9) ∧ w1.cell? ⟨g, 10, none⟩ = some (.int .i64 a10) ∧ w1.cell? ⟨g, 11, none⟩ = some (.int .i64 a11) ∧ w1.cell? ⟨g, 12, none⟩ = some (.int .i64 a12) ∧ w1.cell? ⟨g, 13, none⟩ = some (.int .i64 a13) ∧ w1.cell? ⟨g, 14, none⟩ = some (.int .i64 a14)) ∧ g < w1.heap.size ∧ g ≤ w1.heap.size ∧ Below g w w1) :=
  ⟨_, _, rfl, rfl, cells15 _ _ _ _ _ _ _ _ _ _ _ _ _ _ _ (blk_new w (.cells #[.int .i64 a0, .int .i64 a1, .int .i64 a2, .int .i64 a3, .int .i64 a4, .int .i64 a5, .int .i64 a6, .int .i64 a7, .int .i64 a8, .int .i64 a9, .int .i64 a10, .int .i64 a11, .int .i64 a12, .int .i64 a13, .int .i64 a14] T (0, 0))), by simp, by simp, below_alloc (Below.refl w.heap.size w) (.cells #[.int .i64 a0, .int .i64 a1, .int .i64 a2, .int .i64 a3, .int .i64 a4, .int .i64 a5, .int .i64 a6, .int .i64 a7, .int .i64 a8, .int .i64 a9, .int .i64 a10, .int .i64 a11, .int .i64 a12, .int .i64 a13, .int .i64 a14] T (0, 0))⟩
def inB (m n x : Int) : Bool := decide (0 ≤ x ∧ x ≤ n * m)
set_option maxHeartbeats 4000000 in
set_option maxRecDepth 100000 in
theorem within2 (m n x y : Int) (hm : m = 60000000 ∨ m = 3600000000000000) (h0 : 0 ≤ n) (h1 : n ≤ 1024) (b g : Nat) (w : World) (e0 : w.cell? ⟨b, 0, none⟩ = some (.int .i64 x)) (e1 : w.cell? ⟨b, 1, none⟩ = some (.int .i64 y)) (e2 : w.cell? ⟨g, 9, none⟩ = some (.int .i64 n)) :
    Calls Try.prog 58 #[.int .i64 m, .slice (some ⟨b, 0, none⟩) 2 2, .pointer (some ⟨g, 0, none⟩)] w fun e w' => e = .returned (.bool (inB m n x && inB m n y)) ∧ w = w' := by
  rcases hm with rfl | rfl
  all_goals
    go_enter Try.func58, Try.ntmps58
    go_wp2
    refine wp_loop_rounds 3 ?_
    rw [rounds_succ]
    go_wp2
    all_goals try (rw [rounds_succ]; go_wp2)
    all_goals try (rw [rounds_succ]; go_wp2)
    all_goals
      go_ret
      exact ⟨ret_bool (by simp only [inB, Bool.and_eq_true, decide_eq_true_eq, Bool.false_eq_true, false_iff, eq_self, true_iff]; omega), rfl⟩
set_option maxHeartbeats 4000000 in
set_option maxRecDepth 100000 in
theorem within3 (m n x y z : Int) (hm : m = 60000000 ∨ m = 3600000000000000) (h0 : 0 ≤ n) (h1 : n ≤ 1024) (b g : Nat) (w : World) (e0 : w.cell? ⟨b, 0, none⟩ = some (.int .i64 x)) (e1 : w.cell? ⟨b, 1, none⟩ = some (.int .i64 y)) (e3 : w.cell? ⟨b, 2, none⟩ = some (.int .i64 z)) (e2 : w.cell? ⟨g, 9, none⟩ = some (.int .i64 n)) :
    Calls Try.prog 58 #[.int .i64 m, .slice (some ⟨b, 0, none⟩) 3 3, .pointer (some ⟨g, 0, none⟩)] w fun e w' => e = .returned (.bool (inB m n x && inB m n y && inB m n z)) ∧ w = w' := by
  rcases hm with rfl | rfl
  all_goals
    go_enter Try.func58, Try.ntmps58
    go_wp2
    refine wp_loop_rounds 4 ?_
    rw [rounds_succ]
    go_wp2
    all_goals try (rw [rounds_succ]; go_wp2)
    all_goals try (rw [rounds_succ]; go_wp2)
    all_goals try (rw [rounds_succ]; go_wp2)
    all_goals
      go_ret
      exact ⟨ret_bool (by simp only [inB, Bool.and_eq_true, decide_eq_true_eq, Bool.false_eq_true, false_iff, eq_self, true_iff]; omega), rfl⟩
def samplesB (a7 a9 a10 a11 a12 a13 a14 : Int) : Bool := decide (0 ≤ a9 ∧ a9 ≤ 1024 ∧ a9 ≤ a7) && (inB 60000000 a9 a10 && inB 60000000 a9 a11) && (inB 3600000000000000 a9 a12 && inB 3600000000000000 a9 a13 && inB 3600000000000000 a9 a14)
set_option maxHeartbeats 4000000 in
set_option maxRecDepth 100000 in
theorem samples_any (a0 a1 a2 a3 a4 a5 a6 a7 a8 a9 a10 a11 a12 a13 a14 : Int) (w : World) :
    Calls Try.prog 55 #[.agg #[.int .i64 a0, .int .i64 a1, .int .i64 a2, .int .i64 a3, .int .i64 a4, .int .i64 a5, .int .i64 a6, .int .i64 a7, .int .i64 a8, .int .i64 a9, .int .i64 a10, .int .i64 a11, .int .i64 a12, .int .i64 a13, .int .i64 a14]] w fun e w' => e = .returned (.bool (samplesB a7 a9 a10 a11 a12 a13 a14)) ∧ Below w.heap.size w w' := by
  go_enter Try.func55, Try.ntmps55
  go_wp2_with fail
  all_goals try (go_ret; exact ⟨ret_bool (by simp only [samplesB, Bool.and_eq_true, decide_eq_true_eq, Bool.false_eq_true, false_iff, eq_self, true_iff]; omega), by repeat (first | exact Below.refl _ _ | apply below_alloc | apply pw_below_drewN | apply below_drew1)⟩)
  refine (within2 60000000 a9 a10 a11 (.inl rfl) (by omega) (by omega) (w.heap.size + 1) w.heap.size _ ?q1 ?q2 ?q3).mono ?_
  case q1 => go_simp
  case q2 => go_simp
  case q3 => go_simp
  rintro e w1 ⟨rfl, rfl⟩
  cases h1 : (inB 60000000 a9 a10 && inB 60000000 a9 a11)
  · go_wp2_with fail
    go_ret
    exact ⟨ret_bool (by simp only [samplesB, h1, Bool.and_false, Bool.false_and]), by repeat (first | exact Below.refl _ _ | apply below_alloc | apply pw_below_drewN | apply below_drew1)⟩
  · go_wp2_with fail
    refine (within3 3600000000000000 a9 a12 a13 a14 (.inr rfl) (by omega) (by omega) (w.heap.size + 2) w.heap.size _ ?q1 ?q2 ?q3 ?q4).mono ?_
    case q1 => go_simp
    case q2 => go_simp
    case q3 => go_simp
    case q4 => go_simp
    rintro e w1 ⟨rfl, rfl⟩
    go_wp2_with fail
    go_ret
    have h2 : decide (0 ≤ a9 ∧ a9 ≤ 1024 ∧ a9 ≤ a7) = true := decide_eq_true (by omega)
    exact ⟨ret_bool (by simp only [samplesB, h1, h2, Bool.true_and]), by repeat (first | exact Below.refl _ _ | apply below_alloc | apply pw_below_drewN | apply below_drew1)⟩

end Go.Proofs.Ytcmbogdilplmlaa.P
