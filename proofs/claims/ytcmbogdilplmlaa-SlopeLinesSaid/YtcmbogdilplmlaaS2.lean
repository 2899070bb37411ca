import Derived.Test.YtcmbogdilplmlaaS1
namespace Go.Proofs.Ytcmbogdilplmlaa.P
open Go.RowKit Go.Proofs.YtcmbogdilplmlaaW.PrintWords Go.Proofs.YtcmbogdilplmlaaW.PrintLast Go.Proofs.YtcmbogdilplmlaaW.PrintMore Go.Proofs.YtcmbogdilplmlaaX
attribute [local go_sem] max2_int min2_int max_two min_two max_three min_three max_four min_four
set_option linter.unusedVariables false
set_option linter.unusedSimpArgs false
set_option maxHeartbeats 4000000 in
set_option maxRecDepth 100000 in
theorem bytes_false (a0 a1 a2 a3 a4 a5 a6 a7 a8 a9 a10 a11 a12 a13 a14 : Int) (h : countsB a6 a7 a8 = true) (c : bytesB a3 a4 a5 a6 a7 a8 = false) (d : fitB a3 a6 = false ∨ fitB a3 a6 = true ∧ fitB a4 a7 = false ∨ fitB a3 a6 = true ∧ fitB a4 a7 = true ∧ fitB a5 a8 = false ∨ fitB a3 a6 = true ∧ fitB a4 a7 = true ∧ fitB a5 a8 = true ∧ decide (a4 + a5 ≤ a3) = false) (w : World) :
    Calls Try.prog 54 #[.agg #[.int .i64 a0, .int .i64 a1, .int .i64 a2, .int .i64 a3, .int .i64 a4, .int .i64 a5, .int .i64 a6, .int .i64 a7, .int .i64 a8, .int .i64 a9, .int .i64 a10, .int .i64 a11, .int .i64 a12, .int .i64 a13, .int .i64 a14]] w fun e w' => e = .returned (.bool false) ∧ Below w.heap.size w w' := by
  have h := of_decide_eq_true h
  clear c
  have hc : 0 ≤ a6 ∧ a6 ≤ 1048576 ∧ 0 ≤ a7 ∧ a7 ≤ 1048576 ∧ 0 ≤ a8 ∧ a8 ≤ 1048576 := by omega
  have e3 : fitB a4 a7 = true → fitB a5 a8 = true → IntKind.i64.wrap (a4 + a5) = a4 + a5 := fun c1 c2 => IntWalk.i64_in _ (by have := of_decide_eq_true c1; have := of_decide_eq_true c2; omega)
  obtain ⟨h60, h61, h70, h71, h80, h81⟩ := hc
  clear h
  rcases d with d | ⟨c, d⟩ | ⟨c, c1, d⟩ | ⟨c, c1, c2, d⟩
  all_goals first | (replace e3 := e3 c1 c2) | clear e3
  all_goals
    go_enter Try.func54, Try.ntmps54
    go_wp2
    go_quiet ((go_at_call 56; exact Calls.quiet_of_same (q_of (fit_is _ _ _ (by assumption) (by assumption) (by assumption) _))))
    go_wp2
    go_ret
    exact ⟨rfl, by repeat (first | exact Below.refl _ _ | apply below_alloc | apply pw_below_drewN | apply below_drew1)⟩
set_option maxHeartbeats 4000000 in
set_option maxRecDepth 100000 in
theorem bytes_true (a0 a1 a2 a3 a4 a5 a6 a7 a8 a9 a10 a11 a12 a13 a14 : Int) (h : countsB a6 a7 a8 = true) (c : fitB a3 a6 = true) (c1 : fitB a4 a7 = true) (c2 : fitB a5 a8 = true) (c3 : decide (a4 + a5 ≤ a3) = true) (w : World) :
    Calls Try.prog 54 #[.agg #[.int .i64 a0, .int .i64 a1, .int .i64 a2, .int .i64 a3, .int .i64 a4, .int .i64 a5, .int .i64 a6, .int .i64 a7, .int .i64 a8, .int .i64 a9, .int .i64 a10, .int .i64 a11, .int .i64 a12, .int .i64 a13, .int .i64 a14]] w fun e w' => e = .returned (.bool ((a4 + a5 == a3) == (a7 + a8 == a6))) ∧ Below w.heap.size w w' := by
  have h := of_decide_eq_true h
  have hc : 0 ≤ a6 ∧ a6 ≤ 1048576 ∧ 0 ≤ a7 ∧ a7 ≤ 1048576 ∧ 0 ≤ a8 ∧ a8 ≤ 1048576 := by omega
  have f1 := of_decide_eq_true c1
  have f2 := of_decide_eq_true c2
  have e3 : IntKind.i64.wrap (a4 + a5) = a4 + a5 := IntWalk.i64_in _ (by omega)
  obtain ⟨h60, h61, h70, h71, h80, h81⟩ := hc
  clear f1 f2 h
  go_enter Try.func54, Try.ntmps54
  go_wp2
  obtain ⟨w1, g, e1, e2, HS⟩ := made15 a0 a1 a2 a3 a4 a5 a6 a7 a8 a9 a10 a11 a12 a13 a14 (T := 69) w
  have HS := Aside0.mk HS
  simp only [e1, e2]
  clear e1
  have HS := HS.out
  go_split_ands
  go_region_held3 (fun w' => (w'.cell? ⟨g, 0, none⟩ = some (.int .i64 a0) ∧ w'.cell? ⟨g, 1, none⟩ = some (.int .i64 a1) ∧ w'.cell? ⟨g, 2, none⟩ = some (.int .i64 a2) ∧ w'.cell? ⟨g, 3, none⟩ = some (.int .i64 a3) ∧ w'.cell? ⟨g, 4, none⟩ = some (.int .i64 a4) ∧ w'.cell? ⟨g, 5, none⟩ = some (.int .i64 a5) ∧ w'.cell? ⟨g, 6, none⟩ = some (.int .i64 a6) ∧ w'.cell? ⟨g, 7, none⟩ = some (.int .i64 a7) ∧ w'.cell? ⟨g, 8, none⟩ = some (.int .i64 a8) ∧ w'.cell? ⟨g, 9, none⟩ = some (.int .i64 a9) ∧ w'.cell? ⟨g, 10, none⟩ = some (.int .i64 a10) ∧ w'.cell? ⟨g, 11, none⟩ = some (.int .i64 a11) ∧ w'.cell? ⟨g, 12, none⟩ = some (.int .i64 a12) ∧ w'.cell? ⟨g, 13, none⟩ = some (.int .i64 a13) ∧ w'.cell? ⟨g, 14, none⟩ = some (.int .i64 a14)) ∧ g < w'.heap.size ∧ g ≤ w'.heap.size ∧ Below g w w')
    (first
      | (refine keep15 _ _ _ _ _ _ _ _ _ _ _ _ _ _ _ (below_drew1 (Below.refl _ _)) ?_; (repeat' (first | assumption | apply And.intro)); done)
      | (refine keep15 _ _ _ _ _ _ _ _ _ _ _ _ _ _ _ (by assumption) ?_; (repeat' (first | assumption | apply And.intro)); done))
    ((first
      | (go_at_call 56; (with_reducible refine (fit_is _ _ true (by assumption) (by assumption) (by assumption) _).mono ?_); rintro e w1 ⟨rfl, rfl⟩)
      | (go_at_call 57; (with_reducible refine (resolved_any _ _ _ _ _ _ _ _ _ _ _ _ _ _ _ (by assumption) (by assumption) (by assumption) (by assumption) _).mono ?_); rintro e w1 ⟨rfl, hb⟩)))
  go_wp2
  go_ret
  exact ⟨rfl, by rw [e2]; first | assumption | (go_split_ands; assumption)⟩
theorem bytes_any (a0 a1 a2 a3 a4 a5 a6 a7 a8 a9 a10 a11 a12 a13 a14 : Int) (h : countsB a6 a7 a8 = true) (w : World) :
    Calls Try.prog 54 #[.agg #[.int .i64 a0, .int .i64 a1, .int .i64 a2, .int .i64 a3, .int .i64 a4, .int .i64 a5, .int .i64 a6, .int .i64 a7, .int .i64 a8, .int .i64 a9, .int .i64 a10, .int .i64 a11, .int .i64 a12, .int .i64 a13, .int .i64 a14]] w fun e w' => e = .returned (.bool (bytesB a3 a4 a5 a6 a7 a8)) ∧ Below w.heap.size w w' := by
  cases c : fitB a3 a6
  · have e : bytesB a3 a4 a5 a6 a7 a8 = false := by simp [bytesB, c]
    rw [e]; exact bytes_false a0 a1 a2 a3 a4 a5 a6 a7 a8 a9 a10 a11 a12 a13 a14 h e (.inl c) w
  cases c1 : fitB a4 a7
  · have e : bytesB a3 a4 a5 a6 a7 a8 = false := by simp [bytesB, c1]
    rw [e]; exact bytes_false a0 a1 a2 a3 a4 a5 a6 a7 a8 a9 a10 a11 a12 a13 a14 h e (.inr (.inl ⟨c, c1⟩)) w
  cases c2 : fitB a5 a8
  · have e : bytesB a3 a4 a5 a6 a7 a8 = false := by simp [bytesB, c2]
    rw [e]; exact bytes_false a0 a1 a2 a3 a4 a5 a6 a7 a8 a9 a10 a11 a12 a13 a14 h e (.inr (.inr (.inl ⟨c, c1, c2⟩))) w
  cases c3 : decide (a4 + a5 ≤ a3)
  · have e : bytesB a3 a4 a5 a6 a7 a8 = false := by simp [bytesB, c3]
    rw [e]; exact bytes_false a0 a1 a2 a3 a4 a5 a6 a7 a8 a9 a10 a11 a12 a13 a14 h e (.inr (.inr (.inr ⟨c, c1, c2, c3⟩))) w
  · have e : bytesB a3 a4 a5 a6 a7 a8 = ((a4 + a5 == a3) == (a7 + a8 == a6)) := by simp [bytesB, c, c1, c2, c3]
    rw [e]; exact bytes_true a0 a1 a2 a3 a4 a5 a6 a7 a8 a9 a10 a11 a12 a13 a14 h c c1 c2 c3 w

end Go.Proofs.Ytcmbogdilplmlaa.P
