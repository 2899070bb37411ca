import Derived.Test.YtcmbogdilplmlaaS2
import Derived.Test.YtcmbogdilplmlaaS1
namespace Go.Proofs.Ytcmbogdilplmlaa.P
open Go.RowKit Go.Proofs.YtcmbogdilplmlaaW.PrintWords Go.Proofs.YtcmbogdilplmlaaW.PrintLast Go.Proofs.YtcmbogdilplmlaaW.PrintMore Go.Proofs.YtcmbogdilplmlaaX
attribute [local go_sem] max2_int min2_int max_two min_two max_three min_three max_four min_four
set_option linter.unusedVariables false
set_option linter.unusedSimpArgs false
def rightB (a0 a1 a2 a3 a4 a5 a6 a7 a8 a9 a10 a11 a12 a13 a14 : Int) : Bool := decide (0 ≤ a0) && timeB a1 && (decide (a2 = -1) || timeB a2 && decide (a1 ≤ a2)) && countsB a6 a7 a8 && bytesB a3 a4 a5 a6 a7 a8 && samplesB a7 a9 a10 a11 a12 a13 a14
theorem time_is (a : Int) (r : Bool) (h : timeB a = r) (w : World) : Calls Try.prog 48 #[.int .i64 a] w fun e w' => e = .returned (.bool r) ∧ w = w' := by
  subst h; exact time_any a w
theorem right_no (a0 a1 a2 a3 a4 a5 a6 a7 a8 a9 a10 a11 a12 a13 a14 : Int) (h : a0 < 0 ∨ timeB a1 = false ∨ (a2 ≠ -1 ∧ (timeB a2 = false ∨ a2 < a1)) ∨ countsB a6 a7 a8 = false ∨ bytesB a3 a4 a5 a6 a7 a8 = false ∨ samplesB a7 a9 a10 a11 a12 a13 a14 = false) :
    Ending.returned (.bool false) = .returned (.bool (rightB a0 a1 a2 a3 a4 a5 a6 a7 a8 a9 a10 a11 a12 a13 a14)) := by
  have e : rightB a0 a1 a2 a3 a4 a5 a6 a7 a8 a9 a10 a11 a12 a13 a14 = false := by
    unfold rightB
    rcases h with h | h | ⟨h, h1 | h1⟩ | h | h | h
    · rw [decide_eq_false (by omega)]; rfl
    · rw [h]; simp
    · rw [h1, decide_eq_false h]; simp
    · rw [decide_eq_false h, decide_eq_false (show ¬ a1 ≤ a2 by omega)]; simp
    · rw [h]; simp
    · rw [h]; simp
    · rw [h]; simp
  rw [e]
theorem right_yes (a0 a1 a2 a3 a4 a5 a6 a7 a8 a9 a10 a11 a12 a13 a14 : Int) (h : 0 ≤ a0) (h1 : timeB a1 = true) (h2 : a2 = -1 ∨ timeB a2 = true ∧ a1 ≤ a2) (h3 : countsB a6 a7 a8 = true) (h4 : bytesB a3 a4 a5 a6 a7 a8 = true) :
    Ending.returned (.bool (samplesB a7 a9 a10 a11 a12 a13 a14)) = .returned (.bool (rightB a0 a1 a2 a3 a4 a5 a6 a7 a8 a9 a10 a11 a12 a13 a14)) := by
  have e : rightB a0 a1 a2 a3 a4 a5 a6 a7 a8 a9 a10 a11 a12 a13 a14 = samplesB a7 a9 a10 a11 a12 a13 a14 := by
    unfold rightB
    rw [decide_eq_true h, h1, h3, h4]
    rcases h2 with h2 | ⟨h2, h5⟩
    · rw [decide_eq_true h2]; simp
    · rw [h2, decide_eq_true h5]; simp
  rw [e]
set_option maxHeartbeats 8000000 in
set_option maxRecDepth 100000 in
theorem right_any (a0 a1 a2 a3 a4 a5 a6 a7 a8 a9 a10 a11 a12 a13 a14 : Int) (w : World) :
    Calls Try.prog 51 #[.agg #[.int .i64 a0, .int .i64 a1, .int .i64 a2, .int .i64 a3, .int .i64 a4, .int .i64 a5, .int .i64 a6, .int .i64 a7, .int .i64 a8, .int .i64 a9, .int .i64 a10, .int .i64 a11, .int .i64 a12, .int .i64 a13, .int .i64 a14]] w fun e w' => e = .returned (.bool (rightB a0 a1 a2 a3 a4 a5 a6 a7 a8 a9 a10 a11 a12 a13 a14)) ∧ Below w.heap.size w w' := by
  rcases Int.lt_or_le a0 0 with z | z
  · go_enter Try.func51, Try.ntmps51
    go_wp2_with fail
    go_ret
    exact ⟨right_no _ _ _ _ _ _ _ _ _ _ _ _ _ _ _ (.inl z), by repeat (first | exact Below.refl _ _ | apply below_alloc | apply pw_below_drewN | apply below_drew1)⟩
  cases t1 : timeB a1
  · go_enter Try.func51, Try.ntmps51
    go_wp2_with (go_at_call 48; (with_reducible refine (time_is _ _ (by assumption) _).mono ?_); rintro e w1 ⟨rfl, rfl⟩)
    go_ret
    exact ⟨right_no _ _ _ _ _ _ _ _ _ _ _ _ _ _ _ (.inr (.inl t1)), by repeat (first | exact Below.refl _ _ | apply below_alloc | apply pw_below_drewN | apply below_drew1)⟩
  have hz : decide (a0 < 0) = false := decide_eq_false (by omega)
  have pre : (∃ n : (a2 != -1) = true, timeB a2 = false ∨ timeB a2 = true ∧ decide (a2 < a1) = true) ∨ (a2 = -1 ∨ (a2 != -1) = true ∧ timeB a2 = true ∧ decide (a2 < a1) = false) := by
    by_cases n : a2 = -1
    · exact .inr (.inl n)
    · have n' : (a2 != -1) = true := by simpa using n
      cases t2 : timeB a2
      · exact .inl ⟨n', .inl rfl⟩
      · rcases Int.lt_or_le a2 a1 with l | l
        · exact .inl ⟨n', .inr ⟨rfl, decide_eq_true l⟩⟩
        · exact .inr (.inr ⟨n', rfl, decide_eq_false (by omega)⟩)
  rcases pre with ⟨n, t2 | ⟨t2, l⟩⟩ | pre
  · go_enter Try.func51, Try.ntmps51
    go_wp2_with (go_at_call 48; (with_reducible refine (time_is _ _ (by assumption) _).mono ?_); rintro e w1 ⟨rfl, rfl⟩)
    go_ret
    exact ⟨right_no _ _ _ _ _ _ _ _ _ _ _ _ _ _ _ (.inr (.inr (.inl ⟨by simpa using n, .inl t2⟩))), by repeat (first | exact Below.refl _ _ | apply below_alloc | apply pw_below_drewN | apply below_drew1)⟩
  · go_enter Try.func51, Try.ntmps51
    go_wp2_with (go_at_call 48; (with_reducible refine (time_is _ _ (by assumption) _).mono ?_); rintro e w1 ⟨rfl, rfl⟩)
    go_ret
    exact ⟨right_no _ _ _ _ _ _ _ _ _ _ _ _ _ _ _ (.inr (.inr (.inl ⟨by simpa using n, .inr (of_decide_eq_true l)⟩))), by repeat (first | exact Below.refl _ _ | apply below_alloc | apply pw_below_drewN | apply below_drew1)⟩
  have pre' : a2 = -1 ∨ timeB a2 = true ∧ a1 ≤ a2 := by
    rcases pre with h | ⟨_, h, h1⟩
    · exact .inl h
    · exact .inr ⟨h, by have := of_decide_eq_false h1; omega⟩
  have Y := fun h3 h4 => Aside0.mk (right_yes a0 a1 a2 a3 a4 a5 a6 a7 a8 a9 a10 a11 a12 a13 a14 z t1 pre' h3 h4)
  have N := fun h => right_no a0 a1 a2 a3 a4 a5 a6 a7 a8 a9 a10 a11 a12 a13 a14 (.inr (.inr (.inr h)))
  have N := Aside0.mk N
  have Y := Aside0.mk Y
  clear pre' z
  replace pre : (a2 != -1) = false ∨ (a2 != -1) = true ∧ timeB a2 = true ∧ decide (a2 < a1) = false := by
    rcases pre with h | h
    · exact .inl (by simp [h])
    · exact .inr h
  rcases pre with n | ⟨n, t2, l⟩
  all_goals
    go_enter Try.func51, Try.ntmps51
    go_wp2_with (go_at_call 48; (with_reducible refine (time_is _ _ (by assumption) _).mono ?_); rintro e w1 ⟨rfl, rfl⟩)
    obtain ⟨w1, g, e1, e2, HS⟩ := made15 a0 a1 a2 a3 a4 a5 a6 a7 a8 a9 a10 a11 a12 a13 a14 (T := 71) w
    have HS := Aside0.mk HS
    simp only [e1, e2]
    clear e1
    refine (counts_any _ _ _ _ _ _ _ _ _ _ _ _ _ _ _ _).mono ?_
    rintro e w2 ⟨rfl, hb⟩
    have HS2 := Aside0.mk (keep15 _ _ _ _ _ _ _ _ _ _ _ _ _ _ _ hb HS.out)
    clear hb HS
    cases h3 : countsB a6 a7 a8
    · go_wp2_with fail
      go_ret
      exact ⟨N.out (.inl h3), by rw [e2]; exact HS2.out.2.2.2⟩
    have c := HS2.out.1
    go_split_ands
    go_wp2_with fail
    refine (bytes_any _ _ _ _ _ _ _ _ _ _ _ _ _ _ _ h3 _).mono ?_
    rintro e w3 ⟨rfl, hb⟩
    have HS3 := Aside0.mk (keep15 _ _ _ _ _ _ _ _ _ _ _ _ _ _ _ hb HS2.out)
    clear hb HS2
    cases h4 : bytesB a3 a4 a5 a6 a7 a8
    · go_wp2_with fail
      go_ret
      exact ⟨N.out (.inr (.inl h4)), by rw [e2]; exact HS3.out.2.2.2⟩
    have c := HS3.out.1
    go_split_ands
    go_wp2_with fail
    refine (samples_any _ _ _ _ _ _ _ _ _ _ _ _ _ _ _ _).mono ?_
    rintro e w4 ⟨rfl, hb⟩
    have HS4 := Aside0.mk (keep15 _ _ _ _ _ _ _ _ _ _ _ _ _ _ _ hb HS3.out)
    clear hb HS3
    go_wp2_with fail
    go_ret
    exact ⟨(Y.out h3 h4).out, by rw [e2]; exact HS4.out.2.2.2⟩

end Go.Proofs.Ytcmbogdilplmlaa.P
