-- Printed by a program of this session (wip/pp.py): functions, contracts, rows. Not trusted: Lean checks it.
import Derived.Test.YtpfhlimcemkneaaPx0
import Derived.Test.YtpfhlimcemkneaaPx3
import Derived.Test.YtpfhlimcemkneaaPx4
namespace Go.Proofs.Ytpfhlimcemkneaa.P
open Go.RowKit Go.Proofs.YtpfhlimcemkneaaW.PrintWords Go.Proofs.YtpfhlimcemkneaaW.PrintLast Go.Proofs.YtpfhlimcemkneaaW.PrintMore Go.Proofs.YtpfhlimcemkneaaX
attribute [local go_sem] max2_int min2_int max_two min_two max_three min_three max_four min_four   -- for this text's walks alone
set_option linter.unusedVariables false
set_option linter.unusedSimpArgs false

/-! ### pacemakerlaw04_ExpoGrows: function 4 -/
def pacemakerlaw04_ExpoGrows.f (k : Nat) (a0 : Int) (a1 : Int) : Option (Bool) := if a0 > a1 then ((pacemakerlaw04_powered.f k).bind fun t101 => (some t101)) else ((pacemakerlaw04_powered.f k).bind fun t102 => (if t102 = true then ((expo_Log2.f k a0).bind fun t103 => ((expo_Log2.f k a1).bind fun t104 => (if t103 ≤ t104 then ((expo_Exp2.f k a0).bind fun t105 => ((expo_Exp2.f k a1).bind fun t106 => (if t105 ≤ t106 then ((expo_Factor.f k a0).bind fun t107 => ((expo_Factor.f k a1).bind fun t108 => (if t107 ≥ t108 then ((expo_Factor.f k a1).bind fun t109 => (if t109 > 1152921504606846976 then ((expo_Exp2.f k a0).bind fun t110 => (some (decide (t110 ≥ 0)))) else (none))) else (none)))) else (none)))) else (none)))) else (none)))
theorem pacemakerlaw04_ExpoGrows.mono : ∀ a0 a1 k, LeO (pacemakerlaw04_ExpoGrows.f k a0 a1) (pacemakerlaw04_ExpoGrows.f (k + 1) a0 a1) := by
  intro a0 a1 k
  unfold pacemakerlaw04_ExpoGrows.f
  repeat' first
      | (with_reducible exact expo_Exp2.mono _ _)
      | (with_reducible exact expo_Factor.mono _ _)
      | (with_reducible exact expo_Log2.mono _ _)
      | (with_reducible exact pacemakerlaw04_powered.mono _)
      | (with_reducible exact LeO.refl _)
      | (with_reducible exact LeO.none _)
      | (with_reducible refine LeO.ite ?_ ?_)
      | (with_reducible refine LeO.bind ?_ (fun _ => ?_))
      | exact expo_Exp2.mono _ _
      | exact expo_Factor.mono _ _
      | exact expo_Log2.mono _ _
      | exact pacemakerlaw04_powered.mono _
      | exact LeO.none _
      | refine LeO.ite ?_ ?_
      | refine LeO.bind ?_ (fun _ => ?_)
set_option maxHeartbeats 8000000 in
set_option maxRecDepth 100000 in
theorem pacemakerlaw04_ExpoGrows.calls (k : Nat) (a0 : Int) (a1 : Int) (r : Bool) (w : World) (h : pacemakerlaw04_ExpoGrows.f k a0 a1 = some r) :
    Calls Try.prog 4 #[.int .i64 a0, .int .i64 a1] w fun e w' => e = .returned (.bool r) ∧ Below w.heap.size w w' := by
  have HB := Aside0.mk (Below.refl w.heap.size w)
  have H : (if a0 > a1 then ((pacemakerlaw04_powered.f k).bind fun t101 => (some t101)) else ((pacemakerlaw04_powered.f k).bind fun t102 => (if t102 = true then ((expo_Log2.f k a0).bind fun t103 => ((expo_Log2.f k a1).bind fun t104 => (if t103 ≤ t104 then ((expo_Exp2.f k a0).bind fun t105 => ((expo_Exp2.f k a1).bind fun t106 => (if t105 ≤ t106 then ((expo_Factor.f k a0).bind fun t107 => ((expo_Factor.f k a1).bind fun t108 => (if t107 ≥ t108 then ((expo_Factor.f k a1).bind fun t109 => (if t109 > 1152921504606846976 then ((expo_Exp2.f k a0).bind fun t110 => (some (decide (t110 ≥ 0)))) else (none))) else (none)))) else (none)))) else (none)))) else (none)))) = some r := h
  clear h
  by_cases c3 : a0 > a1
  · rw [if_pos c3] at H
    have c3b0 : decide (a1 < a0) = true := decide_eq_true c3
    clear c3
    replace H := Option.bind_eq_some_iff.mp H
    obtain ⟨t101, A40, H⟩ := H
    replace H : (some t101) = some r := H
    have A4 := Aside0.mk A40
    clear A40
    obtain rfl := Option.some.inj H
    go_enter Try.func4, Try.ntmps4
    go_wp2_with (first | ((with_reducible refine gate_callee (f := 14) rfl ?_); refine goesL_ (some 8) rfl rfl Try.func14 (by kernel_rfl) rfl #[] rfl (by (try simp only [List.map_toArray, List.map_cons, List.map_nil]); first | done | rfl | (simp only [List.length_drop, List.length_take]; rfl)) ?_; (with_reducible refine (pacemakerlaw04_powered.calls k  t101 _ A4.out).mono ?_); rintro e w5 ⟨rfl, hb⟩; refine ⟨_, rfl, ?_⟩; have n0_ := Aside0.mk (below_step (by repeat (first | (with_reducible first | exact HB.out | apply below_alloc | apply pw_below_drewN | apply below_drew1) | exact HB.out)) hb); clear HB; have HB := n0_; clear n0_; (try clear hb); (try clear hb2); (try clear hk); (try clear hi)))
    go_ret
    exact ⟨by first | rfl | (simp [errW_none, errW_some] <;> rfl) | (simp [*, errW_none, errW_some] <;> rfl), by repeat (first | (with_reducible first | exact HB.out | apply below_alloc | apply pw_below_drewN | apply below_drew1) | exact HB.out)⟩
  · rw [if_neg c3] at H
    have c3b0 : decide (a1 < a0) = false := decide_eq_false c3
    clear c3
    replace H := Option.bind_eq_some_iff.mp H
    obtain ⟨t102, A60, H⟩ := H
    replace H : (if t102 = true then ((expo_Log2.f k a0).bind fun t103 => ((expo_Log2.f k a1).bind fun t104 => (if t103 ≤ t104 then ((expo_Exp2.f k a0).bind fun t105 => ((expo_Exp2.f k a1).bind fun t106 => (if t105 ≤ t106 then ((expo_Factor.f k a0).bind fun t107 => ((expo_Factor.f k a1).bind fun t108 => (if t107 ≥ t108 then ((expo_Factor.f k a1).bind fun t109 => (if t109 > 1152921504606846976 then ((expo_Exp2.f k a0).bind fun t110 => (some (decide (t110 ≥ 0)))) else (none))) else (none)))) else (none)))) else (none)))) else (none)) = some r := H
    have A6 := Aside0.mk A60
    clear A60
    by_cases c7 : t102 = true
    · subst c7
      have H1 : ((expo_Log2.f k a0).bind fun t103 => ((expo_Log2.f k a1).bind fun t104 => (if t103 ≤ t104 then ((expo_Exp2.f k a0).bind fun t105 => ((expo_Exp2.f k a1).bind fun t106 => (if t105 ≤ t106 then ((expo_Factor.f k a0).bind fun t107 => ((expo_Factor.f k a1).bind fun t108 => (if t107 ≥ t108 then ((expo_Factor.f k a1).bind fun t109 => (if t109 > 1152921504606846976 then ((expo_Exp2.f k a0).bind fun t110 => (some (decide (t110 ≥ 0)))) else (none))) else (none)))) else (none)))) else (none)))) = some r := by rw [if_pos rfl] at H; exact H
      clear H
      have H := H1
      clear H1
      replace H := Option.bind_eq_some_iff.mp H
      obtain ⟨t103, A80, H⟩ := H
      replace H : ((expo_Log2.f k a1).bind fun t104 => (if t103 ≤ t104 then ((expo_Exp2.f k a0).bind fun t105 => ((expo_Exp2.f k a1).bind fun t106 => (if t105 ≤ t106 then ((expo_Factor.f k a0).bind fun t107 => ((expo_Factor.f k a1).bind fun t108 => (if t107 ≥ t108 then ((expo_Factor.f k a1).bind fun t109 => (if t109 > 1152921504606846976 then ((expo_Exp2.f k a0).bind fun t110 => (some (decide (t110 ≥ 0)))) else (none))) else (none)))) else (none)))) else (none))) = some r := H
      have A8 := Aside0.mk A80
      clear A80
      replace H := Option.bind_eq_some_iff.mp H
      obtain ⟨t104, A90, H⟩ := H
      replace H : (if t103 ≤ t104 then ((expo_Exp2.f k a0).bind fun t105 => ((expo_Exp2.f k a1).bind fun t106 => (if t105 ≤ t106 then ((expo_Factor.f k a0).bind fun t107 => ((expo_Factor.f k a1).bind fun t108 => (if t107 ≥ t108 then ((expo_Factor.f k a1).bind fun t109 => (if t109 > 1152921504606846976 then ((expo_Exp2.f k a0).bind fun t110 => (some (decide (t110 ≥ 0)))) else (none))) else (none)))) else (none)))) else (none)) = some r := H
      have A9 := Aside0.mk A90
      clear A90
      by_cases c10 : t103 ≤ t104
      · rw [if_pos c10] at H
        have c10b0 : decide (t103 ≤ t104) = true := decide_eq_true c10
        clear c10
        replace H := Option.bind_eq_some_iff.mp H
        obtain ⟨t105, A110, H⟩ := H
        replace H : ((expo_Exp2.f k a1).bind fun t106 => (if t105 ≤ t106 then ((expo_Factor.f k a0).bind fun t107 => ((expo_Factor.f k a1).bind fun t108 => (if t107 ≥ t108 then ((expo_Factor.f k a1).bind fun t109 => (if t109 > 1152921504606846976 then ((expo_Exp2.f k a0).bind fun t110 => (some (decide (t110 ≥ 0)))) else (none))) else (none)))) else (none))) = some r := H
        have A11 := Aside0.mk A110
        clear A110
        replace H := Option.bind_eq_some_iff.mp H
        obtain ⟨t106, A120, H⟩ := H
        replace H : (if t105 ≤ t106 then ((expo_Factor.f k a0).bind fun t107 => ((expo_Factor.f k a1).bind fun t108 => (if t107 ≥ t108 then ((expo_Factor.f k a1).bind fun t109 => (if t109 > 1152921504606846976 then ((expo_Exp2.f k a0).bind fun t110 => (some (decide (t110 ≥ 0)))) else (none))) else (none)))) else (none)) = some r := H
        have A12 := Aside0.mk A120
        clear A120
        by_cases c13 : t105 ≤ t106
        · rw [if_pos c13] at H
          have c13b0 : decide (t105 ≤ t106) = true := decide_eq_true c13
          clear c13
          replace H := Option.bind_eq_some_iff.mp H
          obtain ⟨t107, A140, H⟩ := H
          replace H : ((expo_Factor.f k a1).bind fun t108 => (if t107 ≥ t108 then ((expo_Factor.f k a1).bind fun t109 => (if t109 > 1152921504606846976 then ((expo_Exp2.f k a0).bind fun t110 => (some (decide (t110 ≥ 0)))) else (none))) else (none))) = some r := H
          have A14 := Aside0.mk A140
          clear A140
          replace H := Option.bind_eq_some_iff.mp H
          obtain ⟨t108, A150, H⟩ := H
          replace H : (if t107 ≥ t108 then ((expo_Factor.f k a1).bind fun t109 => (if t109 > 1152921504606846976 then ((expo_Exp2.f k a0).bind fun t110 => (some (decide (t110 ≥ 0)))) else (none))) else (none)) = some r := H
          have A15 := Aside0.mk A150
          clear A150
          by_cases c16 : t107 ≥ t108
          · rw [if_pos c16] at H
            have c16b0 : decide (t108 ≤ t107) = true := decide_eq_true c16
            clear c16
            replace H := Option.bind_eq_some_iff.mp H
            obtain ⟨t109, A170, H⟩ := H
            replace H : (if t109 > 1152921504606846976 then ((expo_Exp2.f k a0).bind fun t110 => (some (decide (t110 ≥ 0)))) else (none)) = some r := H
            have A17 := Aside0.mk A170
            clear A170
            by_cases c18 : t109 > 1152921504606846976
            · rw [if_pos c18] at H
              have c18b0 : decide (1152921504606846976 < t109) = true := decide_eq_true c18
              clear c18
              replace H := Option.bind_eq_some_iff.mp H
              obtain ⟨t110, A190, H⟩ := H
              replace H : (some (decide (t110 ≥ 0))) = some r := H
              have A19 := Aside0.mk A190
              clear A190
              obtain rfl := Option.some.inj H
              have hsm0 := A17.out.symm.trans A15.out
              simp only [Option.some.injEq, Prod.mk.injEq] at hsm0
              obtain rfl := hsm0
              have hsm1 := A19.out.symm.trans A11.out
              simp only [Option.some.injEq, Prod.mk.injEq] at hsm1
              obtain rfl := hsm1
              go_enter Try.func4, Try.ntmps4
              go_wp2_with (first | ((with_reducible refine gate_callee (f := 14) rfl ?_); refine goesL_ (some 9) rfl rfl Try.func14 (by kernel_rfl) rfl #[] rfl (by (try simp only [List.map_toArray, List.map_cons, List.map_nil]); first | done | rfl | (simp only [List.length_drop, List.length_take]; rfl)) ?_; (with_reducible refine (pacemakerlaw04_powered.calls k  true _ A6.out).mono ?_); rintro e w20 ⟨rfl, hb⟩; refine ⟨_, rfl, ?_⟩; have n0_ := Aside0.mk (below_step (by repeat (first | (with_reducible first | exact HB.out | apply below_alloc | apply pw_below_drewN | apply below_drew1) | exact HB.out)) hb); clear HB; have HB := n0_; clear n0_; (try clear hb); (try clear hb2); (try clear hk); (try clear hi)) | (go_at_call 15; (with_reducible refine (expo_Log2.calls k a0 t103 _ A8.out).mono ?_); rintro e w21 ⟨rfl, hb⟩; have n0_ := Aside0.mk (below_step (by repeat (first | (with_reducible first | exact HB.out | apply below_alloc | apply pw_below_drewN | apply below_drew1) | exact HB.out)) hb); clear HB; have HB := n0_; clear n0_; (try clear hb); (try clear hb2); (try clear hk); (try clear hi)) | (go_at_call 15; (with_reducible refine (expo_Log2.calls k a1 t104 _ A9.out).mono ?_); rintro e w22 ⟨rfl, hb⟩; have n0_ := Aside0.mk (below_step (by repeat (first | (with_reducible first | exact HB.out | apply below_alloc | apply pw_below_drewN | apply below_drew1) | exact HB.out)) hb); clear HB; have HB := n0_; clear n0_; (try clear hb); (try clear hb2); (try clear hk); (try clear hi)) | (go_at_call 17; (with_reducible refine (expo_Exp2.calls k a0 t110 _ A11.out).mono ?_); rintro e w23 ⟨rfl, hb⟩; have n0_ := Aside0.mk (below_step (by repeat (first | (with_reducible first | exact HB.out | apply below_alloc | apply pw_below_drewN | apply below_drew1) | exact HB.out)) hb); clear HB; have HB := n0_; clear n0_; (try clear hb); (try clear hb2); (try clear hk); (try clear hi)) | (go_at_call 17; (with_reducible refine (expo_Exp2.calls k a1 t106 _ A12.out).mono ?_); rintro e w24 ⟨rfl, hb⟩; have n0_ := Aside0.mk (below_step (by repeat (first | (with_reducible first | exact HB.out | apply below_alloc | apply pw_below_drewN | apply below_drew1) | exact HB.out)) hb); clear HB; have HB := n0_; clear n0_; (try clear hb); (try clear hb2); (try clear hk); (try clear hi)) | (go_at_call 19; (with_reducible refine (expo_Factor.calls k a0 t107 _ A14.out).mono ?_); rintro e w25 ⟨rfl, hb⟩; have n0_ := Aside0.mk (below_step (by repeat (first | (with_reducible first | exact HB.out | apply below_alloc | apply pw_below_drewN | apply below_drew1) | exact HB.out)) hb); clear HB; have HB := n0_; clear n0_; (try clear hb); (try clear hb2); (try clear hk); (try clear hi)) | (go_at_call 19; (with_reducible refine (expo_Factor.calls k a1 t109 _ A15.out).mono ?_); rintro e w26 ⟨rfl, hb⟩; have n0_ := Aside0.mk (below_step (by repeat (first | (with_reducible first | exact HB.out | apply below_alloc | apply pw_below_drewN | apply below_drew1) | exact HB.out)) hb); clear HB; have HB := n0_; clear n0_; (try clear hb); (try clear hb2); (try clear hk); (try clear hi)) | (go_at_call 19; (with_reducible refine (expo_Factor.calls k a1 t109 _ A17.out).mono ?_); rintro e w27 ⟨rfl, hb⟩; have n0_ := Aside0.mk (below_step (by repeat (first | (with_reducible first | exact HB.out | apply below_alloc | apply pw_below_drewN | apply below_drew1) | exact HB.out)) hb); clear HB; have HB := n0_; clear n0_; (try clear hb); (try clear hb2); (try clear hk); (try clear hi)) | (go_at_call 17; (with_reducible refine (expo_Exp2.calls k a0 t110 _ A19.out).mono ?_); rintro e w28 ⟨rfl, hb⟩; have n0_ := Aside0.mk (below_step (by repeat (first | (with_reducible first | exact HB.out | apply below_alloc | apply pw_below_drewN | apply below_drew1) | exact HB.out)) hb); clear HB; have HB := n0_; clear n0_; (try clear hb); (try clear hb2); (try clear hk); (try clear hi)))
              go_ret
              exact ⟨by first | rfl | (simp [errW_none, errW_some] <;> rfl) | (simp [*, errW_none, errW_some] <;> rfl), by repeat (first | (with_reducible first | exact HB.out | apply below_alloc | apply pw_below_drewN | apply below_drew1) | exact HB.out)⟩
            · rw [if_neg c18] at H
              exact absurd H (by simp)
          · rw [if_neg c16] at H
            exact absurd H (by simp)
        · rw [if_neg c13] at H
          exact absurd H (by simp)
      · rw [if_neg c10] at H
        exact absurd H (by simp)
    · replace c7 := Bool.eq_false_iff.mpr c7
      subst c7
      have H1 : (none) = some r := by rw [if_neg (show ¬ (false = true) by decide)] at H; exact H
      clear H
      have H := H1
      clear H1
      exact absurd H (by simp)

/-- THE ONE PURE STATEMENT of pacemakerlaw04_ExpoGrows: yours. -/
def pacemakerlaw04_ExpoGrows.Pure : Prop := ∀ (a0 : Int) (a1 : Int), (Lit.int .i64 a0).wf = true → (Lit.int .i64 a1).wf = true → ∃ k, pacemakerlaw04_ExpoGrows.f k a0 a1 = some true
theorem pacemakerlaw04_ExpoGrows.walk (P : pacemakerlaw04_ExpoGrows.Pure) (a0 : Int) (a1 : Int) (w : World) (w0 : (Lit.int .i64 a0).wf = true) (w1 : (Lit.int .i64 a1).wf = true) :
    Calls Try.prog 4 #[.int .i64 a0, .int .i64 a1] w fun e w' => e = .returned (.bool true) ∧ Below w.heap.size w w' := by
  obtain ⟨k, h⟩ := P a0 a1 w0 w1
  refine (pacemakerlaw04_ExpoGrows.calls k a0 a1 true w h).mono ?_
  rintro e w' ⟨rfl, hd⟩
  exact ⟨rfl, hd⟩

end Go.Proofs.Ytpfhlimcemkneaa.P
