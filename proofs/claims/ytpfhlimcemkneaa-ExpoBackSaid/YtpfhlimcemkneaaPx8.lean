-- Printed by a program of this session (wip/pp.py): functions, contracts, rows. Not trusted: Lean checks it.
import Derived.Test.YtpfhlimcemkneaaPx0
import Derived.Test.YtpfhlimcemkneaaPx3
import Derived.Test.YtpfhlimcemkneaaPx4
namespace Go.Proofs.Ytpfhlimcemkneaa.P
open Go.RowKit Go.Proofs.YtpfhlimcemkneaaW.PrintWords Go.Proofs.YtpfhlimcemkneaaW.PrintLast Go.Proofs.YtpfhlimcemkneaaW.PrintMore Go.Proofs.YtpfhlimcemkneaaX
attribute [local go_sem] max2_int min2_int max_two min_two max_three min_three max_four min_four   -- for this text's walks alone
set_option linter.unusedVariables false
set_option linter.unusedSimpArgs false

/-! ### pacemakerlaw04_ExpoBack: function 5 -/
def pacemakerlaw04_ExpoBack.f (k : Nat) (a0 : Int) : Option (Bool) := (expo_Log2.f k a0).bind fun t101 => (if a0 ≤ 0 then ((pacemakerlaw04_powered.f k).bind fun t102 => (if t102 = true then (if t101 = (-4611686018427387904) then ((expo_Exp2.f k t101).bind fun t103 => (some (t103 == 0))) else (none)) else (none))) else ((fix_Clamp.f a0).bind fun t104 => ((expo_Exp2.f k t101).bind fun t105 => ((pacemakerlaw04_powered.f k).bind fun t106 => (if t106 = true then (if t105 ≤ t104 then (some (decide (t105 ≥ (wrap64 ((wrap64 (t104 - (wrap64 (Int.tdiv t104 1048576)))) - 2))))) else (none)) else (none))))))
theorem pacemakerlaw04_ExpoBack.mono : ∀ a0 k, LeO (pacemakerlaw04_ExpoBack.f k a0) (pacemakerlaw04_ExpoBack.f (k + 1) a0) := by
  intro a0 k
  unfold pacemakerlaw04_ExpoBack.f
  repeat' first
      | (with_reducible exact expo_Exp2.mono _ _)
      | (with_reducible exact expo_Log2.mono _ _)
      | (with_reducible exact pacemakerlaw04_powered.mono _)
      | (with_reducible exact LeO.refl _)
      | (with_reducible exact LeO.none _)
      | (with_reducible refine LeO.ite ?_ ?_)
      | (with_reducible refine LeO.bind ?_ (fun _ => ?_))
      | exact expo_Exp2.mono _ _
      | exact expo_Log2.mono _ _
      | exact pacemakerlaw04_powered.mono _
      | exact LeO.none _
      | refine LeO.ite ?_ ?_
      | refine LeO.bind ?_ (fun _ => ?_)
set_option maxHeartbeats 8000000 in
set_option maxRecDepth 100000 in
theorem pacemakerlaw04_ExpoBack.calls (k : Nat) (a0 : Int) (r : Bool) (w : World) (h : pacemakerlaw04_ExpoBack.f k a0 = some r) :
    Calls Try.prog 5 #[.int .i64 a0] w fun e w' => e = .returned (.bool r) ∧ Below w.heap.size w w' := by
  have HB := Aside0.mk (Below.refl w.heap.size w)
  have H : ((expo_Log2.f k a0).bind fun t101 => (if a0 ≤ 0 then ((pacemakerlaw04_powered.f k).bind fun t102 => (if t102 = true then (if t101 = (-4611686018427387904) then ((expo_Exp2.f k t101).bind fun t103 => (some (t103 == 0))) else (none)) else (none))) else ((fix_Clamp.f a0).bind fun t104 => ((expo_Exp2.f k t101).bind fun t105 => ((pacemakerlaw04_powered.f k).bind fun t106 => (if t106 = true then (if t105 ≤ t104 then (some (decide (t105 ≥ (wrap64 ((wrap64 (t104 - (wrap64 (Int.tdiv t104 1048576)))) - 2))))) else (none)) else (none))))))) = some r := h
  clear h
  replace H := Option.bind_eq_some_iff.mp H
  obtain ⟨t101, A20, H⟩ := H
  replace H : (if a0 ≤ 0 then ((pacemakerlaw04_powered.f k).bind fun t102 => (if t102 = true then (if t101 = (-4611686018427387904) then ((expo_Exp2.f k t101).bind fun t103 => (some (t103 == 0))) else (none)) else (none))) else ((fix_Clamp.f a0).bind fun t104 => ((expo_Exp2.f k t101).bind fun t105 => ((pacemakerlaw04_powered.f k).bind fun t106 => (if t106 = true then (if t105 ≤ t104 then (some (decide (t105 ≥ (wrap64 ((wrap64 (t104 - (wrap64 (Int.tdiv t104 1048576)))) - 2))))) else (none)) else (none)))))) = some r := H
  have A2 := Aside0.mk A20
  clear A20
  by_cases c3 : a0 ≤ 0
  · rw [if_pos c3] at H
    have c3b0 : decide (a0 ≤ 0) = true := decide_eq_true c3
    clear c3
    replace H := Option.bind_eq_some_iff.mp H
    obtain ⟨t102, A40, H⟩ := H
    replace H : (if t102 = true then (if t101 = (-4611686018427387904) then ((expo_Exp2.f k t101).bind fun t103 => (some (t103 == 0))) else (none)) else (none)) = some r := H
    have A4 := Aside0.mk A40
    clear A40
    by_cases c5 : t102 = true
    · subst c5
      have H1 : (if t101 = (-4611686018427387904) then ((expo_Exp2.f k t101).bind fun t103 => (some (t103 == 0))) else (none)) = some r := by rw [if_pos rfl] at H; exact H
      clear H
      have H := H1
      clear H1
      by_cases c6 : t101 = (-4611686018427387904)
      · rw [if_pos c6] at H
        have c6b0 : (t101 == (-4611686018427387904)) = true := beq_iff_eq.mpr c6
        have c6b1 : (t101 != (-4611686018427387904)) = false := bne_eq_false_iff_eq.mpr c6
        clear c6
        replace H := Option.bind_eq_some_iff.mp H
        obtain ⟨t103, A70, H⟩ := H
        replace H : (some (t103 == 0)) = some r := H
        have A7 := Aside0.mk A70
        clear A70
        obtain rfl := Option.some.inj H
        go_enter Try.func5, Try.ntmps5
        go_wp2_with (first | ((with_reducible refine gate_callee (f := 15) rfl ?_); refine goesL_ (some 7) rfl rfl Try.func15 (by kernel_rfl) rfl #[.int .i64 a0] rfl (by (try simp only [List.map_toArray, List.map_cons, List.map_nil]); first | done | rfl | (simp only [List.length_drop, List.length_take]; rfl)) ?_; (with_reducible refine (expo_Log2.calls k a0 t101 _ A2.out).mono ?_); rintro e w8 ⟨rfl, hb⟩; refine ⟨_, rfl, ?_⟩; have n0_ := Aside0.mk (below_step (by repeat (first | (with_reducible first | exact HB.out | apply below_alloc | apply pw_below_drewN | apply below_drew1) | exact HB.out)) hb); clear HB; have HB := n0_; clear n0_; (try clear hb); (try clear hb2); (try clear hk); (try clear hi)) | ((with_reducible refine gate_callee (f := 14) rfl ?_); refine goesL_ (some 10) rfl rfl Try.func14 (by kernel_rfl) rfl #[] rfl (by (try simp only [List.map_toArray, List.map_cons, List.map_nil]); first | done | rfl | (simp only [List.length_drop, List.length_take]; rfl)) ?_; (with_reducible refine (pacemakerlaw04_powered.calls k  true _ A4.out).mono ?_); rintro e w9 ⟨rfl, hb⟩; refine ⟨_, rfl, ?_⟩; have n0_ := Aside0.mk (below_step (by repeat (first | (with_reducible first | exact HB.out | apply below_alloc | apply pw_below_drewN | apply below_drew1) | exact HB.out)) hb); clear HB; have HB := n0_; clear n0_; (try clear hb); (try clear hb2); (try clear hk); (try clear hi)) | (go_at_call 17; (with_reducible refine (expo_Exp2.calls k t101 t103 _ A7.out).mono ?_); rintro e w10 ⟨rfl, hb⟩; have n0_ := Aside0.mk (below_step (by repeat (first | (with_reducible first | exact HB.out | apply below_alloc | apply pw_below_drewN | apply below_drew1) | exact HB.out)) hb); clear HB; have HB := n0_; clear n0_; (try clear hb); (try clear hb2); (try clear hk); (try clear hi)))
        go_ret
        exact ⟨by first | rfl | (simp [errW_none, errW_some] <;> rfl) | (simp [*, errW_none, errW_some] <;> rfl), by repeat (first | (with_reducible first | exact HB.out | apply below_alloc | apply pw_below_drewN | apply below_drew1) | exact HB.out)⟩
      · rw [if_neg c6] at H
        exact absurd H (by simp)
    · replace c5 := Bool.eq_false_iff.mpr c5
      subst c5
      have H1 : (none) = some r := by rw [if_neg (show ¬ (false = true) by decide)] at H; exact H
      clear H
      have H := H1
      clear H1
      exact absurd H (by simp)
  · rw [if_neg c3] at H
    have c3b0 : decide (a0 ≤ 0) = false := decide_eq_false c3
    clear c3
    replace H := Option.bind_eq_some_iff.mp H
    obtain ⟨t104, A110, H⟩ := H
    replace H : ((expo_Exp2.f k t101).bind fun t105 => ((pacemakerlaw04_powered.f k).bind fun t106 => (if t106 = true then (if t105 ≤ t104 then (some (decide (t105 ≥ (wrap64 ((wrap64 (t104 - (wrap64 (Int.tdiv t104 1048576)))) - 2))))) else (none)) else (none)))) = some r := H
    have A11 := Aside0.mk A110
    clear A110
    replace H := Option.bind_eq_some_iff.mp H
    obtain ⟨t105, A120, H⟩ := H
    replace H : ((pacemakerlaw04_powered.f k).bind fun t106 => (if t106 = true then (if t105 ≤ t104 then (some (decide (t105 ≥ (wrap64 ((wrap64 (t104 - (wrap64 (Int.tdiv t104 1048576)))) - 2))))) else (none)) else (none))) = some r := H
    have A12 := Aside0.mk A120
    clear A120
    replace H := Option.bind_eq_some_iff.mp H
    obtain ⟨t106, A130, H⟩ := H
    replace H : (if t106 = true then (if t105 ≤ t104 then (some (decide (t105 ≥ (wrap64 ((wrap64 (t104 - (wrap64 (Int.tdiv t104 1048576)))) - 2))))) else (none)) else (none)) = some r := H
    have A13 := Aside0.mk A130
    clear A130
    by_cases c14 : t106 = true
    · subst c14
      have H1 : (if t105 ≤ t104 then (some (decide (t105 ≥ (wrap64 ((wrap64 (t104 - (wrap64 (Int.tdiv t104 1048576)))) - 2))))) else (none)) = some r := by rw [if_pos rfl] at H; exact H
      clear H
      have H := H1
      clear H1
      by_cases c15 : t105 ≤ t104
      · rw [if_pos c15] at H
        have c15b0 : decide (t105 ≤ t104) = true := decide_eq_true c15
        clear c15
        obtain rfl := Option.some.inj H
        go_enter Try.func5, Try.ntmps5
        go_wp2_with (first | ((with_reducible refine gate_callee (f := 15) rfl ?_); refine goesL_ (some 7) rfl rfl Try.func15 (by kernel_rfl) rfl #[.int .i64 a0] rfl (by (try simp only [List.map_toArray, List.map_cons, List.map_nil]); first | done | rfl | (simp only [List.length_drop, List.length_take]; rfl)) ?_; (with_reducible refine (expo_Log2.calls k a0 t101 _ A2.out).mono ?_); rintro e w16 ⟨rfl, hb⟩; refine ⟨_, rfl, ?_⟩; have n0_ := Aside0.mk (below_step (by repeat (first | (with_reducible first | exact HB.out | apply below_alloc | apply pw_below_drewN | apply below_drew1) | exact HB.out)) hb); clear HB; have HB := n0_; clear n0_; (try clear hb); (try clear hb2); (try clear hk); (try clear hi)) | ((with_reducible refine gate_callee (f := 21) rfl ?_); refine goesL_ (some 21) rfl rfl Try.func21 (by kernel_rfl) rfl #[.int .i64 a0] rfl (by (try simp only [List.map_toArray, List.map_cons, List.map_nil]); first | done | rfl | (simp only [List.length_drop, List.length_take]; rfl)) ?_; (with_reducible refine (fix_Clamp.calls a0 t104 _ A11.out).mono ?_); rintro e w17 ⟨rfl, hb⟩; refine ⟨_, rfl, ?_⟩; have n0_ := Aside0.mk (below_step (by repeat (first | (with_reducible first | exact HB.out | apply below_alloc | apply pw_below_drewN | apply below_drew1) | exact HB.out)) hb); clear HB; have HB := n0_; clear n0_; (try clear hb); (try clear hb2); (try clear hk); (try clear hi)) | ((with_reducible refine gate_callee (f := 17) rfl ?_); refine goesL_ (some 23) rfl rfl Try.func17 (by kernel_rfl) rfl #[.int .i64 t101] rfl (by (try simp only [List.map_toArray, List.map_cons, List.map_nil]); first | done | rfl | (simp only [List.length_drop, List.length_take]; rfl)) ?_; (with_reducible refine (expo_Exp2.calls k t101 t105 _ A12.out).mono ?_); rintro e w18 ⟨rfl, hb⟩; refine ⟨_, rfl, ?_⟩; have n0_ := Aside0.mk (below_step (by repeat (first | (with_reducible first | exact HB.out | apply below_alloc | apply pw_below_drewN | apply below_drew1) | exact HB.out)) hb); clear HB; have HB := n0_; clear n0_; (try clear hb); (try clear hb2); (try clear hk); (try clear hi)) | ((with_reducible refine gate_callee (f := 14) rfl ?_); refine goesL_ (some 24) rfl rfl Try.func14 (by kernel_rfl) rfl #[] rfl (by (try simp only [List.map_toArray, List.map_cons, List.map_nil]); first | done | rfl | (simp only [List.length_drop, List.length_take]; rfl)) ?_; (with_reducible refine (pacemakerlaw04_powered.calls k  true _ A13.out).mono ?_); rintro e w19 ⟨rfl, hb⟩; refine ⟨_, rfl, ?_⟩; have n0_ := Aside0.mk (below_step (by repeat (first | (with_reducible first | exact HB.out | apply below_alloc | apply pw_below_drewN | apply below_drew1) | exact HB.out)) hb); clear HB; have HB := n0_; clear n0_; (try clear hb); (try clear hb2); (try clear hk); (try clear hi)))
        go_ret
        exact ⟨by first | rfl | (simp [errW_none, errW_some] <;> rfl) | (simp [*, errW_none, errW_some] <;> rfl), by repeat (first | (with_reducible first | exact HB.out | apply below_alloc | apply pw_below_drewN | apply below_drew1) | exact HB.out)⟩
      · rw [if_neg c15] at H
        exact absurd H (by simp)
    · replace c14 := Bool.eq_false_iff.mpr c14
      subst c14
      have H1 : (none) = some r := by rw [if_neg (show ¬ (false = true) by decide)] at H; exact H
      clear H
      have H := H1
      clear H1
      exact absurd H (by simp)

/-- THE ONE PURE STATEMENT of pacemakerlaw04_ExpoBack: yours. -/
def pacemakerlaw04_ExpoBack.Pure : Prop := ∀ (a0 : Int), (Lit.int .i64 a0).wf = true → ∃ k, pacemakerlaw04_ExpoBack.f k a0 = some true
theorem pacemakerlaw04_ExpoBack.walk (P : pacemakerlaw04_ExpoBack.Pure) (a0 : Int) (w : World) (w0 : (Lit.int .i64 a0).wf = true) :
    Calls Try.prog 5 #[.int .i64 a0] w fun e w' => e = .returned (.bool true) ∧ Below w.heap.size w w' := by
  obtain ⟨k, h⟩ := P a0 w0
  refine (pacemakerlaw04_ExpoBack.calls k a0 true w h).mono ?_
  rintro e w' ⟨rfl, hd⟩
  exact ⟨rfl, hd⟩

end Go.Proofs.Ytpfhlimcemkneaa.P
