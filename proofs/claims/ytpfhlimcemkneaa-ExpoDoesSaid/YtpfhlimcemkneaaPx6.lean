-- Printed by a program of this session (wip/pp.py): functions, contracts, rows. Not trusted: Lean checks it.
import Derived.Test.YtpfhlimcemkneaaPx0
import Derived.Test.YtpfhlimcemkneaaPx3
import Derived.Test.YtpfhlimcemkneaaPx4
import Derived.Test.YtpfhlimcemkneaaPx5
namespace Go.Proofs.Ytpfhlimcemkneaa.P
open Go.RowKit Go.Proofs.YtpfhlimcemkneaaW.PrintWords Go.Proofs.YtpfhlimcemkneaaW.PrintLast Go.Proofs.YtpfhlimcemkneaaW.PrintMore Go.Proofs.YtpfhlimcemkneaaX
attribute [local go_sem] max2_int min2_int max_two min_two max_three min_three max_four min_four   -- for this text's walks alone
set_option linter.unusedVariables false
set_option linter.unusedSimpArgs false

/-! ### pacemakerlaw04_ExpoDoes: function 3 -/
def pacemakerlaw04_ExpoDoes.f (k : Nat) (a0 : Int) (a1 : Int) : Option (Bool) := (pacemakerlaw04_powered.f k).bind fun t101 => (if t101 = true then ((expo_Log2.f k a0).bind fun t102 => ((pacemakerref04_Log2.f k a0).bind fun t103 => (if t102 = t103 then ((expo_Exp2.f k a0).bind fun t104 => ((pacemakerref04_Exp2.f k a0).bind fun t105 => (if t104 = t105 then ((expo_Factor.f k a1).bind fun t106 => ((pacemakerref04_Factor.f k a1).bind fun t107 => (some (t106 == t107)))) else (none)))) else (none)))) else (none))
theorem pacemakerlaw04_ExpoDoes.mono : ∀ a0 a1 k, LeO (pacemakerlaw04_ExpoDoes.f k a0 a1) (pacemakerlaw04_ExpoDoes.f (k + 1) a0 a1) := by
  intro a0 a1 k
  unfold pacemakerlaw04_ExpoDoes.f
  repeat' first
      | (with_reducible exact expo_Exp2.mono _ _)
      | (with_reducible exact expo_Factor.mono _ _)
      | (with_reducible exact expo_Log2.mono _ _)
      | (with_reducible exact pacemakerlaw04_powered.mono _)
      | (with_reducible exact pacemakerref04_Exp2.mono _ _)
      | (with_reducible exact pacemakerref04_Factor.mono _ _)
      | (with_reducible exact pacemakerref04_Log2.mono _ _)
      | (with_reducible exact LeO.refl _)
      | (with_reducible exact LeO.none _)
      | (with_reducible refine LeO.ite ?_ ?_)
      | (with_reducible refine LeO.bind ?_ (fun _ => ?_))
      | exact expo_Exp2.mono _ _
      | exact expo_Factor.mono _ _
      | exact expo_Log2.mono _ _
      | exact pacemakerlaw04_powered.mono _
      | exact pacemakerref04_Exp2.mono _ _
      | exact pacemakerref04_Factor.mono _ _
      | exact pacemakerref04_Log2.mono _ _
      | exact LeO.none _
      | refine LeO.ite ?_ ?_
      | refine LeO.bind ?_ (fun _ => ?_)
set_option maxHeartbeats 8000000 in
set_option maxRecDepth 100000 in
theorem pacemakerlaw04_ExpoDoes.calls (k : Nat) (a0 : Int) (a1 : Int) (r : Bool) (w : World) (h : pacemakerlaw04_ExpoDoes.f k a0 a1 = some r) :
    Calls Try.prog 3 #[.int .i64 a0, .int .i64 a1] w fun e w' => e = .returned (.bool r) ∧ Below w.heap.size w w' := by
  have HB := Aside0.mk (Below.refl w.heap.size w)
  have H : ((pacemakerlaw04_powered.f k).bind fun t101 => (if t101 = true then ((expo_Log2.f k a0).bind fun t102 => ((pacemakerref04_Log2.f k a0).bind fun t103 => (if t102 = t103 then ((expo_Exp2.f k a0).bind fun t104 => ((pacemakerref04_Exp2.f k a0).bind fun t105 => (if t104 = t105 then ((expo_Factor.f k a1).bind fun t106 => ((pacemakerref04_Factor.f k a1).bind fun t107 => (some (t106 == t107)))) else (none)))) else (none)))) else (none))) = some r := h
  clear h
  replace H := Option.bind_eq_some_iff.mp H
  obtain ⟨t101, A30, H⟩ := H
  replace H : (if t101 = true then ((expo_Log2.f k a0).bind fun t102 => ((pacemakerref04_Log2.f k a0).bind fun t103 => (if t102 = t103 then ((expo_Exp2.f k a0).bind fun t104 => ((pacemakerref04_Exp2.f k a0).bind fun t105 => (if t104 = t105 then ((expo_Factor.f k a1).bind fun t106 => ((pacemakerref04_Factor.f k a1).bind fun t107 => (some (t106 == t107)))) else (none)))) else (none)))) else (none)) = some r := H
  have A3 := Aside0.mk A30
  clear A30
  by_cases c4 : t101 = true
  · subst c4
    have H1 : ((expo_Log2.f k a0).bind fun t102 => ((pacemakerref04_Log2.f k a0).bind fun t103 => (if t102 = t103 then ((expo_Exp2.f k a0).bind fun t104 => ((pacemakerref04_Exp2.f k a0).bind fun t105 => (if t104 = t105 then ((expo_Factor.f k a1).bind fun t106 => ((pacemakerref04_Factor.f k a1).bind fun t107 => (some (t106 == t107)))) else (none)))) else (none)))) = some r := by rw [if_pos rfl] at H; exact H
    clear H
    have H := H1
    clear H1
    replace H := Option.bind_eq_some_iff.mp H
    obtain ⟨t102, A50, H⟩ := H
    replace H : ((pacemakerref04_Log2.f k a0).bind fun t103 => (if t102 = t103 then ((expo_Exp2.f k a0).bind fun t104 => ((pacemakerref04_Exp2.f k a0).bind fun t105 => (if t104 = t105 then ((expo_Factor.f k a1).bind fun t106 => ((pacemakerref04_Factor.f k a1).bind fun t107 => (some (t106 == t107)))) else (none)))) else (none))) = some r := H
    have A5 := Aside0.mk A50
    clear A50
    replace H := Option.bind_eq_some_iff.mp H
    obtain ⟨t103, A60, H⟩ := H
    replace H : (if t102 = t103 then ((expo_Exp2.f k a0).bind fun t104 => ((pacemakerref04_Exp2.f k a0).bind fun t105 => (if t104 = t105 then ((expo_Factor.f k a1).bind fun t106 => ((pacemakerref04_Factor.f k a1).bind fun t107 => (some (t106 == t107)))) else (none)))) else (none)) = some r := H
    have A6 := Aside0.mk A60
    clear A60
    by_cases c7 : t102 = t103
    · rw [if_pos c7] at H
      have c7b0 : (t102 == t103) = true := beq_iff_eq.mpr c7
      have c7b1 : (t102 != t103) = false := bne_eq_false_iff_eq.mpr c7
      clear c7
      replace H := Option.bind_eq_some_iff.mp H
      obtain ⟨t104, A80, H⟩ := H
      replace H : ((pacemakerref04_Exp2.f k a0).bind fun t105 => (if t104 = t105 then ((expo_Factor.f k a1).bind fun t106 => ((pacemakerref04_Factor.f k a1).bind fun t107 => (some (t106 == t107)))) else (none))) = some r := H
      have A8 := Aside0.mk A80
      clear A80
      replace H := Option.bind_eq_some_iff.mp H
      obtain ⟨t105, A90, H⟩ := H
      replace H : (if t104 = t105 then ((expo_Factor.f k a1).bind fun t106 => ((pacemakerref04_Factor.f k a1).bind fun t107 => (some (t106 == t107)))) else (none)) = some r := H
      have A9 := Aside0.mk A90
      clear A90
      by_cases c10 : t104 = t105
      · rw [if_pos c10] at H
        have c10b0 : (t104 == t105) = true := beq_iff_eq.mpr c10
        have c10b1 : (t104 != t105) = false := bne_eq_false_iff_eq.mpr c10
        clear c10
        replace H := Option.bind_eq_some_iff.mp H
        obtain ⟨t106, A110, H⟩ := H
        replace H : ((pacemakerref04_Factor.f k a1).bind fun t107 => (some (t106 == t107))) = some r := H
        have A11 := Aside0.mk A110
        clear A110
        replace H := Option.bind_eq_some_iff.mp H
        obtain ⟨t107, A120, H⟩ := H
        replace H : (some (t106 == t107)) = some r := H
        have A12 := Aside0.mk A120
        clear A120
        obtain rfl := Option.some.inj H
        go_enter Try.func3, Try.ntmps3
        go_wp2_with (first | ((with_reducible refine gate_callee (f := 14) rfl ?_); refine goesL_ (some 5) rfl rfl Try.func14 (by kernel_rfl) rfl #[] rfl (by (try simp only [List.map_toArray, List.map_cons, List.map_nil]); first | done | rfl | (simp only [List.length_drop, List.length_take]; rfl)) ?_; (with_reducible refine (pacemakerlaw04_powered.calls k  true _ A3.out).mono ?_); rintro e w13 ⟨rfl, hb⟩; refine ⟨_, rfl, ?_⟩; have n0_ := Aside0.mk (below_step (by repeat (first | (with_reducible first | exact HB.out | apply below_alloc | apply pw_below_drewN | apply below_drew1) | exact HB.out)) hb); clear HB; have HB := n0_; clear n0_; (try clear hb); (try clear hb2); (try clear hk); (try clear hi)) | (go_at_call 15; (with_reducible refine (expo_Log2.calls k a0 t102 _ A5.out).mono ?_); rintro e w14 ⟨rfl, hb⟩; have n0_ := Aside0.mk (below_step (by repeat (first | (with_reducible first | exact HB.out | apply below_alloc | apply pw_below_drewN | apply below_drew1) | exact HB.out)) hb); clear HB; have HB := n0_; clear n0_; (try clear hb); (try clear hb2); (try clear hk); (try clear hi)) | (go_at_call 16; (with_reducible refine (pacemakerref04_Log2.calls k a0 t103 _ A6.out).mono ?_); rintro e w15 ⟨rfl, hb⟩; have n0_ := Aside0.mk (below_step (by repeat (first | (with_reducible first | exact HB.out | apply below_alloc | apply pw_below_drewN | apply below_drew1) | exact HB.out)) hb); clear HB; have HB := n0_; clear n0_; (try clear hb); (try clear hb2); (try clear hk); (try clear hi)) | (go_at_call 17; (with_reducible refine (expo_Exp2.calls k a0 t104 _ A8.out).mono ?_); rintro e w16 ⟨rfl, hb⟩; have n0_ := Aside0.mk (below_step (by repeat (first | (with_reducible first | exact HB.out | apply below_alloc | apply pw_below_drewN | apply below_drew1) | exact HB.out)) hb); clear HB; have HB := n0_; clear n0_; (try clear hb); (try clear hb2); (try clear hk); (try clear hi)) | (go_at_call 18; (with_reducible refine (pacemakerref04_Exp2.calls k a0 t105 _ A9.out).mono ?_); rintro e w17 ⟨rfl, hb⟩; have n0_ := Aside0.mk (below_step (by repeat (first | (with_reducible first | exact HB.out | apply below_alloc | apply pw_below_drewN | apply below_drew1) | exact HB.out)) hb); clear HB; have HB := n0_; clear n0_; (try clear hb); (try clear hb2); (try clear hk); (try clear hi)) | (go_at_call 19; (with_reducible refine (expo_Factor.calls k a1 t106 _ A11.out).mono ?_); rintro e w18 ⟨rfl, hb⟩; have n0_ := Aside0.mk (below_step (by repeat (first | (with_reducible first | exact HB.out | apply below_alloc | apply pw_below_drewN | apply below_drew1) | exact HB.out)) hb); clear HB; have HB := n0_; clear n0_; (try clear hb); (try clear hb2); (try clear hk); (try clear hi)) | (go_at_call 20; (with_reducible refine (pacemakerref04_Factor.calls k a1 t107 _ A12.out).mono ?_); rintro e w19 ⟨rfl, hb⟩; have n0_ := Aside0.mk (below_step (by repeat (first | (with_reducible first | exact HB.out | apply below_alloc | apply pw_below_drewN | apply below_drew1) | exact HB.out)) hb); clear HB; have HB := n0_; clear n0_; (try clear hb); (try clear hb2); (try clear hk); (try clear hi)))
        go_ret
        exact ⟨by first | rfl | (simp [errW_none, errW_some] <;> rfl) | (simp [*, errW_none, errW_some] <;> rfl), by repeat (first | (with_reducible first | exact HB.out | apply below_alloc | apply pw_below_drewN | apply below_drew1) | exact HB.out)⟩
      · rw [if_neg c10] at H
        exact absurd H (by simp)
    · rw [if_neg c7] at H
      exact absurd H (by simp)
  · replace c4 := Bool.eq_false_iff.mpr c4
    subst c4
    have H1 : (none) = some r := by rw [if_neg (show ¬ (false = true) by decide)] at H; exact H
    clear H
    have H := H1
    clear H1
    exact absurd H (by simp)

/-- THE ONE PURE STATEMENT of pacemakerlaw04_ExpoDoes: yours. -/
def pacemakerlaw04_ExpoDoes.Pure : Prop := ∀ (a0 : Int) (a1 : Int), (Lit.int .i64 a0).wf = true → (Lit.int .i64 a1).wf = true → ∃ k, pacemakerlaw04_ExpoDoes.f k a0 a1 = some true
theorem pacemakerlaw04_ExpoDoes.walk (P : pacemakerlaw04_ExpoDoes.Pure) (a0 : Int) (a1 : Int) (w : World) (w0 : (Lit.int .i64 a0).wf = true) (w1 : (Lit.int .i64 a1).wf = true) :
    Calls Try.prog 3 #[.int .i64 a0, .int .i64 a1] w fun e w' => e = .returned (.bool true) ∧ Below w.heap.size w w' := by
  obtain ⟨k, h⟩ := P a0 a1 w0 w1
  refine (pacemakerlaw04_ExpoDoes.calls k a0 a1 true w h).mono ?_
  rintro e w' ⟨rfl, hd⟩
  exact ⟨rfl, hd⟩

end Go.Proofs.Ytpfhlimcemkneaa.P
