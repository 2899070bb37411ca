-- Printed by a program of this session (wip/pp.py): functions, contracts, rows. Not trusted: Lean checks it.
import Derived.Test.YtpfhlimcemkneaaPx0
import Derived.Test.YtpfhlimcemkneaaPx3
import Derived.Test.YtpfhlimcemkneaaPx4
import Derived.Test.YtpfhlimcemkneaaPx11
namespace Go.Proofs.Ytpfhlimcemkneaa.P
open Go.RowKit Go.Proofs.YtpfhlimcemkneaaW.PrintWords Go.Proofs.YtpfhlimcemkneaaW.PrintLast Go.Proofs.YtpfhlimcemkneaaW.PrintMore Go.Proofs.YtpfhlimcemkneaaX
attribute [local go_sem] max2_int min2_int max_two min_two max_three min_three max_four min_four   -- for this text's walks alone
set_option linter.unusedVariables false
set_option linter.unusedSimpArgs false

/-! ### pacemakerlaw04_ExpoWhole: function 8 -/
def pacemakerlaw04_ExpoWhole.j0 : Nat → Int → Bool → Option (Bool)
  | 0, _, _ => none
  | k + 1, x0, x9 => if x9 = true then ((pacemakerlaw04_powered.f k).bind fun t101 => (if t101 = true then (if x0 < (-20) then ((fix_Of.f x0).bind fun t102 => ((expo_Exp2.f k t102).bind fun t103 => (if t103 = 0 then (some true) else (if x0 > 42 then ((fix_Of.f x0).bind fun t104 => ((expo_Exp2.f k t104).bind fun t105 => (some (t105 == 4611686018427387904)))) else (none))))) else (if x0 > 42 then ((fix_Of.f x0).bind fun t106 => ((expo_Exp2.f k t106).bind fun t107 => (some (t107 == 4611686018427387904)))) else (none))) else (none))) else (if 0 ≤ (wrap64 (x0 + 20)) then ((pacemakerlaw04_powered.f k).bind fun t108 => (if t108 = true then ((fix_Of.f x0).bind fun t109 => ((expo_Exp2.f k t109).bind fun t110 => (if t110 = (shl .i64 1 (wrap64 (x0 + 20))) then ((expo_Log2.f k (shl .i64 1 (wrap64 (x0 + 20)))).bind fun t111 => ((fix_Of.f x0).bind fun t112 => (some (t111 == t112)))) else (none)))) else (none))) else (none))
def pacemakerlaw04_ExpoWhole.f (k : Nat) (a0 : Int) : Option (Bool) := if a0 < (-20) then (pacemakerlaw04_ExpoWhole.j0 k a0 true) else (pacemakerlaw04_ExpoWhole.j0 k a0 (decide (a0 > 42)))
theorem pacemakerlaw04_ExpoWhole.mono_l : ∀ k, (∀ y0 y1, LeO (pacemakerlaw04_ExpoWhole.j0 k y0 y1) (pacemakerlaw04_ExpoWhole.j0 (k + 1) y0 y1))
  | 0 => fun _ _ r h => by simp [pacemakerlaw04_ExpoWhole.j0] at h
  | k + 1 => by
    have ih0 := pacemakerlaw04_ExpoWhole.mono_l k
    · intro y0 y1
      unfold pacemakerlaw04_ExpoWhole.j0
      repeat' first
      | (with_reducible exact ih0 _ _)
      | (with_reducible exact expo_Exp2.mono _ _)
      | (with_reducible exact expo_Log2.mono _ _)
      | (with_reducible exact pacemakerlaw04_powered.mono _)
      | (with_reducible exact LeO.refl _)
      | (with_reducible exact LeO.none _)
      | (with_reducible refine LeO.ite ?_ ?_)
      | (with_reducible refine LeO.bind ?_ (fun _ => ?_))
      | exact ih0 _ _
      | exact expo_Exp2.mono _ _
      | exact expo_Log2.mono _ _
      | exact pacemakerlaw04_powered.mono _
      | exact LeO.none _
      | refine LeO.ite ?_ ?_
      | refine LeO.bind ?_ (fun _ => ?_)
theorem pacemakerlaw04_ExpoWhole.mono : ∀ a0 k, LeO (pacemakerlaw04_ExpoWhole.f k a0) (pacemakerlaw04_ExpoWhole.f (k + 1) a0) := by
  intro a0 k
  have ih0 := pacemakerlaw04_ExpoWhole.mono_l k
  unfold pacemakerlaw04_ExpoWhole.f
  repeat' first
      | (with_reducible exact ih0 _ _)
      | (with_reducible exact expo_Exp2.mono _ _)
      | (with_reducible exact expo_Log2.mono _ _)
      | (with_reducible exact pacemakerlaw04_powered.mono _)
      | (with_reducible exact LeO.refl _)
      | (with_reducible exact LeO.none _)
      | (with_reducible refine LeO.ite ?_ ?_)
      | (with_reducible refine LeO.bind ?_ (fun _ => ?_))
      | exact ih0 _ _
      | exact expo_Exp2.mono _ _
      | exact expo_Log2.mono _ _
      | exact pacemakerlaw04_powered.mono _
      | exact LeO.none _
      | refine LeO.ite ?_ ?_
      | refine LeO.bind ?_ (fun _ => ?_)
set_option maxHeartbeats 8000000 in
set_option maxRecDepth 100000 in
theorem pacemakerlaw04_ExpoWhole.calls (k : Nat) (a0 : Int) (r : Bool) (w : World) (h : pacemakerlaw04_ExpoWhole.f k a0 = some r) :
    Calls Try.prog 8 #[.int .i64 a0] w fun e w' => e = .returned (.bool r) ∧ Below w.heap.size w w' := by
  have HB := Aside0.mk (Below.refl w.heap.size w)
  have H : (if a0 < (-20) then (pacemakerlaw04_ExpoWhole.j0 k a0 true) else (pacemakerlaw04_ExpoWhole.j0 k a0 (decide (a0 > 42)))) = some r := h
  clear h
  have HC2 := Aside0.mk H
  clear H
  go_enter Try.func8, Try.ntmps8
  go_upto_region 1 with (fail)
  go_cut [9] (fun v9 wc => ∃ (kq : Nat) (x9_1 : Bool), v9 = .bool x9_1 ∧ Aside0 (pacemakerlaw04_ExpoWhole.j0 kq a0 x9_1 = some r) ∧ Aside0 (kq ≤ k) ∧ Aside0 (Below w.heap.size w wc))
  case first =>
    have H := HC2.out
    clear HC2
    by_cases c3 : a0 < (-20)
    · rw [if_pos c3] at H
      have c3b0 : decide (a0 < (-20)) = true := decide_eq_true c3
      clear c3
      (first | rw [c3b0] | (simp only [i64_w, i32_w]; rw [c3b0]) | skip)
      have H' := Aside0.mk H
      clear H
      go_wp2
      go_meet
      case rel => exact ⟨_, (true), (by first | rfl | (simp; done) | (simp [*]; done)), H', ⟨by first | omega | exact Nat.le_refl _⟩, ⟨by repeat (first | (with_reducible first | exact HB.out | apply below_alloc | apply pw_below_drewN | apply below_drew1) | exact HB.out)⟩⟩
    · rw [if_neg c3] at H
      have c3b0 : decide (a0 < (-20)) = false := decide_eq_false c3
      clear c3
      (first | rw [c3b0] | (simp only [i64_w, i32_w]; rw [c3b0]) | skip)
      have H' := Aside0.mk H
      clear H
      go_wp2
      go_meet
      case rel => exact ⟨_, (decide (a0 > 42)), (by first | rfl | (simp; done) | (simp [*]; done)), H', ⟨by first | omega | exact Nat.le_refl _⟩, ⟨by repeat (first | (with_reducible first | exact HB.out | apply below_alloc | apply pw_below_drewN | apply below_drew1) | exact HB.out)⟩⟩
  case rest =>
    clear HC2
    try clear p2
    try clear c3
    try clear c3b0
    obtain ⟨kq, x9_1, rfl, HA, HJ1, HB⟩ := hcut
    cases kq with
    | zero => exact absurd HA.out (by simp [pacemakerlaw04_ExpoWhole.j0])
    | succ kj1 =>
      have H := HA.out
      clear HA
      simp only [pacemakerlaw04_ExpoWhole.j0] at H
      by_cases c4 : x9_1 = true
      · subst c4
        have H1 : ((pacemakerlaw04_powered.f kj1).bind fun t101 => (if t101 = true then (if a0 < (-20) then ((fix_Of.f a0).bind fun t102 => ((expo_Exp2.f kj1 t102).bind fun t103 => (if t103 = 0 then (some true) else (if a0 > 42 then ((fix_Of.f a0).bind fun t104 => ((expo_Exp2.f kj1 t104).bind fun t105 => (some (t105 == 4611686018427387904)))) else (none))))) else (if a0 > 42 then ((fix_Of.f a0).bind fun t106 => ((expo_Exp2.f kj1 t106).bind fun t107 => (some (t107 == 4611686018427387904)))) else (none))) else (none))) = some r := by rw [if_pos rfl] at H; exact H
        clear H
        have H := H1
        clear H1
        replace H := Option.bind_eq_some_iff.mp H
        obtain ⟨t101, A50, H⟩ := H
        replace H : (if t101 = true then (if a0 < (-20) then ((fix_Of.f a0).bind fun t102 => ((expo_Exp2.f kj1 t102).bind fun t103 => (if t103 = 0 then (some true) else (if a0 > 42 then ((fix_Of.f a0).bind fun t104 => ((expo_Exp2.f kj1 t104).bind fun t105 => (some (t105 == 4611686018427387904)))) else (none))))) else (if a0 > 42 then ((fix_Of.f a0).bind fun t106 => ((expo_Exp2.f kj1 t106).bind fun t107 => (some (t107 == 4611686018427387904)))) else (none))) else (none)) = some r := H
        have A5 := Aside0.mk A50
        clear A50
        by_cases c6 : t101 = true
        · subst c6
          have H1 : (if a0 < (-20) then ((fix_Of.f a0).bind fun t102 => ((expo_Exp2.f kj1 t102).bind fun t103 => (if t103 = 0 then (some true) else (if a0 > 42 then ((fix_Of.f a0).bind fun t104 => ((expo_Exp2.f kj1 t104).bind fun t105 => (some (t105 == 4611686018427387904)))) else (none))))) else (if a0 > 42 then ((fix_Of.f a0).bind fun t106 => ((expo_Exp2.f kj1 t106).bind fun t107 => (some (t107 == 4611686018427387904)))) else (none))) = some r := by rw [if_pos rfl] at H; exact H
          clear H
          have H := H1
          clear H1
          by_cases c7 : a0 < (-20)
          · rw [if_pos c7] at H
            have c7b0 : decide (a0 < (-20)) = true := decide_eq_true c7
            clear c7
            replace H := Option.bind_eq_some_iff.mp H
            obtain ⟨t102, A80, H⟩ := H
            replace H : ((expo_Exp2.f kj1 t102).bind fun t103 => (if t103 = 0 then (some true) else (if a0 > 42 then ((fix_Of.f a0).bind fun t104 => ((expo_Exp2.f kj1 t104).bind fun t105 => (some (t105 == 4611686018427387904)))) else (none)))) = some r := H
            have A8 := Aside0.mk A80
            clear A80
            replace H := Option.bind_eq_some_iff.mp H
            obtain ⟨t103, A90, H⟩ := H
            replace H : (if t103 = 0 then (some true) else (if a0 > 42 then ((fix_Of.f a0).bind fun t104 => ((expo_Exp2.f kj1 t104).bind fun t105 => (some (t105 == 4611686018427387904)))) else (none))) = some r := H
            have A9 := Aside0.mk A90
            clear A90
            by_cases c10 : t103 = 0
            · rw [if_pos c10] at H
              have c10b0 : (t103 == 0) = true := beq_iff_eq.mpr c10
              have c10b1 : (t103 != 0) = false := bne_eq_false_iff_eq.mpr c10
              clear c10
              obtain rfl := Option.some.inj H
              go_wp2_with (first | ((with_reducible refine gate_callee (f := 14) rfl ?_); refine goesL_ (some 10) rfl rfl Try.func14 (by kernel_rfl) rfl #[] rfl (by (try simp only [List.map_toArray, List.map_cons, List.map_nil]); first | done | rfl | (simp only [List.length_drop, List.length_take]; rfl)) ?_; (with_reducible refine (pacemakerlaw04_powered.calls kj1  true _ A5.out).mono ?_); rintro e w11 ⟨rfl, hb⟩; refine ⟨_, rfl, ?_⟩; have n0_ := Aside0.mk (below_step (by repeat (first | (with_reducible first | exact HB.out | apply below_alloc | apply pw_below_drewN | apply below_drew1) | exact HB.out)) hb); clear HB; have HB := n0_; clear n0_; (try clear hb); (try clear hb2); (try clear hk); (try clear hi)) | (go_at_call 22; (with_reducible refine (fix_Of.calls a0 t102 _ A8.out).mono ?_); rintro e w12 ⟨rfl, hb⟩; have n0_ := Aside0.mk (below_step (by repeat (first | (with_reducible first | exact HB.out | apply below_alloc | apply pw_below_drewN | apply below_drew1) | exact HB.out)) hb); clear HB; have HB := n0_; clear n0_; (try clear hb); (try clear hb2); (try clear hk); (try clear hi)) | (go_at_call 17; (with_reducible refine (expo_Exp2.calls kj1 t102 t103 _ A9.out).mono ?_); rintro e w13 ⟨rfl, hb⟩; have n0_ := Aside0.mk (below_step (by repeat (first | (with_reducible first | exact HB.out | apply below_alloc | apply pw_below_drewN | apply below_drew1) | exact HB.out)) hb); clear HB; have HB := n0_; clear n0_; (try clear hb); (try clear hb2); (try clear hk); (try clear hi)))
              go_ret
              exact ⟨by first | rfl | (simp [errW_none, errW_some] <;> rfl) | (simp [*, errW_none, errW_some] <;> rfl), by repeat (first | (with_reducible first | exact HB.out | apply below_alloc | apply pw_below_drewN | apply below_drew1) | exact HB.out)⟩
            · rw [if_neg c10] at H
              have c10b0 : (t103 == 0) = false := beq_eq_false_iff_ne.mpr c10
              have c10b1 : (t103 != 0) = true := bne_iff_ne.mpr c10
              by_cases c14 : a0 > 42
              · rw [if_pos c14] at H
                have c14b0 : decide (42 < a0) = true := decide_eq_true c14
                clear c14
                replace H := Option.bind_eq_some_iff.mp H
                obtain ⟨t104, A150, H⟩ := H
                replace H : ((expo_Exp2.f kj1 t104).bind fun t105 => (some (t105 == 4611686018427387904))) = some r := H
                have A15 := Aside0.mk A150
                clear A150
                replace H := Option.bind_eq_some_iff.mp H
                obtain ⟨t105, A160, H⟩ := H
                replace H : (some (t105 == 4611686018427387904)) = some r := H
                have A16 := Aside0.mk A160
                clear A160
                obtain rfl := Option.some.inj H
                have hsm0 := A15.out.symm.trans A8.out
                simp only [Option.some.injEq, Prod.mk.injEq] at hsm0
                obtain rfl := hsm0
                have hsm1 := A16.out.symm.trans A9.out
                simp only [Option.some.injEq, Prod.mk.injEq] at hsm1
                obtain rfl := hsm1
                go_wp2_with (first | ((with_reducible refine gate_callee (f := 14) rfl ?_); refine goesL_ (some 10) rfl rfl Try.func14 (by kernel_rfl) rfl #[] rfl (by (try simp only [List.map_toArray, List.map_cons, List.map_nil]); first | done | rfl | (simp only [List.length_drop, List.length_take]; rfl)) ?_; (with_reducible refine (pacemakerlaw04_powered.calls kj1  true _ A5.out).mono ?_); rintro e w17 ⟨rfl, hb⟩; refine ⟨_, rfl, ?_⟩; have n0_ := Aside0.mk (below_step (by repeat (first | (with_reducible first | exact HB.out | apply below_alloc | apply pw_below_drewN | apply below_drew1) | exact HB.out)) hb); clear HB; have HB := n0_; clear n0_; (try clear hb); (try clear hb2); (try clear hk); (try clear hi)) | (go_at_call 22; (with_reducible refine (fix_Of.calls a0 t104 _ A8.out).mono ?_); rintro e w18 ⟨rfl, hb⟩; have n0_ := Aside0.mk (below_step (by repeat (first | (with_reducible first | exact HB.out | apply below_alloc | apply pw_below_drewN | apply below_drew1) | exact HB.out)) hb); clear HB; have HB := n0_; clear n0_; (try clear hb); (try clear hb2); (try clear hk); (try clear hi)) | (go_at_call 17; (with_reducible refine (expo_Exp2.calls kj1 t104 t105 _ A9.out).mono ?_); rintro e w19 ⟨rfl, hb⟩; have n0_ := Aside0.mk (below_step (by repeat (first | (with_reducible first | exact HB.out | apply below_alloc | apply pw_below_drewN | apply below_drew1) | exact HB.out)) hb); clear HB; have HB := n0_; clear n0_; (try clear hb); (try clear hb2); (try clear hk); (try clear hi)) | (go_at_call 22; (with_reducible refine (fix_Of.calls a0 t104 _ A15.out).mono ?_); rintro e w20 ⟨rfl, hb⟩; have n0_ := Aside0.mk (below_step (by repeat (first | (with_reducible first | exact HB.out | apply below_alloc | apply pw_below_drewN | apply below_drew1) | exact HB.out)) hb); clear HB; have HB := n0_; clear n0_; (try clear hb); (try clear hb2); (try clear hk); (try clear hi)) | (go_at_call 17; (with_reducible refine (expo_Exp2.calls kj1 t104 t105 _ A16.out).mono ?_); rintro e w21 ⟨rfl, hb⟩; have n0_ := Aside0.mk (below_step (by repeat (first | (with_reducible first | exact HB.out | apply below_alloc | apply pw_below_drewN | apply below_drew1) | exact HB.out)) hb); clear HB; have HB := n0_; clear n0_; (try clear hb); (try clear hb2); (try clear hk); (try clear hi)))
                go_ret
                exact ⟨by first | rfl | (simp [errW_none, errW_some] <;> rfl) | (simp [*, errW_none, errW_some] <;> rfl), by repeat (first | (with_reducible first | exact HB.out | apply below_alloc | apply pw_below_drewN | apply below_drew1) | exact HB.out)⟩
              · rw [if_neg c14] at H
                exact absurd H (by simp)
          · rw [if_neg c7] at H
            have c7b0 : decide (a0 < (-20)) = false := decide_eq_false c7
            clear c7
            by_cases c22 : a0 > 42
            · rw [if_pos c22] at H
              have c22b0 : decide (42 < a0) = true := decide_eq_true c22
              clear c22
              replace H := Option.bind_eq_some_iff.mp H
              obtain ⟨t106, A230, H⟩ := H
              replace H : ((expo_Exp2.f kj1 t106).bind fun t107 => (some (t107 == 4611686018427387904))) = some r := H
              have A23 := Aside0.mk A230
              clear A230
              replace H := Option.bind_eq_some_iff.mp H
              obtain ⟨t107, A240, H⟩ := H
              replace H : (some (t107 == 4611686018427387904)) = some r := H
              have A24 := Aside0.mk A240
              clear A240
              obtain rfl := Option.some.inj H
              go_wp2_with (first | ((with_reducible refine gate_callee (f := 14) rfl ?_); refine goesL_ (some 10) rfl rfl Try.func14 (by kernel_rfl) rfl #[] rfl (by (try simp only [List.map_toArray, List.map_cons, List.map_nil]); first | done | rfl | (simp only [List.length_drop, List.length_take]; rfl)) ?_; (with_reducible refine (pacemakerlaw04_powered.calls kj1  true _ A5.out).mono ?_); rintro e w25 ⟨rfl, hb⟩; refine ⟨_, rfl, ?_⟩; have n0_ := Aside0.mk (below_step (by repeat (first | (with_reducible first | exact HB.out | apply below_alloc | apply pw_below_drewN | apply below_drew1) | exact HB.out)) hb); clear HB; have HB := n0_; clear n0_; (try clear hb); (try clear hb2); (try clear hk); (try clear hi)) | (go_at_call 22; (with_reducible refine (fix_Of.calls a0 t106 _ A23.out).mono ?_); rintro e w26 ⟨rfl, hb⟩; have n0_ := Aside0.mk (below_step (by repeat (first | (with_reducible first | exact HB.out | apply below_alloc | apply pw_below_drewN | apply below_drew1) | exact HB.out)) hb); clear HB; have HB := n0_; clear n0_; (try clear hb); (try clear hb2); (try clear hk); (try clear hi)) | (go_at_call 17; (with_reducible refine (expo_Exp2.calls kj1 t106 t107 _ A24.out).mono ?_); rintro e w27 ⟨rfl, hb⟩; have n0_ := Aside0.mk (below_step (by repeat (first | (with_reducible first | exact HB.out | apply below_alloc | apply pw_below_drewN | apply below_drew1) | exact HB.out)) hb); clear HB; have HB := n0_; clear n0_; (try clear hb); (try clear hb2); (try clear hk); (try clear hi)))
              go_ret
              exact ⟨by first | rfl | (simp [errW_none, errW_some] <;> rfl) | (simp [*, errW_none, errW_some] <;> rfl), by repeat (first | (with_reducible first | exact HB.out | apply below_alloc | apply pw_below_drewN | apply below_drew1) | exact HB.out)⟩
            · rw [if_neg c22] at H
              exact absurd H (by simp)
        · replace c6 := Bool.eq_false_iff.mpr c6
          subst c6
          have H1 : (none) = some r := by rw [if_neg (show ¬ (false = true) by decide)] at H; exact H
          clear H
          have H := H1
          clear H1
          exact absurd H (by simp)
      · replace c4 := Bool.eq_false_iff.mpr c4
        subst c4
        have H1 : (if 0 ≤ (wrap64 (a0 + 20)) then ((pacemakerlaw04_powered.f kj1).bind fun t108 => (if t108 = true then ((fix_Of.f a0).bind fun t109 => ((expo_Exp2.f kj1 t109).bind fun t110 => (if t110 = (shl .i64 1 (wrap64 (a0 + 20))) then ((expo_Log2.f kj1 (shl .i64 1 (wrap64 (a0 + 20)))).bind fun t111 => ((fix_Of.f a0).bind fun t112 => (some (t111 == t112)))) else (none)))) else (none))) else (none)) = some r := by rw [if_neg (show ¬ (false = true) by decide)] at H; exact H
        clear H
        have H := H1
        clear H1
        obtain ⟨ji28, hji28⟩ : ∃ j_ : Int, (wrap64 (a0 + 20)) = j_ := ⟨_, rfl⟩
        replace H : (if 0 ≤ (ji28) then ((pacemakerlaw04_powered.f kj1).bind fun t108 => (if t108 = true then ((fix_Of.f a0).bind fun t109 => ((expo_Exp2.f kj1 t109).bind fun t110 => (if t110 = (shl .i64 1 (ji28)) then ((expo_Log2.f kj1 (shl .i64 1 (ji28))).bind fun t111 => ((fix_Of.f a0).bind fun t112 => (some (t111 == t112)))) else (none)))) else (none))) else (none)) = some r := by first | (rw [hji28] at H; exact H) | (simp only [hji28] at H ⊢; exact H)
        have hji28w : (IntKind.i64.wrap (a0 + 20)) = ji28 := (i64_w _).trans hji28
        by_cases c29 : 0 ≤ (ji28)
        · rw [if_pos c29] at H
          have c29b0 := eq_true c29
          have c29b1 : decide (0 ≤ (ji28)) = true := decide_eq_true c29
          clear c29
          obtain ⟨ji30, hji30⟩ : ∃ j_ : Int, (shl .i64 1 (ji28)) = j_ := ⟨_, rfl⟩
          replace H : ((pacemakerlaw04_powered.f kj1).bind fun t108 => (if t108 = true then ((fix_Of.f a0).bind fun t109 => ((expo_Exp2.f kj1 t109).bind fun t110 => (if t110 = (ji30) then ((expo_Log2.f kj1 (ji30)).bind fun t111 => ((fix_Of.f a0).bind fun t112 => (some (t111 == t112)))) else (none)))) else (none))) = some r := by first | (rw [hji30] at H; exact H) | (simp only [hji30] at H ⊢; exact H)
          have hji30_ : (IntKind.i64.wrap (1 * 2 ^ min (ji28).toNat 64)) = ji30 := hji30
          have hji30z : (ji28) ≤ 64 → (IntKind.i64.wrap (1 * 2 ^ (ji28).toNat)) = ji30 := shl_small hji30
          have hji30u : (IntKind.i64.wrap (2 ^ min (ji28).toNat 64)) = ji30 := by have h_ := hji30_; rw [Int.one_mul] at h_; exact h_
          have hji30v : (ji28) ≤ 64 → (IntKind.i64.wrap (2 ^ (ji28).toNat)) = ji30 := fun hle_ => by have h_ := hji30z hle_; rw [Int.one_mul] at h_; exact h_
          have hji30y : (wrap64 (1 * 2 ^ min (ji28).toNat 64)) = ji30 := (i64_w _).symm.trans hji30_
          have hji30x : (ji28) ≤ 64 → (wrap64 (1 * 2 ^ (ji28).toNat)) = ji30 := fun h_ => (i64_w _).symm.trans (hji30z h_)
          replace H := Option.bind_eq_some_iff.mp H
          obtain ⟨t108, A310, H⟩ := H
          replace H : (if t108 = true then ((fix_Of.f a0).bind fun t109 => ((expo_Exp2.f kj1 t109).bind fun t110 => (if t110 = (ji30) then ((expo_Log2.f kj1 (ji30)).bind fun t111 => ((fix_Of.f a0).bind fun t112 => (some (t111 == t112)))) else (none)))) else (none)) = some r := H
          have A31 := Aside0.mk A310
          clear A310
          by_cases c32 : t108 = true
          · subst c32
            have H1 : ((fix_Of.f a0).bind fun t109 => ((expo_Exp2.f kj1 t109).bind fun t110 => (if t110 = (ji30) then ((expo_Log2.f kj1 (ji30)).bind fun t111 => ((fix_Of.f a0).bind fun t112 => (some (t111 == t112)))) else (none)))) = some r := by rw [if_pos rfl] at H; exact H
            clear H
            have H := H1
            clear H1
            replace H := Option.bind_eq_some_iff.mp H
            obtain ⟨t109, A330, H⟩ := H
            replace H : ((expo_Exp2.f kj1 t109).bind fun t110 => (if t110 = (ji30) then ((expo_Log2.f kj1 (ji30)).bind fun t111 => ((fix_Of.f a0).bind fun t112 => (some (t111 == t112)))) else (none))) = some r := H
            have A33 := Aside0.mk A330
            clear A330
            replace H := Option.bind_eq_some_iff.mp H
            obtain ⟨t110, A340, H⟩ := H
            replace H : (if t110 = (ji30) then ((expo_Log2.f kj1 (ji30)).bind fun t111 => ((fix_Of.f a0).bind fun t112 => (some (t111 == t112)))) else (none)) = some r := H
            have A34 := Aside0.mk A340
            clear A340
            by_cases c35 : t110 = (ji30)
            · rw [if_pos c35] at H
              have c35b0 : (t110 == (ji30)) = true := beq_iff_eq.mpr c35
              have c35b1 : (t110 != (ji30)) = false := bne_eq_false_iff_eq.mpr c35
              clear c35
              replace H := Option.bind_eq_some_iff.mp H
              obtain ⟨t111, A360, H⟩ := H
              replace H : ((fix_Of.f a0).bind fun t112 => (some (t111 == t112))) = some r := H
              have A36 := Aside0.mk A360
              clear A360
              replace H := Option.bind_eq_some_iff.mp H
              obtain ⟨t112, A370, H⟩ := H
              replace H : (some (t111 == t112)) = some r := H
              have A37 := Aside0.mk A370
              clear A370
              obtain rfl := Option.some.inj H
              have hsm0 := A37.out.symm.trans A33.out
              simp only [Option.some.injEq, Prod.mk.injEq] at hsm0
              obtain rfl := hsm0
              go_wp2_with (first | ((with_reducible refine gate_callee (f := 14) rfl ?_); refine goesL_ (some 34) rfl rfl Try.func14 (by kernel_rfl) rfl #[] rfl (by (try simp only [List.map_toArray, List.map_cons, List.map_nil]); first | done | rfl | (simp only [List.length_drop, List.length_take]; rfl)) ?_; (with_reducible refine (pacemakerlaw04_powered.calls kj1  true _ A31.out).mono ?_); rintro e w38 ⟨rfl, hb⟩; refine ⟨_, rfl, ?_⟩; have n0_ := Aside0.mk (below_step (by repeat (first | (with_reducible first | exact HB.out | apply below_alloc | apply pw_below_drewN | apply below_drew1) | exact HB.out)) hb); clear HB; have HB := n0_; clear n0_; (try clear hb); (try clear hb2); (try clear hk); (try clear hi)) | (go_at_call 22; (with_reducible refine (fix_Of.calls a0 t112 _ A33.out).mono ?_); rintro e w39 ⟨rfl, hb⟩; have n0_ := Aside0.mk (below_step (by repeat (first | (with_reducible first | exact HB.out | apply below_alloc | apply pw_below_drewN | apply below_drew1) | exact HB.out)) hb); clear HB; have HB := n0_; clear n0_; (try clear hb); (try clear hb2); (try clear hk); (try clear hi)) | (go_at_call 17; (with_reducible refine (expo_Exp2.calls kj1 t112 t110 _ A34.out).mono ?_); rintro e w40 ⟨rfl, hb⟩; have n0_ := Aside0.mk (below_step (by repeat (first | (with_reducible first | exact HB.out | apply below_alloc | apply pw_below_drewN | apply below_drew1) | exact HB.out)) hb); clear HB; have HB := n0_; clear n0_; (try clear hb); (try clear hb2); (try clear hk); (try clear hi)) | (go_at_call 15; (with_reducible refine (expo_Log2.calls kj1 ji30 t111 _ A36.out).mono ?_); rintro e w41 ⟨rfl, hb⟩; have n0_ := Aside0.mk (below_step (by repeat (first | (with_reducible first | exact HB.out | apply below_alloc | apply pw_below_drewN | apply below_drew1) | exact HB.out)) hb); clear HB; have HB := n0_; clear n0_; (try clear hb); (try clear hb2); (try clear hk); (try clear hi)) | (go_at_call 22; (with_reducible refine (fix_Of.calls a0 t112 _ A37.out).mono ?_); rintro e w42 ⟨rfl, hb⟩; have n0_ := Aside0.mk (below_step (by repeat (first | (with_reducible first | exact HB.out | apply below_alloc | apply pw_below_drewN | apply below_drew1) | exact HB.out)) hb); clear HB; have HB := n0_; clear n0_; (try clear hb); (try clear hb2); (try clear hk); (try clear hi)))
              go_ret
              exact ⟨by first | rfl | (simp [errW_none, errW_some] <;> rfl) | (simp only [← hji28, ← hji30]; first | rfl | (simp [errW_none, errW_some] <;> rfl)) | (simp [*, errW_none, errW_some] <;> rfl), by repeat (first | (with_reducible first | exact HB.out | apply below_alloc | apply pw_below_drewN | apply below_drew1) | exact HB.out)⟩
            · rw [if_neg c35] at H
              exact absurd H (by simp)
          · replace c32 := Bool.eq_false_iff.mpr c32
            subst c32
            have H1 : (none) = some r := by rw [if_neg (show ¬ (false = true) by decide)] at H; exact H
            clear H
            have H := H1
            clear H1
            exact absurd H (by simp)
        · rw [if_neg c29] at H
          exact absurd H (by simp)

/-- THE ONE PURE STATEMENT of pacemakerlaw04_ExpoWhole: yours. -/
def pacemakerlaw04_ExpoWhole.Pure : Prop := ∀ (a0 : Int), (Lit.int .i64 a0).wf = true → ∃ k, pacemakerlaw04_ExpoWhole.f k a0 = some true
theorem pacemakerlaw04_ExpoWhole.walk (P : pacemakerlaw04_ExpoWhole.Pure) (a0 : Int) (w : World) (w0 : (Lit.int .i64 a0).wf = true) :
    Calls Try.prog 8 #[.int .i64 a0] w fun e w' => e = .returned (.bool true) ∧ Below w.heap.size w w' := by
  obtain ⟨k, h⟩ := P a0 w0
  refine (pacemakerlaw04_ExpoWhole.calls k a0 true w h).mono ?_
  rintro e w' ⟨rfl, hd⟩
  exact ⟨rfl, hd⟩

end Go.Proofs.Ytpfhlimcemkneaa.P
