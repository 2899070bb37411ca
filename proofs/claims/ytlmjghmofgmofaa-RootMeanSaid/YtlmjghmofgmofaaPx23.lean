-- Printed by a program of this session (wip/pp.py): functions, contracts, rows. Not trusted: Lean checks it.
import Derived.Test.YtlmjghmofgmofaaPx0
import Derived.Test.YtlmjghmofgmofaaPx19
namespace Go.Proofs.Ytlmjghmofgmofaa.P
open Go.RowKit Go.Proofs.YtlmjghmofgmofaaW.PrintWords Go.Proofs.YtlmjghmofgmofaaW.PrintLast Go.Proofs.YtlmjghmofgmofaaW.PrintMore Go.Proofs.YtlmjghmofgmofaaX
attribute [local go_sem] max2_int min2_int max_two min_two max_three min_three max_four min_four   -- for this text's walks alone
set_option linter.unusedVariables false
set_option linter.unusedSimpArgs false

/-! ### pacemakerlaw03_RootMean: function 5 -/
def pacemakerlaw03_RootMean.f (k : Nat) (a0 : Int) (a1 : Int) : Option (Bool) := (root_Mean.f k a0 a1).bind fun t397 => ((pacemakerlaw03_rooted.f k).bind fun t398 => (if t398 = true then (if t397 ≥ (mn a0 a1) then (if t397 ≤ (mx a0 a1) then ((root_Mean.f k a1 a0).bind fun t399 => (if t397 = t399 then ((root_Mean.f k a0 a0).bind fun t400 => (some (t400 == a0))) else (none))) else (none)) else (none)) else (none)))
theorem pacemakerlaw03_RootMean.mono : ∀ a0 a1 k, LeO (pacemakerlaw03_RootMean.f k a0 a1) (pacemakerlaw03_RootMean.f (k + 1) a0 a1) := by
  intro a0 a1 k
  unfold pacemakerlaw03_RootMean.f
  repeat' first
      | (with_reducible exact pacemakerlaw03_rooted.mono _)
      | (with_reducible exact root_Mean.mono _ _ _)
      | (with_reducible exact LeO.refl _)
      | (with_reducible exact LeO.none _)
      | (with_reducible refine LeO.ite ?_ ?_)
      | (with_reducible refine LeO.bind ?_ (fun _ => ?_))
      | exact pacemakerlaw03_rooted.mono _
      | exact root_Mean.mono _ _ _
      | exact LeO.none _
      | refine LeO.ite ?_ ?_
      | refine LeO.bind ?_ (fun _ => ?_)
set_option maxHeartbeats 8000000 in
set_option maxRecDepth 100000 in
theorem pacemakerlaw03_RootMean.calls (k : Nat) (a0 : Int) (a1 : Int) (r : Bool) (w : World) (h : pacemakerlaw03_RootMean.f k a0 a1 = some r) :
    Calls Try.prog 5 #[.int .u64 a0, .int .u64 a1] w fun e w' => e = .returned (.bool r) ∧ Below w.heap.size w w' := by
  have HB := Aside0.mk (Below.refl w.heap.size w)
  have H : ((root_Mean.f k a0 a1).bind fun t397 => ((pacemakerlaw03_rooted.f k).bind fun t398 => (if t398 = true then (if t397 ≥ (mn a0 a1) then (if t397 ≤ (mx a0 a1) then ((root_Mean.f k a1 a0).bind fun t399 => (if t397 = t399 then ((root_Mean.f k a0 a0).bind fun t400 => (some (t400 == a0))) else (none))) else (none)) else (none)) else (none)))) = some r := h
  clear h
  replace H := Option.bind_eq_some_iff.mp H
  obtain ⟨t397, A30, H⟩ := H
  replace H : ((pacemakerlaw03_rooted.f k).bind fun t398 => (if t398 = true then (if t397 ≥ (mn a0 a1) then (if t397 ≤ (mx a0 a1) then ((root_Mean.f k a1 a0).bind fun t399 => (if t397 = t399 then ((root_Mean.f k a0 a0).bind fun t400 => (some (t400 == a0))) else (none))) else (none)) else (none)) else (none))) = some r := H
  have A3 := Aside0.mk A30
  clear A30
  replace H := Option.bind_eq_some_iff.mp H
  obtain ⟨t398, A40, H⟩ := H
  replace H : (if t398 = true then (if t397 ≥ (mn a0 a1) then (if t397 ≤ (mx a0 a1) then ((root_Mean.f k a1 a0).bind fun t399 => (if t397 = t399 then ((root_Mean.f k a0 a0).bind fun t400 => (some (t400 == a0))) else (none))) else (none)) else (none)) else (none)) = some r := H
  have A4 := Aside0.mk A40
  clear A40
  by_cases c5 : t398 = true
  · subst c5
    have H1 : (if t397 ≥ (mn a0 a1) then (if t397 ≤ (mx a0 a1) then ((root_Mean.f k a1 a0).bind fun t399 => (if t397 = t399 then ((root_Mean.f k a0 a0).bind fun t400 => (some (t400 == a0))) else (none))) else (none)) else (none)) = some r := by rw [if_pos rfl] at H; exact H
    clear H
    have H := H1
    clear H1
    obtain ⟨ji6, hji6⟩ : ∃ j_ : Int, (mn a0 a1) = j_ := ⟨_, rfl⟩
    replace H : (if t397 ≥ (ji6) then (if t397 ≤ (mx a0 a1) then ((root_Mean.f k a1 a0).bind fun t399 => (if t397 = t399 then ((root_Mean.f k a0 a0).bind fun t400 => (some (t400 == a0))) else (none))) else (none)) else (none)) = some r := by first | (rw [hji6] at H; exact H) | (simp only [hji6] at H ⊢; exact H)
    (try rw [hji6] at A3)
    (try rw [hji6] at A4)
    have hji6_ : (if a1 < a0 then a1 else a0) = ji6 := hji6
    by_cases c7 : t397 ≥ (ji6)
    · rw [if_pos c7] at H
      have c7b0 : decide ((ji6) ≤ t397) = true := decide_eq_true c7
      clear c7
      obtain ⟨ji8, hji8⟩ : ∃ j_ : Int, (mx a0 a1) = j_ := ⟨_, rfl⟩
      replace H : (if t397 ≤ (ji8) then ((root_Mean.f k a1 a0).bind fun t399 => (if t397 = t399 then ((root_Mean.f k a0 a0).bind fun t400 => (some (t400 == a0))) else (none))) else (none)) = some r := by first | (rw [hji8] at H; exact H) | (simp only [hji8] at H ⊢; exact H)
      (try rw [hji8] at A3)
      (try rw [hji8] at A4)
      have hji8_ : (if a0 < a1 then a1 else a0) = ji8 := hji8
      by_cases c9 : t397 ≤ (ji8)
      · rw [if_pos c9] at H
        have c9b0 : decide (t397 ≤ (ji8)) = true := decide_eq_true c9
        clear c9
        replace H := Option.bind_eq_some_iff.mp H
        obtain ⟨t399, A100, H⟩ := H
        replace H : (if t397 = t399 then ((root_Mean.f k a0 a0).bind fun t400 => (some (t400 == a0))) else (none)) = some r := H
        have A10 := Aside0.mk A100
        clear A100
        by_cases c11 : t397 = t399
        · rw [if_pos c11] at H
          have c11b0 : (t397 == t399) = true := beq_iff_eq.mpr c11
          have c11b1 : (t397 != t399) = false := bne_eq_false_iff_eq.mpr c11
          clear c11
          replace H := Option.bind_eq_some_iff.mp H
          obtain ⟨t400, A120, H⟩ := H
          replace H : (some (t400 == a0)) = some r := H
          have A12 := Aside0.mk A120
          clear A120
          obtain rfl := Option.some.inj H
          go_enter Try.func5, Try.ntmps5
          go_wp2_with (first | ((with_reducible refine gate_callee (f := 23) rfl ?_); refine goesL_ (some 8) rfl rfl Try.func23 (by kernel_rfl) rfl #[.int .u64 a0, .int .u64 a1] rfl (by (try simp only [List.map_toArray, List.map_cons, List.map_nil]); first | done | rfl | (simp only [List.length_drop, List.length_take]; rfl)) ?_; (with_reducible refine (root_Mean.calls k a0 a1 t397 _ A3.out).mono ?_); rintro e w13 ⟨rfl, hb⟩; refine ⟨_, rfl, ?_⟩; have n0_ := Aside0.mk (below_step (by repeat (first | (with_reducible first | exact HB.out | apply below_alloc | apply pw_below_drewN | apply below_drew1) | exact HB.out)) hb); clear HB; have HB := n0_; clear n0_; (try clear hb); (try clear hb2); (try clear hk); (try clear hi)) | ((with_reducible refine gate_callee (f := 14) rfl ?_); refine goesL_ (some 9) rfl rfl Try.func14 (by kernel_rfl) rfl #[] rfl (by (try simp only [List.map_toArray, List.map_cons, List.map_nil]); first | done | rfl | (simp only [List.length_drop, List.length_take]; rfl)) ?_; (with_reducible refine (pacemakerlaw03_rooted.calls k  true _ A4.out).mono ?_); rintro e w14 ⟨rfl, hb⟩; refine ⟨_, rfl, ?_⟩; have n0_ := Aside0.mk (below_step (by repeat (first | (with_reducible first | exact HB.out | apply below_alloc | apply pw_below_drewN | apply below_drew1) | exact HB.out)) hb); clear HB; have HB := n0_; clear n0_; (try clear hb); (try clear hb2); (try clear hk); (try clear hi)) | (go_at_call 23; (with_reducible refine (root_Mean.calls k a1 a0 t399 _ A10.out).mono ?_); rintro e w15 ⟨rfl, hb⟩; have n0_ := Aside0.mk (below_step (by repeat (first | (with_reducible first | exact HB.out | apply below_alloc | apply pw_below_drewN | apply below_drew1) | exact HB.out)) hb); clear HB; have HB := n0_; clear n0_; (try clear hb); (try clear hb2); (try clear hk); (try clear hi)) | (go_at_call 23; (with_reducible refine (root_Mean.calls k a0 a0 t400 _ A12.out).mono ?_); rintro e w16 ⟨rfl, hb⟩; have n0_ := Aside0.mk (below_step (by repeat (first | (with_reducible first | exact HB.out | apply below_alloc | apply pw_below_drewN | apply below_drew1) | exact HB.out)) hb); clear HB; have HB := n0_; clear n0_; (try clear hb); (try clear hb2); (try clear hk); (try clear hi)))
          go_ret
          exact ⟨by first | rfl | (simp [errW_none, errW_some] <;> rfl) | (simp only [← hji6, ← hji8]; first | rfl | (simp [errW_none, errW_some] <;> rfl)) | (simp [*, errW_none, errW_some] <;> rfl), by repeat (first | (with_reducible first | exact HB.out | apply below_alloc | apply pw_below_drewN | apply below_drew1) | exact HB.out)⟩
        · rw [if_neg c11] at H
          exact absurd H (by simp)
      · rw [if_neg c9] at H
        exact absurd H (by simp)
    · rw [if_neg c7] at H
      exact absurd H (by simp)
  · replace c5 := Bool.eq_false_iff.mpr c5
    subst c5
    have H1 : (none) = some r := by rw [if_neg (show ¬ (false = true) by decide)] at H; exact H
    clear H
    have H := H1
    clear H1
    exact absurd H (by simp)

/-- THE ONE PURE STATEMENT of pacemakerlaw03_RootMean: yours. -/
def pacemakerlaw03_RootMean.Pure : Prop := ∀ (a0 : Int) (a1 : Int), (Lit.int .u64 a0).wf = true → (Lit.int .u64 a1).wf = true → ∃ k, pacemakerlaw03_RootMean.f k a0 a1 = some true
theorem pacemakerlaw03_RootMean.walk (P : pacemakerlaw03_RootMean.Pure) (a0 : Int) (a1 : Int) (w : World) (w0 : (Lit.int .u64 a0).wf = true) (w1 : (Lit.int .u64 a1).wf = true) :
    Calls Try.prog 5 #[.int .u64 a0, .int .u64 a1] w fun e w' => e = .returned (.bool true) ∧ Below w.heap.size w w' := by
  obtain ⟨k, h⟩ := P a0 a1 w0 w1
  refine (pacemakerlaw03_RootMean.calls k a0 a1 true w h).mono ?_
  rintro e w' ⟨rfl, hd⟩
  exact ⟨rfl, hd⟩

end Go.Proofs.Ytlmjghmofgmofaa.P
