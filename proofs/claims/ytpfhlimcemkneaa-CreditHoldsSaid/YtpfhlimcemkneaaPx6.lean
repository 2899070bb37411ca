-- Printed by a program of this session (wip/pp.py): functions, contracts, rows. Not trusted: Lean checks it.
import Derived.Test.YtpfhlimcemkneaaPx0
namespace Go.Proofs.Ytpfhlimcemkneaa.P
open Go.RowKit Go.Proofs.YtpfhlimcemkneaaW.PrintWords Go.Proofs.YtpfhlimcemkneaaW.PrintLast Go.Proofs.YtpfhlimcemkneaaW.PrintMore Go.Proofs.YtpfhlimcemkneaaX
attribute [local go_sem] max2_int min2_int max_two min_two max_three min_three max_four min_four   -- for this text's walks alone
set_option linter.unusedVariables false
set_option linter.unusedSimpArgs false

/-! ### wide_Cmp: function 36 -/
def wide_Cmp.f (a0_0 : Int) (a0_1 : Int) (a1_0 : Int) (a1_1 : Int) : Option (Int) := some (if a0_0 < a1_0 then -1 else if a1_0 < a0_0 then 1 else if a0_1 < a1_1 then -1 else if a1_1 < a0_1 then 1 else 0)
theorem wide_Cmp.at0 (x y : Int) : ∀ w, (Instr.index 68 (.agg #[.int .u64 x, .int .u64 y]) (.int .i64 0)).run Try.prog w = .ok (.int .u64 x) w := fun _ => by kernel_rfl
theorem wide_Cmp.at1 (x y : Int) : ∀ w, (Instr.index 68 (.agg #[.int .u64 x, .int .u64 y]) (.int .i64 1)).run Try.prog w = .ok (.int .u64 y) w := fun _ => by kernel_rfl
set_option maxHeartbeats 4000000 in
set_option maxRecDepth 100000 in
theorem wide_Cmp.eq (a0_0 : Int) (a0_1 : Int) (w : World) :
    Calls Try.prog 36 #[.agg #[.int .u64 a0_0, .int .u64 a0_1], .agg #[.int .u64 a0_0, .int .u64 a0_1]] w fun e w' => e = .returned (.int .i64 0) ∧ Below w.heap.size w w' := by
  go_enter Try.func36, Try.ntmps36
  go_wp2
  go_ret
  exact ⟨rfl, ((Below.refl _ _).alloc (Nat.le_refl _) _).alloc (by simp) _⟩
set_option maxHeartbeats 4000000 in
set_option maxRecDepth 100000 in
theorem wide_Cmp.hi (a0_0 : Int) (a0_1 : Int) (a1_0 : Int) (a1_1 : Int) (r : Int) (w : World) (hne : (a0_0 == a1_0) = false) (h : (a0_0 < a1_0 ∧ r = -1) ∨ (a1_0 < a0_0 ∧ r = 1)) :
    Calls Try.prog 36 #[.agg #[.int .u64 a0_0, .int .u64 a0_1], .agg #[.int .u64 a1_0, .int .u64 a1_1]] w fun e w' => e = .returned (.int .i64 r) ∧ Below w.heap.size w w' := by
  have i0 := wide_Cmp.at0 a0_0 a0_1
  rcases h with ⟨h, rfl⟩ | ⟨h, rfl⟩
  · have hd : decide (a0_0 < a1_0) = true := decide_eq_true h
    clear h
    go_enter Try.func36, Try.ntmps36
    go_wp2
    refine wp_loop_rounds 1 ?_
    rw [rounds_succ]
    go_wp2
    go_ret
    exact ⟨rfl, (((Below.refl _ _).alloc (Nat.le_refl _) _).alloc (by simp) _).alloc (by simp; omega) _⟩
  · have hd : decide (a1_0 < a0_0) = true := decide_eq_true h
    have he : decide (a0_0 < a1_0) = false := decide_eq_false (by omega)
    clear h
    go_enter Try.func36, Try.ntmps36
    go_wp2
    refine wp_loop_rounds 1 ?_
    rw [rounds_succ]
    go_wp2
    go_ret
    exact ⟨rfl, (((Below.refl _ _).alloc (Nat.le_refl _) _).alloc (by simp) _).alloc (by simp; omega) _⟩
set_option maxHeartbeats 4000000 in
set_option maxRecDepth 100000 in
theorem wide_Cmp.lo (a0_0 : Int) (a0_1 : Int) (a1_1 : Int) (r : Int) (w : World) (hne : (a0_1 == a1_1) = false) (h : (a0_1 < a1_1 ∧ r = -1) ∨ (a1_1 < a0_1 ∧ r = 1)) :
    Calls Try.prog 36 #[.agg #[.int .u64 a0_0, .int .u64 a0_1], .agg #[.int .u64 a0_0, .int .u64 a1_1]] w fun e w' => e = .returned (.int .i64 r) ∧ Below w.heap.size w w' := by
  have i0 := wide_Cmp.at0 a0_0 a0_1
  have i1 := wide_Cmp.at1 a0_0 a0_1
  rcases h with ⟨h, rfl⟩ | ⟨h, rfl⟩
  · have hd : decide (a0_1 < a1_1) = true := decide_eq_true h
    clear h
    go_enter Try.func36, Try.ntmps36
    go_wp2
    refine wp_loop_rounds 2 ?_
    rw [rounds_succ]
    go_wp2
    rw [rounds_succ]
    go_wp2
    go_ret
    exact ⟨rfl, (((Below.refl _ _).alloc (Nat.le_refl _) _).alloc (by simp) _).alloc (by simp; omega) _⟩
  · have hd : decide (a1_1 < a0_1) = true := decide_eq_true h
    have he : decide (a0_1 < a1_1) = false := decide_eq_false (by omega)
    clear h
    go_enter Try.func36, Try.ntmps36
    go_wp2
    refine wp_loop_rounds 2 ?_
    rw [rounds_succ]
    go_wp2
    rw [rounds_succ]
    go_wp2
    go_ret
    exact ⟨rfl, (((Below.refl _ _).alloc (Nat.le_refl _) _).alloc (by simp) _).alloc (by simp; omega) _⟩
theorem wide_Cmp.calls (a0_0 : Int) (a0_1 : Int) (a1_0 : Int) (a1_1 : Int) (r : Int) (w : World) (h : wide_Cmp.f a0_0 a0_1 a1_0 a1_1 = some r) :
    Calls Try.prog 36 #[.agg #[.int .u64 a0_0, .int .u64 a0_1], .agg #[.int .u64 a1_0, .int .u64 a1_1]] w fun e w' => e = .returned (.int .i64 r) ∧ Below w.heap.size w w' := by
  unfold wide_Cmp.f at h
  have h := Option.some.inj h
  subst h
  by_cases h1 : a0_0 < a1_0
  · exact wide_Cmp.hi a0_0 a0_1 a1_0 a1_1 _ w (by rw [beq_eq_false_iff_ne]; omega) (.inl ⟨h1, if_pos h1⟩)
  · rw [if_neg h1]
    by_cases h2 : a1_0 < a0_0
    · exact wide_Cmp.hi a0_0 a0_1 a1_0 a1_1 _ w (by rw [beq_eq_false_iff_ne]; omega) (.inr ⟨h2, if_pos h2⟩)
    · rw [if_neg h2]
      obtain rfl : a0_0 = a1_0 := by omega
      by_cases h3 : a0_1 < a1_1
      · exact wide_Cmp.lo a0_0 a0_1 a1_1 _ w (by rw [beq_eq_false_iff_ne]; omega) (.inl ⟨h3, if_pos h3⟩)
      · rw [if_neg h3]
        by_cases h4 : a1_1 < a0_1
        · exact wide_Cmp.lo a0_0 a0_1 a1_1 _ w (by rw [beq_eq_false_iff_ne]; omega) (.inr ⟨h4, if_pos h4⟩)
        · rw [if_neg h4]
          obtain rfl : a0_1 = a1_1 := by omega
          exact wide_Cmp.eq a0_0 a0_1 w

end Go.Proofs.Ytpfhlimcemkneaa.P
