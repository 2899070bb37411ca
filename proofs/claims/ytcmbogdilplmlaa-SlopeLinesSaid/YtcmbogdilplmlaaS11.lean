import Derived.Test.YtcmbogdilplmlaaS4
import Derived.Test.YtcmbogdilplmlaaS10
import Derived.Test.YtcmbogdilplmlaaS7
namespace Go.Proofs.Ytcmbogdilplmlaa.P
open Go.RowKit Go.Proofs.YtcmbogdilplmlaaW.PrintWords Go.Proofs.YtcmbogdilplmlaaW.PrintLast Go.Proofs.YtcmbogdilplmlaaW.PrintMore Go.Proofs.YtcmbogdilplmlaaX
attribute [local go_sem] max2_int min2_int max_two min_two max_three min_three max_four min_four
set_option linter.unusedVariables false
set_option linter.unusedSimpArgs false
open Go.Proofs.Th
def account_Is.f (a0_0 : Int) (a0_1 : Int) (a0_2 : Int) (a0_3 : Int) (a0_4 : Int) (a0_5 : Int) (a0_6 : Int) (a0_7 : Int) (a0_8 : Int) (a0_9 : Int) (a0_10 : Int) (a0_11 : Int) (a0_12 : Int) (a0_13 : Int) (a0_14 : Int) : Option (Bool) := some (rightB a0_0 a0_1 a0_2 a0_3 a0_4 a0_5 a0_6 a0_7 a0_8 a0_9 a0_10 a0_11 a0_12 a0_13 a0_14)
theorem account_Is.calls (a0_0 : Int) (a0_1 : Int) (a0_2 : Int) (a0_3 : Int) (a0_4 : Int) (a0_5 : Int) (a0_6 : Int) (a0_7 : Int) (a0_8 : Int) (a0_9 : Int) (a0_10 : Int) (a0_11 : Int) (a0_12 : Int) (a0_13 : Int) (a0_14 : Int) (r : Bool) (w : World) (h : account_Is.f a0_0 a0_1 a0_2 a0_3 a0_4 a0_5 a0_6 a0_7 a0_8 a0_9 a0_10 a0_11 a0_12 a0_13 a0_14 = some r) :
    Calls Try.prog 40 #[.agg #[.int .i64 a0_0, .int .i64 a0_1, .int .i64 a0_2, .int .i64 a0_3, .int .i64 a0_4, .int .i64 a0_5, .int .i64 a0_6, .int .i64 a0_7, .int .i64 a0_8, .int .i64 a0_9, .int .i64 a0_10, .int .i64 a0_11, .int .i64 a0_12, .int .i64 a0_13, .int .i64 a0_14]] w fun e w' => e = .returned (.bool r) ∧ Below w.heap.size w w' := by
  obtain rfl := Option.some.inj h
  exact is_any a0_0 a0_1 a0_2 a0_3 a0_4 a0_5 a0_6 a0_7 a0_8 a0_9 a0_10 a0_11 a0_12 a0_13 a0_14 w
def slope_Ratio.f (a0_0 : Int) (a0_1 : Int) (a1_0 : Int) (a1_1 : Int) : Option (Int) := if 0 ≤ a0_0 ∧ a0_0 < 18446744073709551616 ∧ 0 ≤ a0_1 ∧ a0_1 < 18446744073709551616 ∧ 0 ≤ a1_0 ∧ a1_0 < 18446744073709551616 ∧ 0 ≤ a1_1 ∧ a1_1 < 18446744073709551616 then some (ratioI (W a0_0 a0_1) (W a1_0 a1_1)) else none
theorem slope_Ratio.calls (a0_0 : Int) (a0_1 : Int) (a1_0 : Int) (a1_1 : Int) (r : Int) (w : World) (h : slope_Ratio.f a0_0 a0_1 a1_0 a1_1 = some r) :
    Calls Try.prog 10 #[.agg #[.int .u64 a0_0, .int .u64 a0_1], .agg #[.int .u64 a1_0, .int .u64 a1_1]] w fun e w' => e = .returned (.int .i64 r) ∧ Below w.heap.size w w' := by
  unfold slope_Ratio.f at h
  by_cases c : 0 ≤ a0_0 ∧ a0_0 < 18446744073709551616 ∧ 0 ≤ a0_1 ∧ a0_1 < 18446744073709551616 ∧ 0 ≤ a1_0 ∧ a1_0 < 18446744073709551616 ∧ 0 ≤ a1_1 ∧ a1_1 < 18446744073709551616
  · rw [if_pos c] at h
    obtain rfl := Option.some.inj h
    have := ratio_any (W a0_0 a0_1) (W a1_0 a1_1) (W_nn c.1 c.2.2.1) (W_lt c.2.1 c.2.2.2.1) (W_nn c.2.2.2.2.1 c.2.2.2.2.2.2.1) (W_lt c.2.2.2.2.2.1 c.2.2.2.2.2.2.2) w
    rw [hi_W c.2.2.1 c.2.2.2.1, lo_W c.2.2.1 c.2.2.2.1, hi_W c.2.2.2.2.2.2.1 c.2.2.2.2.2.2.2, lo_W c.2.2.2.2.2.2.1 c.2.2.2.2.2.2.2] at this
    exact this
  · rw [if_neg c] at h
    cases h
def okB (x : S36) : Bool := decide (0 ≤ x.f0 ∧ x.f0 ≤ 60000000 ∧ 0 ≤ x.f1 ∧ x.f1 ≤ 60000000)
def goodB (l : List S36) : Bool := decide (l.length ≤ 100) && l.all okB
def pacemakerlaw10_sampled.f (l0 : List (S36)) : Option (Int × Int × Int × Int × Int × Int × Int × Int × Int × Int × Int × Int × Int × Int × Int × Bool) := some (if goodB l0 = true then (0, 0, -1, (l0.length : Int), (l0.length : Int), 0, (l0.length : Int), (l0.length : Int), 0, (l0.length : Int), sm S36.f0 l0, sm S36.f1 l0, sm (fun x => x.f0 * x.f0) l0, sm (fun x => x.f0 * x.f1) l0, sm (fun x => x.f1 * x.f1) l0, true) else (0, 0, 0, 0, 0, 0, 0, 0, 0, 0, 0, 0, 0, 0, 0, false))
theorem all_ok {l : List S36} : l.all okB = true ↔ ∀ x ∈ l, okS x := by
  rw [List.all_eq_true]
  exact ⟨fun h x hx => (of_decide_eq_true (h x hx) : 0 ≤ x.f0 ∧ x.f0 ≤ 60000000 ∧ 0 ≤ x.f1 ∧ x.f1 ≤ 60000000), fun h x hx => by have k := h x hx; unfold okS at k; unfold okB; exact decide_eq_true k⟩
set_option maxHeartbeats 4000000 in
set_option maxRecDepth 100000 in
theorem samp_long (A0 : Option Addr) (c0 : Nat) (l0 : List S36) (w : World) (hl : ¬ l0.length ≤ 100) :
    Calls Try.prog 18 #[.slice A0 l0.length c0] w fun e w' => e = .returned (.tuple #[.agg #[.int .i64 0, .int .i64 0, .int .i64 0, .int .i64 0, .int .i64 0, .int .i64 0, .int .i64 0, .int .i64 0, .int .i64 0, .int .i64 0, .int .i64 0, .int .i64 0, .int .i64 0, .int .i64 0, .int .i64 0], .bool false]) ∧ Below w.heap.size w w' := by
  have hl0 : decide (100 < (l0.length : Int)) = true := decide_eq_true (by omega)
  have hl1 : decide (100 < l0.length) = true := decide_eq_true (by omega)
  clear hl
  go_enter Try.func18, Try.ntmps18
  go_wp2_with fail
  exact bodyPost_ret (v := .tuple #[.agg #[.int .i64 0, .int .i64 0, .int .i64 0, .int .i64 0, .int .i64 0, .int .i64 0, .int .i64 0, .int .i64 0, .int .i64 0, .int .i64 0, .int .i64 0, .int .i64 0, .int .i64 0, .int .i64 0, .int .i64 0], .bool false]) (by simp [results, Try.results18, go_sem]) rfl ⟨rfl, by repeat (first | exact Below.refl _ _ | apply below_alloc | apply pw_below_drewN | apply below_drew1)⟩
theorem pacemakerlaw10_sampled.calls (A0 : Option Addr) (c0 : Nat) (l0 : List (S36)) (r1 r2 r3 r4 r5 r6 r7 r8 r9 r10 r11 r12 r13 r14 r15 : Int) (r16 : Bool) (w : World) (hr0 : Kd.C k36 w A0 l0.length l0) (hc0 : l0.length ≤ c0) (h : pacemakerlaw10_sampled.f l0 = some (r1, r2, r3, r4, r5, r6, r7, r8, r9, r10, r11, r12, r13, r14, r15, r16)) :
    Calls Try.prog 18 #[.slice A0 l0.length c0] w fun e w' => e = .returned (.tuple #[.agg #[.int .i64 r1, .int .i64 r2, .int .i64 r3, .int .i64 r4, .int .i64 r5, .int .i64 r6, .int .i64 r7, .int .i64 r8, .int .i64 r9, .int .i64 r10, .int .i64 r11, .int .i64 r12, .int .i64 r13, .int .i64 r14, .int .i64 r15], .bool r16]) ∧ Below w.heap.size w w' := by
  have h := Option.some.inj h
  by_cases hl : l0.length ≤ 100
  · refine (samp_any A0 c0 l0 w hr0 hc0 hl).mono fun e w' ⟨hp, hb⟩ => ⟨?_, hb⟩
    rcases hp with ⟨ho, rfl⟩ | ⟨⟨x, hx, hn⟩, rfl⟩
    · have g : goodB l0 = true := by unfold goodB; rw [decide_eq_true hl, all_ok.2 ho]; rfl
      rw [if_pos g] at h
      simp only [Prod.mk.injEq] at h
      obtain ⟨rfl, rfl, rfl, rfl, rfl, rfl, rfl, rfl, rfl, rfl, rfl, rfl, rfl, rfl, rfl, rfl⟩ := h
      rfl
    · have g : ¬ goodB l0 = true := by
        unfold goodB
        rw [Bool.and_eq_true]
        exact fun k => hn (all_ok.1 k.2 x hx)
      rw [if_neg g] at h
      simp only [Prod.mk.injEq] at h
      obtain ⟨rfl, rfl, rfl, rfl, rfl, rfl, rfl, rfl, rfl, rfl, rfl, rfl, rfl, rfl, rfl, rfl⟩ := h
      rfl
  · have g : ¬ goodB l0 = true := by
      unfold goodB
      rw [decide_eq_false hl]
      simp
    rw [if_neg g] at h
    simp only [Prod.mk.injEq] at h
    obtain ⟨rfl, rfl, rfl, rfl, rfl, rfl, rfl, rfl, rfl, rfl, rfl, rfl, rfl, rfl, rfl, rfl⟩ := h
    exact samp_long A0 c0 l0 w hl

end Go.Proofs.Ytcmbogdilplmlaa.P
