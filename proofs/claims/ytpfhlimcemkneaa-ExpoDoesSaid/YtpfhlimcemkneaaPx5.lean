-- Printed by a program of this session (wip/pp.py): functions, contracts, rows. Not trusted: Lean checks it.
import Derived.Test.YtpfhlimcemkneaaPx0
import Derived.Test.YtpfhlimcemkneaaPx4
namespace Go.Proofs.Ytpfhlimcemkneaa.P
open Go.RowKit Go.Proofs.YtpfhlimcemkneaaW.PrintWords Go.Proofs.YtpfhlimcemkneaaW.PrintLast Go.Proofs.YtpfhlimcemkneaaW.PrintMore Go.Proofs.YtpfhlimcemkneaaX
attribute [local go_sem] max2_int min2_int max_two min_two max_three min_three max_four min_four   -- for this text's walks alone
set_option linter.unusedVariables false
set_option linter.unusedSimpArgs false

/-! ### pacemakerref04_times: function 41 -/
def pacemakerref04_times.f (a0 : Int) (a1 : Int) (a2 : Int) : Option (Int) := (pacemakerref02_Times.f a0 a1).bind fun bt101 => (if 0 ≤ (wrap64 (64 - a2)) then (if 0 ≤ a2 then (some (Go.bits .or .u64 (shl .u64 bt101.1 (wrap64 (64 - a2))) (shr .u64 bt101.2 a2))) else (none)) else (none))
set_option maxHeartbeats 8000000 in
set_option maxRecDepth 100000 in
theorem pacemakerref04_times.calls (a0 : Int) (a1 : Int) (a2 : Int) (r : Int) (w : World) (h : pacemakerref04_times.f a0 a1 a2 = some r) :
    Calls Try.prog 41 #[.int .u64 a0, .int .u64 a1, .int .i64 a2] w fun e w' => e = .returned (.int .u64 r) ∧ Drawn0 w w' := by
  have H : ((pacemakerref02_Times.f a0 a1).bind fun bt101 => (if 0 ≤ (wrap64 (64 - a2)) then (if 0 ≤ a2 then (some (Go.bits .or .u64 (shl .u64 bt101.1 (wrap64 (64 - a2))) (shr .u64 bt101.2 a2))) else (none)) else (none))) = some r := h
  clear h
  replace H := Option.bind_eq_some_iff.mp H
  obtain ⟨⟨t101, t102⟩, A40, H⟩ := H
  replace H : (if 0 ≤ (wrap64 (64 - a2)) then (if 0 ≤ a2 then (some (Go.bits .or .u64 (shl .u64 t101 (wrap64 (64 - a2))) (shr .u64 t102 a2))) else (none)) else (none)) = some r := H
  have A4 := Aside0.mk A40
  clear A40
  obtain ⟨ji5, hji5⟩ : ∃ j_ : Int, (wrap64 (64 - a2)) = j_ := ⟨_, rfl⟩
  replace H : (if 0 ≤ (ji5) then (if 0 ≤ a2 then (some (Go.bits .or .u64 (shl .u64 t101 (ji5)) (shr .u64 t102 a2))) else (none)) else (none)) = some r := by first | (rw [hji5] at H; exact H) | (simp only [hji5] at H ⊢; exact H)
  (try rw [hji5] at A4)
  have hji5w : (IntKind.i64.wrap (64 - a2)) = ji5 := (i64_w _).trans hji5
  by_cases c6 : 0 ≤ (ji5)
  · rw [if_pos c6] at H
    have c6b0 := eq_true c6
    have c6b1 : decide (0 ≤ (ji5)) = true := decide_eq_true c6
    clear c6
    obtain ⟨ji7, hji7⟩ : ∃ j_ : Int, (shl .u64 t101 (ji5)) = j_ := ⟨_, rfl⟩
    replace H : (if 0 ≤ a2 then (some (Go.bits .or .u64 (ji7) (shr .u64 t102 a2))) else (none)) = some r := by first | (rw [hji7] at H; exact H) | (simp only [hji7] at H ⊢; exact H)
    (try rw [hji7] at A4)
    have hji7_ : (IntKind.u64.wrap (t101 * 2 ^ min (ji5).toNat 64)) = ji7 := hji7
    have hji7z : (ji5) ≤ 64 → (IntKind.u64.wrap (t101 * 2 ^ (ji5).toNat)) = ji7 := shl_small hji7
    by_cases c8 : 0 ≤ a2
    · rw [if_pos c8] at H
      have c8b0 := eq_true c8
      have c8b1 : decide (0 ≤ a2) = true := decide_eq_true c8
      clear c8
      obtain ⟨ji9, hji9⟩ : ∃ j_ : Int, (shr .u64 t102 a2) = j_ := ⟨_, rfl⟩
      replace H : (some (Go.bits .or .u64 (ji7) (ji9))) = some r := by first | (rw [hji9] at H; exact H) | (simp only [hji9] at H ⊢; exact H)
      (try rw [hji9] at A4)
      have hji9_ : (t102 / 2 ^ min a2.toNat 64) = ji9 := hji9
      have hji9z : a2 ≤ 64 → (t102 / 2 ^ a2.toNat) = ji9 := shr_small hji9
      obtain rfl := Option.some.inj H
      go_enter Try.func41, Try.ntmps41
      go_wp2_with (first | (go_at_call 47; (with_reducible refine (pacemakerref02_Times.calls a0 a1 t101 t102 _ A4.out).mono ?_); rintro e w' ⟨rfl, ⟨nd, rfl⟩⟩; (try first | exact ⟨rfl, _, World.drewN_drewN _ _ _⟩ | exact ⟨rfl, _, Eq.trans (World.drewN_drewN _ _ _) (congrArg (World.drewN _) (Nat.add_assoc _ _ _))⟩)))
      repeat (go_quiet (first | (go_at_call 47; (with_reducible refine (pacemakerref02_Times.calls a0 a1 t101 t102 _ A4.out).mono ?_); rintro e w' ⟨rfl, ⟨nd, rfl⟩⟩; (try first | exact ⟨rfl, _, World.drewN_drewN _ _ _⟩ | exact ⟨rfl, _, Eq.trans (World.drewN_drewN _ _ _) (congrArg (World.drewN _) (Nat.add_assoc _ _ _))⟩))); try go_wp2_with (first | (go_at_call 47; (with_reducible refine (pacemakerref02_Times.calls a0 a1 t101 t102 _ A4.out).mono ?_); rintro e w' ⟨rfl, ⟨nd, rfl⟩⟩; (try first | exact ⟨rfl, _, World.drewN_drewN _ _ _⟩ | exact ⟨rfl, _, Eq.trans (World.drewN_drewN _ _ _) (congrArg (World.drewN _) (Nat.add_assoc _ _ _))⟩))))
      go_ret
      exact ⟨by first | rfl | (simp; done) | (simp only [← hji5, ← hji7, ← hji9] <;> (first | rfl | simp)) | (simp [*]; done), by repeat (first | exact Drawn0.refl _ | apply Drawn0.step)⟩
    · rw [if_neg c8] at H
      exact absurd H (by simp)
  · rw [if_neg c6] at H
    exact absurd H (by simp)

/-! ### pacemakerref04_Log2: function 16 -/
def pacemakerref04_Log2.l0 : Nat → Int → Int → Int → Int → Option (Int)
  | 0, _, _, _, _ => none
  | k + 1, x3, x4, x5, x6 => if x6 < 20 then ((pacemakerref04_times.f x4 x4 62).bind fun t103 => (if t103 ≥ 9223372036854775808 then (pacemakerref04_Log2.l0 k x3 (IntKind.u64.wrap (Int.tdiv t103 2)) (wrap64 ((wrap64 (2 * x5)) + 1)) (wrap64 (x6 + 1))) else (pacemakerref04_Log2.l0 k x3 t103 (wrap64 (2 * x5)) (wrap64 (x6 + 1))))) else (some (wrap64 ((wrap64 ((wrap64 (x3 - 20)) * 1048576)) + x5)))
def pacemakerref04_Log2.f (k : Nat) (a0 : Int) : Option (Int) := (pacemakerref02_Clamp.f a0).bind fun t101 => (if t101 ≤ 0 then (some (-4611686018427387904)) else ((pacemakerref03_Log.f k (IntKind.u64.wrap (t101))).bind fun t102 => (if 0 ≤ (wrap64 (62 - t102)) then (pacemakerref04_Log2.l0 k t102 (shl .u64 (IntKind.u64.wrap (t101)) (wrap64 (62 - t102))) 0 0) else (none))))
theorem pacemakerref04_Log2.mono_l : ∀ k, (∀ y0 y1 y2 y3, LeO (pacemakerref04_Log2.l0 k y0 y1 y2 y3) (pacemakerref04_Log2.l0 (k + 1) y0 y1 y2 y3))
  | 0 => fun _ _ _ _ r h => by simp [pacemakerref04_Log2.l0] at h
  | k + 1 => by
    have ih0 := pacemakerref04_Log2.mono_l k
    · intro y0 y1 y2 y3
      unfold pacemakerref04_Log2.l0
      repeat' first
      | (with_reducible exact ih0 _ _ _ _)
      | (with_reducible exact pacemakerref03_Log.mono _ _)
      | (with_reducible exact LeO.refl _)
      | (with_reducible exact LeO.none _)
      | (with_reducible refine LeO.ite ?_ ?_)
      | (with_reducible refine LeO.bind ?_ (fun _ => ?_))
      | exact ih0 _ _ _ _
      | exact pacemakerref03_Log.mono _ _
      | exact LeO.none _
      | refine LeO.ite ?_ ?_
      | refine LeO.bind ?_ (fun _ => ?_)
theorem pacemakerref04_Log2.mono : ∀ a0 k, LeO (pacemakerref04_Log2.f k a0) (pacemakerref04_Log2.f (k + 1) a0) := by
  intro a0 k
  have ih0 := pacemakerref04_Log2.mono_l k
  unfold pacemakerref04_Log2.f
  repeat' first
      | (with_reducible exact ih0 _ _ _ _)
      | (with_reducible exact pacemakerref03_Log.mono _ _)
      | (with_reducible exact LeO.refl _)
      | (with_reducible exact LeO.none _)
      | (with_reducible refine LeO.ite ?_ ?_)
      | (with_reducible refine LeO.bind ?_ (fun _ => ?_))
      | exact ih0 _ _ _ _
      | exact pacemakerref03_Log.mono _ _
      | exact LeO.none _
      | refine LeO.ite ?_ ?_
      | refine LeO.bind ?_ (fun _ => ?_)
set_option maxHeartbeats 8000000 in
set_option maxRecDepth 100000 in
theorem pacemakerref04_Log2.calls (k : Nat) (a0 : Int) (r : Int) (w : World) (h : pacemakerref04_Log2.f k a0 = some r) :
    Calls Try.prog 16 #[.int .i64 a0] w fun e w' => e = .returned (.int .i64 r) ∧ Below w.heap.size w w' := by
  have HB := Aside0.mk (Below.refl w.heap.size w)
  have H : ((pacemakerref02_Clamp.f a0).bind fun t101 => (if t101 ≤ 0 then (some (-4611686018427387904)) else ((pacemakerref03_Log.f k (IntKind.u64.wrap (t101))).bind fun t102 => (if 0 ≤ (wrap64 (62 - t102)) then (pacemakerref04_Log2.l0 k t102 (shl .u64 (IntKind.u64.wrap (t101)) (wrap64 (62 - t102))) 0 0) else (none))))) = some r := h
  clear h
  replace H := Option.bind_eq_some_iff.mp H
  obtain ⟨t101, A20, H⟩ := H
  replace H : (if t101 ≤ 0 then (some (-4611686018427387904)) else ((pacemakerref03_Log.f k (IntKind.u64.wrap (t101))).bind fun t102 => (if 0 ≤ (wrap64 (62 - t102)) then (pacemakerref04_Log2.l0 k t102 (shl .u64 (IntKind.u64.wrap (t101)) (wrap64 (62 - t102))) 0 0) else (none)))) = some r := H
  have A2 := Aside0.mk A20
  clear A20
  by_cases c3 : t101 ≤ 0
  · rw [if_pos c3] at H
    have c3b0 : decide (t101 ≤ 0) = true := decide_eq_true c3
    clear c3
    obtain rfl := Option.some.inj H
    go_enter Try.func16, Try.ntmps16
    go_wp2_with (first | ((with_reducible refine gate_callee (f := 39) rfl ?_); refine goesL_ (some 8) rfl rfl Try.func39 (by kernel_rfl) rfl #[.int .i64 a0] rfl (by (try simp only [List.map_toArray, List.map_cons, List.map_nil]); first | done | rfl | (simp only [List.length_drop, List.length_take]; rfl)) ?_; (with_reducible refine (pacemakerref02_Clamp.calls a0 t101 _ A2.out).mono ?_); rintro e w4 ⟨rfl, hb⟩; refine ⟨_, rfl, ?_⟩; have n0_ := Aside0.mk (below_step (by repeat (first | (with_reducible first | exact HB.out | apply below_alloc | apply pw_below_drewN | apply below_drew1) | exact HB.out)) hb); clear HB; have HB := n0_; clear n0_; (try clear hb); (try clear hb2); (try clear hk); (try clear hi)))
    go_ret
    exact ⟨by first | rfl | (simp [errW_none, errW_some] <;> rfl) | (simp [*, errW_none, errW_some] <;> rfl), by repeat (first | (with_reducible first | exact HB.out | apply below_alloc | apply pw_below_drewN | apply below_drew1) | exact HB.out)⟩
  · rw [if_neg c3] at H
    have c3b0 : decide (t101 ≤ 0) = false := decide_eq_false c3
    clear c3
    replace H := Option.bind_eq_some_iff.mp H
    obtain ⟨t102, A50, H⟩ := H
    replace H : (if 0 ≤ (wrap64 (62 - t102)) then (pacemakerref04_Log2.l0 k t102 (shl .u64 (IntKind.u64.wrap (t101)) (wrap64 (62 - t102))) 0 0) else (none)) = some r := H
    have A5 := Aside0.mk A50
    clear A50
    obtain ⟨ji6, hji6⟩ : ∃ j_ : Int, (wrap64 (62 - t102)) = j_ := ⟨_, rfl⟩
    replace H : (if 0 ≤ (ji6) then (pacemakerref04_Log2.l0 k t102 (shl .u64 (IntKind.u64.wrap (t101)) (ji6)) 0 0) else (none)) = some r := by first | (rw [hji6] at H; exact H) | (simp only [hji6] at H ⊢; exact H)
    (try rw [hji6] at A2)
    (try rw [hji6] at A5)
    have hji6w : (IntKind.i64.wrap (62 - t102)) = ji6 := (i64_w _).trans hji6
    by_cases c7 : 0 ≤ (ji6)
    · rw [if_pos c7] at H
      have c7b0 := eq_true c7
      have c7b1 : decide (0 ≤ (ji6)) = true := decide_eq_true c7
      clear c7
      obtain ⟨ji8, hji8⟩ : ∃ j_ : Int, (shl .u64 (IntKind.u64.wrap (t101)) (ji6)) = j_ := ⟨_, rfl⟩
      replace H : (pacemakerref04_Log2.l0 k t102 ji8 0 0) = some r := by first | (rw [hji8] at H; exact H) | (simp only [hji8] at H ⊢; exact H)
      (try rw [hji8] at A2)
      (try rw [hji8] at A5)
      have hji8_ : (IntKind.u64.wrap ((IntKind.u64.wrap (t101)) * 2 ^ min (ji6).toNat 64)) = ji8 := hji8
      have hji8z : (ji6) ≤ 64 → (IntKind.u64.wrap ((IntKind.u64.wrap (t101)) * 2 ^ (ji6).toNat)) = ji8 := shl_small hji8
      have H' := Aside0.mk H
      clear H
      go_enter Try.func16, Try.ntmps16
      go_wp2_with (first | ((with_reducible refine gate_callee (f := 39) rfl ?_); refine goesL_ (some 8) rfl rfl Try.func39 (by kernel_rfl) rfl #[.int .i64 a0] rfl (by (try simp only [List.map_toArray, List.map_cons, List.map_nil]); first | done | rfl | (simp only [List.length_drop, List.length_take]; rfl)) ?_; (with_reducible refine (pacemakerref02_Clamp.calls a0 t101 _ A2.out).mono ?_); rintro e w9 ⟨rfl, hb⟩; refine ⟨_, rfl, ?_⟩; have n0_ := Aside0.mk (below_step (by repeat (first | (with_reducible first | exact HB.out | apply below_alloc | apply pw_below_drewN | apply below_drew1) | exact HB.out)) hb); clear HB; have HB := n0_; clear n0_; (try clear hb); (try clear hb2); (try clear hk); (try clear hi)) | ((with_reducible refine gate_callee (f := 40) rfl ?_); refine goesL_ (some 13) rfl rfl Try.func40 (by kernel_rfl) rfl #[.int .u64 (IntKind.u64.wrap (t101))] rfl (by (try simp only [List.map_toArray, List.map_cons, List.map_nil]); first | done | rfl | (simp only [List.length_drop, List.length_take]; rfl)) ?_; (with_reducible refine (pacemakerref03_Log.calls k (IntKind.u64.wrap (t101)) t102 _ A5.out).mono ?_); rintro e w' ⟨rfl, ⟨nd, rfl⟩⟩; refine ⟨_, rfl, ?_⟩))
      go_loopg [4, 5, 6] k (fun kq v4 v5 v6 w' => ∃ (x4_1 : Int) (x5_1 : Int) (x6_1 : Int), v4 = .int .u64 x4_1 ∧ v5 = .int .i64 x5_1 ∧ v6 = .int .i64 x6_1 ∧ Aside0 (pacemakerref04_Log2.l0 kq t102 x4_1 x5_1 x6_1 = some r) ∧ Aside0 (kq ≤ k) ∧ Aside0 (Below w.heap.size w w'))
      case atStart => exact ⟨(ji8), (0), (0), (by first | rfl | (simp; done) | (simp only [← hji8] <;> (first | rfl | simp)) | (simp [*]; done)), (by first | rfl | (simp; done) | (simp [*]; done)), (by first | rfl | (simp; done) | (simp [*]; done)), H', ⟨Nat.le_refl _⟩, ⟨by repeat (first | (with_reducible first | exact HB.out | apply below_alloc | apply pw_below_drewN | apply below_drew1) | exact HB.out)⟩⟩
      case round =>
        clear H'
        try clear c1
        try clear p2
        try clear c3
        try clear c3b0
        try clear c4
        try clear p6
        try clear c7
        try clear c7b0
        try clear c7b1
        obtain ⟨x4_1, x5_1, x6_1, rfl, rfl, rfl, HA, HK1, HB⟩ := hrel
        cases gk with
        | zero => exact absurd HA.out (by simp [pacemakerref04_Log2.l0])
        | succ k1 =>
          have H := HA.out
          clear HA
          simp only [pacemakerref04_Log2.l0] at H
          by_cases c10 : x6_1 < 20
          · rw [if_pos c10] at H
            have c10b0 : decide (x6_1 < 20) = true := decide_eq_true c10
            clear c10
            replace H := Option.bind_eq_some_iff.mp H
            obtain ⟨t103, A110, H⟩ := H
            replace H : (if t103 ≥ 9223372036854775808 then (pacemakerref04_Log2.l0 k1 t102 (IntKind.u64.wrap (Int.tdiv t103 2)) (wrap64 ((wrap64 (2 * x5_1)) + 1)) (wrap64 (x6_1 + 1))) else (pacemakerref04_Log2.l0 k1 t102 t103 (wrap64 (2 * x5_1)) (wrap64 (x6_1 + 1)))) = some r := H
            have A11 := Aside0.mk A110
            clear A110
            by_cases c12 : t103 ≥ 9223372036854775808
            · rw [if_pos c12] at H
              have c12b0 : decide (9223372036854775808 ≤ t103) = true := decide_eq_true c12
              clear c12
              have H' := Aside0.mk H
              clear H
              go_wp2_with (first | ((with_reducible refine gate_callee (f := 41) rfl ?_); refine goesL_ (some 25) rfl rfl Try.func41 (by kernel_rfl) rfl #[.int .u64 x4_1, .int .u64 x4_1, .int .i64 62] rfl (by (try simp only [List.map_toArray, List.map_cons, List.map_nil]); first | done | rfl | (simp only [List.length_drop, List.length_take]; rfl)) ?_; (with_reducible refine (pacemakerref04_times.calls x4_1 x4_1 62 t103 _ A11.out).mono ?_); rintro e w' ⟨rfl, ⟨nd, rfl⟩⟩; refine ⟨_, rfl, ?_⟩))
              go_roundg k1
              case measure => have := HK1.out; omega
              case rel => exact ⟨(IntKind.u64.wrap (Int.tdiv t103 2)), (wrap64 ((wrap64 (2 * x5_1)) + 1)), (wrap64 (x6_1 + 1)), (by first | rfl | (simp; done) | (simp [*]; done)), (by first | rfl | (simp; done) | (simp [*]; done)), (by first | rfl | (simp; done) | (simp [*]; done)), H', ⟨by have := HK1.out; omega⟩, ⟨by repeat (first | (with_reducible first | exact HB.out | apply below_alloc | apply pw_below_drewN | apply below_drew1) | exact HB.out)⟩⟩
            · rw [if_neg c12] at H
              have c12b0 : decide (9223372036854775808 ≤ t103) = false := decide_eq_false c12
              clear c12
              have H' := Aside0.mk H
              clear H
              go_wp2_with (first | ((with_reducible refine gate_callee (f := 41) rfl ?_); refine goesL_ (some 25) rfl rfl Try.func41 (by kernel_rfl) rfl #[.int .u64 x4_1, .int .u64 x4_1, .int .i64 62] rfl (by (try simp only [List.map_toArray, List.map_cons, List.map_nil]); first | done | rfl | (simp only [List.length_drop, List.length_take]; rfl)) ?_; (with_reducible refine (pacemakerref04_times.calls x4_1 x4_1 62 t103 _ A11.out).mono ?_); rintro e w' ⟨rfl, ⟨nd, rfl⟩⟩; refine ⟨_, rfl, ?_⟩))
              go_roundg k1
              case measure => have := HK1.out; omega
              case rel => exact ⟨(t103), (wrap64 (2 * x5_1)), (wrap64 (x6_1 + 1)), (by first | rfl | (simp; done) | (simp [*]; done)), (by first | rfl | (simp; done) | (simp [*]; done)), (by first | rfl | (simp; done) | (simp [*]; done)), H', ⟨by have := HK1.out; omega⟩, ⟨by repeat (first | (with_reducible first | exact HB.out | apply below_alloc | apply pw_below_drewN | apply below_drew1) | exact HB.out)⟩⟩
          · rw [if_neg c10] at H
            have c10b0 : decide (x6_1 < 20) = false := decide_eq_false c10
            clear c10
            obtain rfl := Option.some.inj H
            go_wp2
            go_ret
            exact ⟨by first | rfl | (simp [errW_none, errW_some] <;> rfl) | (simp only [← hji6, ← hji8]; first | rfl | (simp [errW_none, errW_some] <;> rfl)) | (simp [*, errW_none, errW_some] <;> rfl), by repeat (first | (with_reducible first | exact HB.out | apply below_alloc | apply pw_below_drewN | apply below_drew1) | exact HB.out)⟩
    · rw [if_neg c7] at H
      exact absurd H (by simp)

/-! ### pacemakerref02_Whole: function 46 -/
def pacemakerref02_Whole.f (a0 : Int) : Option (Int) := (pacemakerref02_Clamp.f a0).bind fun t101 => (if (Int.tmod t101 1048576) < 0 then (some (wrap64 ((wrap64 (Int.tdiv t101 1048576)) - 1))) else (some (wrap64 (Int.tdiv t101 1048576))))
set_option maxHeartbeats 8000000 in
set_option maxRecDepth 100000 in
theorem pacemakerref02_Whole.calls (a0 : Int) (r : Int) (w : World) (h : pacemakerref02_Whole.f a0 = some r) :
    Calls Try.prog 46 #[.int .i64 a0] w fun e w' => e = .returned (.int .i64 r) ∧ Below w.heap.size w w' := by
  have HB := Aside0.mk (Below.refl w.heap.size w)
  have H : ((pacemakerref02_Clamp.f a0).bind fun t101 => (if (Int.tmod t101 1048576) < 0 then (some (wrap64 ((wrap64 (Int.tdiv t101 1048576)) - 1))) else (some (wrap64 (Int.tdiv t101 1048576))))) = some r := h
  clear h
  replace H := Option.bind_eq_some_iff.mp H
  obtain ⟨t101, A20, H⟩ := H
  replace H : (if (Int.tmod t101 1048576) < 0 then (some (wrap64 ((wrap64 (Int.tdiv t101 1048576)) - 1))) else (some (wrap64 (Int.tdiv t101 1048576)))) = some r := H
  have A2 := Aside0.mk A20
  clear A20
  by_cases c3 : (Int.tmod t101 1048576) < 0
  · rw [if_pos c3] at H
    have c3b0 : decide ((Int.tmod t101 1048576) < 0) = true := decide_eq_true c3
    clear c3
    obtain rfl := Option.some.inj H
    go_enter Try.func46, Try.ntmps46
    go_wp2_with (first | ((with_reducible refine gate_callee (f := 39) rfl ?_); refine goesL_ (some 5) rfl rfl Try.func39 (by kernel_rfl) rfl #[.int .i64 a0] rfl (by (try simp only [List.map_toArray, List.map_cons, List.map_nil]); first | done | rfl | (simp only [List.length_drop, List.length_take]; rfl)) ?_; (with_reducible refine (pacemakerref02_Clamp.calls a0 t101 _ A2.out).mono ?_); rintro e w4 ⟨rfl, hb⟩; refine ⟨_, rfl, ?_⟩; have n0_ := Aside0.mk (below_step (by repeat (first | (with_reducible first | exact HB.out | apply below_alloc | apply pw_below_drewN | apply below_drew1) | exact HB.out)) hb); clear HB; have HB := n0_; clear n0_; (try clear hb); (try clear hb2); (try clear hk); (try clear hi)))
    go_ret
    exact ⟨by first | rfl | (simp [errW_none, errW_some] <;> rfl) | (simp [*, errW_none, errW_some] <;> rfl), by repeat (first | (with_reducible first | exact HB.out | apply below_alloc | apply pw_below_drewN | apply below_drew1) | exact HB.out)⟩
  · rw [if_neg c3] at H
    have c3b0 : decide ((Int.tmod t101 1048576) < 0) = false := decide_eq_false c3
    clear c3
    obtain rfl := Option.some.inj H
    go_enter Try.func46, Try.ntmps46
    go_wp2_with (first | ((with_reducible refine gate_callee (f := 39) rfl ?_); refine goesL_ (some 5) rfl rfl Try.func39 (by kernel_rfl) rfl #[.int .i64 a0] rfl (by (try simp only [List.map_toArray, List.map_cons, List.map_nil]); first | done | rfl | (simp only [List.length_drop, List.length_take]; rfl)) ?_; (with_reducible refine (pacemakerref02_Clamp.calls a0 t101 _ A2.out).mono ?_); rintro e w5 ⟨rfl, hb⟩; refine ⟨_, rfl, ?_⟩; have n0_ := Aside0.mk (below_step (by repeat (first | (with_reducible first | exact HB.out | apply below_alloc | apply pw_below_drewN | apply below_drew1) | exact HB.out)) hb); clear HB; have HB := n0_; clear n0_; (try clear hb); (try clear hb2); (try clear hk); (try clear hi)))
    go_ret
    exact ⟨by first | rfl | (simp [errW_none, errW_some] <;> rfl) | (simp [*, errW_none, errW_some] <;> rfl), by repeat (first | (with_reducible first | exact HB.out | apply below_alloc | apply pw_below_drewN | apply below_drew1) | exact HB.out)⟩

/-! ### pacemakerref03_two: function 66 -/
def pacemakerref03_two.f (a0_0 : Int) (a0_1 : Int) (a1 : Int) : Option (Int) := if a1 ≥ 32 then (if 0 ≤ (wrap64 (2 * (wrap64 (a1 - 32)))) then (some (Int.tmod (shr .u64 a0_0 (wrap64 (2 * (wrap64 (a1 - 32))))) 4)) else (none)) else (if 0 ≤ (wrap64 (2 * a1)) then (some (Int.tmod (shr .u64 a0_1 (wrap64 (2 * a1))) 4)) else (none))
set_option maxHeartbeats 8000000 in
set_option maxRecDepth 100000 in
theorem pacemakerref03_two.calls (a0_0 : Int) (a0_1 : Int) (a1 : Int) (r : Int) (w : World) (h : pacemakerref03_two.f a0_0 a0_1 a1 = some r) :
    Calls Try.prog 66 #[.agg #[.int .u64 a0_0, .int .u64 a0_1], .int .i64 a1] w fun e w' => e = .returned (.int .u64 r) ∧ Below w.heap.size w w' := by
  have hu46 := Try.underlying46
  have HB := Aside0.mk (Below.refl w.heap.size w)
  have H : (if a1 ≥ 32 then (if 0 ≤ (wrap64 (2 * (wrap64 (a1 - 32)))) then (some (Int.tmod (shr .u64 a0_0 (wrap64 (2 * (wrap64 (a1 - 32))))) 4)) else (none)) else (if 0 ≤ (wrap64 (2 * a1)) then (some (Int.tmod (shr .u64 a0_1 (wrap64 (2 * a1))) 4)) else (none))) = some r := h
  clear h
  by_cases c3 : a1 ≥ 32
  · rw [if_pos c3] at H
    have c3b0 : decide (32 ≤ a1) = true := decide_eq_true c3
    clear c3
    obtain ⟨ji4, hji4⟩ : ∃ j_ : Int, (wrap64 (2 * (wrap64 (a1 - 32)))) = j_ := ⟨_, rfl⟩
    replace H : (if 0 ≤ (ji4) then (some (Int.tmod (shr .u64 a0_0 (ji4)) 4)) else (none)) = some r := by first | (rw [hji4] at H; exact H) | (simp only [hji4] at H ⊢; exact H)
    have hji4w : (IntKind.i64.wrap (2 * (wrap64 (a1 - 32)))) = ji4 := (i64_w _).trans hji4
    by_cases c5 : 0 ≤ (ji4)
    · rw [if_pos c5] at H
      have c5b0 := eq_true c5
      have c5b1 : decide (0 ≤ (ji4)) = true := decide_eq_true c5
      clear c5
      obtain ⟨ji6, hji6⟩ : ∃ j_ : Int, (shr .u64 a0_0 (ji4)) = j_ := ⟨_, rfl⟩
      replace H : (some (Int.tmod (ji6) 4)) = some r := by first | (rw [hji6] at H; exact H) | (simp only [hji6] at H ⊢; exact H)
      have hji6_ : (a0_0 / 2 ^ min (ji4).toNat 64) = ji6 := hji6
      have hji6z : (ji4) ≤ 64 → (a0_0 / 2 ^ (ji4).toNat) = ji6 := shr_small hji6
      obtain rfl := Option.some.inj H
      go_enter Try.func66, Try.ntmps66
      go_wp2_with (first | ((with_reducible refine gate_dst (N := 2) rfl ?_); refine box_event ?hg (N := 2) ?hd (cs := #[.int .u64 a0_0, .int .u64 a0_1]) (t := 46) ?hr ?_; (case hd => rfl); (case hg => rfl); (case hr => first | (go_simp; done) | (go_simp; rfl)); intro gb101 hg w7 hbox hb; have n0_ := Aside0.mk (below_step (by repeat (first | (with_reducible first | exact HB.out | apply below_alloc | apply pw_below_drewN | apply below_drew1) | exact HB.out)) hb); have n1_ := Aside0.mk (hbox); have n2_ := Aside0.mk ((by rw [hg]; exact (below_size (by repeat (first | (with_reducible first | exact HB.out | apply below_alloc | apply pw_below_drewN | apply below_drew1) | exact HB.out))) : w.heap.size ≤ gb101)); have n3_ := Aside0.mk ((by rw [hg]; exact (below_size (by repeat (first | (with_reducible first | exact HB.out | apply below_alloc | apply pw_below_drewN | apply below_drew1) | exact HB.out))) : w.heap.size ≤ gb101)); clear HB; have HB := n0_; have BK101 := n1_; have GW101 := n2_; have GE101 := n3_; clear n0_ n1_ n2_ n3_; clear hb hbox hg; have hcz8_0 : w7.cell? ⟨gb101, 0, none⟩ = some (.int .u64 a0_0) := (blk_cell BK101.out 0).trans rfl; have hcz8_1 : w7.cell? ⟨gb101, 1, none⟩ = some (.int .u64 a0_1) := (blk_cell BK101.out 1).trans rfl; have hfz8_0 := blk_frozen BK101.out 0; have hfz8_1 := blk_frozen BK101.out 1))
      go_ret
      exact ⟨by first | rfl | (simp [errW_none, errW_some] <;> rfl) | (simp only [← hji4, ← hji6]; first | rfl | (simp [errW_none, errW_some] <;> rfl)) | (simp [*, errW_none, errW_some] <;> rfl), by repeat (first | (with_reducible first | exact HB.out | apply below_alloc | apply pw_below_drewN | apply below_drew1 | refine below_set ?_ GE101.out) | exact HB.out)⟩
    · rw [if_neg c5] at H
      exact absurd H (by simp)
  · rw [if_neg c3] at H
    have c3b0 : decide (32 ≤ a1) = false := decide_eq_false c3
    clear c3
    obtain ⟨ji9, hji9⟩ : ∃ j_ : Int, (wrap64 (2 * a1)) = j_ := ⟨_, rfl⟩
    replace H : (if 0 ≤ (ji9) then (some (Int.tmod (shr .u64 a0_1 (ji9)) 4)) else (none)) = some r := by first | (rw [hji9] at H; exact H) | (simp only [hji9] at H ⊢; exact H)
    have hji9w : (IntKind.i64.wrap (2 * a1)) = ji9 := (i64_w _).trans hji9
    by_cases c10 : 0 ≤ (ji9)
    · rw [if_pos c10] at H
      have c10b0 := eq_true c10
      have c10b1 : decide (0 ≤ (ji9)) = true := decide_eq_true c10
      clear c10
      obtain ⟨ji11, hji11⟩ : ∃ j_ : Int, (shr .u64 a0_1 (ji9)) = j_ := ⟨_, rfl⟩
      replace H : (some (Int.tmod (ji11) 4)) = some r := by first | (rw [hji11] at H; exact H) | (simp only [hji11] at H ⊢; exact H)
      have hji11_ : (a0_1 / 2 ^ min (ji9).toNat 64) = ji11 := hji11
      have hji11z : (ji9) ≤ 64 → (a0_1 / 2 ^ (ji9).toNat) = ji11 := shr_small hji11
      obtain rfl := Option.some.inj H
      go_enter Try.func66, Try.ntmps66
      go_wp2_with (first | ((with_reducible refine gate_dst (N := 2) rfl ?_); refine box_event ?hg (N := 2) ?hd (cs := #[.int .u64 a0_0, .int .u64 a0_1]) (t := 46) ?hr ?_; (case hd => rfl); (case hg => rfl); (case hr => first | (go_simp; done) | (go_simp; rfl)); intro gb101 hg w12 hbox hb; have n0_ := Aside0.mk (below_step (by repeat (first | (with_reducible first | exact HB.out | apply below_alloc | apply pw_below_drewN | apply below_drew1) | exact HB.out)) hb); have n1_ := Aside0.mk (hbox); have n2_ := Aside0.mk ((by rw [hg]; exact (below_size (by repeat (first | (with_reducible first | exact HB.out | apply below_alloc | apply pw_below_drewN | apply below_drew1) | exact HB.out))) : w.heap.size ≤ gb101)); have n3_ := Aside0.mk ((by rw [hg]; exact (below_size (by repeat (first | (with_reducible first | exact HB.out | apply below_alloc | apply pw_below_drewN | apply below_drew1) | exact HB.out))) : w.heap.size ≤ gb101)); clear HB; have HB := n0_; have BK101 := n1_; have GW101 := n2_; have GE101 := n3_; clear n0_ n1_ n2_ n3_; clear hb hbox hg; have hcz13_0 : w12.cell? ⟨gb101, 0, none⟩ = some (.int .u64 a0_0) := (blk_cell BK101.out 0).trans rfl; have hcz13_1 : w12.cell? ⟨gb101, 1, none⟩ = some (.int .u64 a0_1) := (blk_cell BK101.out 1).trans rfl; have hfz13_0 := blk_frozen BK101.out 0; have hfz13_1 := blk_frozen BK101.out 1))
      go_ret
      exact ⟨by first | rfl | (simp [errW_none, errW_some] <;> rfl) | (simp only [← hji9, ← hji11]; first | rfl | (simp [errW_none, errW_some] <;> rfl)) | (simp [*, errW_none, errW_some] <;> rfl), by repeat (first | (with_reducible first | exact HB.out | apply below_alloc | apply pw_below_drewN | apply below_drew1 | refine below_set ?_ GE101.out) | exact HB.out)⟩
    · rw [if_neg c10] at H
      exact absurd H (by simp)

/-! ### pacemakerref03_SqrtWide: function 48 -/
mutual
def pacemakerref03_SqrtWide.l0 : Nat → Int → Int → Bool → Int → Int → Int → Option (Int)
  | 0, _, _, _, _, _, _ => none
  | k + 1, x3, x4, x5, x6, x102000, x102001 => if x6 ≥ 0 then (if x5 = true then (pacemakerref03_SqrtWide.j1 k x3 x4 x6 (IntKind.u64.wrap ((x4 / 4611686018427387904) + 4)) x102000 x102001) else (pacemakerref03_SqrtWide.j1 k x3 x4 x6 (x4 / 4611686018427387904) x102000 x102001)) else (some x3)
def pacemakerref03_SqrtWide.j1 : Nat → Int → Int → Int → Int → Int → Int → Option (Int)
  | 0, _, _, _, _, _, _ => none
  | k + 1, x3, x4, x6, x7, x102000, x102001 => (pacemakerref03_two.f x102000 x102001 x6).bind fun t102 => (if x7 > (x3 / 4611686018427387904) then (pacemakerref03_SqrtWide.j2 k (IntKind.u64.wrap (x3 * 2)) (Go.bits .or .u64 (IntKind.u64.wrap (x4 * 4)) t102) x6 x7 (Go.bits .or .u64 (IntKind.u64.wrap (x3 * 4)) 1) (x3 / 4611686018427387904) true x102000 x102001) else (if x7 = (x3 / 4611686018427387904) then (pacemakerref03_SqrtWide.j2 k (IntKind.u64.wrap (x3 * 2)) (Go.bits .or .u64 (IntKind.u64.wrap (x4 * 4)) t102) x6 x7 (Go.bits .or .u64 (IntKind.u64.wrap (x3 * 4)) 1) (x3 / 4611686018427387904) (decide ((Go.bits .or .u64 (IntKind.u64.wrap (x4 * 4)) t102) ≥ (Go.bits .or .u64 (IntKind.u64.wrap (x3 * 4)) 1))) x102000 x102001) else (pacemakerref03_SqrtWide.j2 k (IntKind.u64.wrap (x3 * 2)) (Go.bits .or .u64 (IntKind.u64.wrap (x4 * 4)) t102) x6 x7 (Go.bits .or .u64 (IntKind.u64.wrap (x3 * 4)) 1) (x3 / 4611686018427387904) false x102000 x102001)))
def pacemakerref03_SqrtWide.j2 : Nat → Int → Int → Int → Int → Int → Int → Bool → Int → Int → Option (Int)
  | 0, _, _, _, _, _, _, _, _, _ => none
  | k + 1, x3, x4, x6, x7, x8, x9, x44, x102000, x102001 => if x44 = true then (if x4 < x8 then (pacemakerref03_SqrtWide.l0 k (Go.bits .or .u64 x3 1) (IntKind.u64.wrap (x4 - x8)) (decide ((IntKind.u64.wrap ((IntKind.u64.wrap (x7 - 1)) - x9)) > 0)) (wrap64 (x6 - 1)) x102000 x102001) else (pacemakerref03_SqrtWide.l0 k (Go.bits .or .u64 x3 1) (IntKind.u64.wrap (x4 - x8)) (decide ((IntKind.u64.wrap (x7 - x9)) > 0)) (wrap64 (x6 - 1)) x102000 x102001)) else (pacemakerref03_SqrtWide.l0 k x3 x4 (decide (x7 > 0)) (wrap64 (x6 - 1)) x102000 x102001)
end
def pacemakerref03_SqrtWide.f (k : Nat) (a0_0 : Int) (a0_1 : Int) : Option (Int) := pacemakerref03_SqrtWide.l0 k 0 0 false 63 a0_0 a0_1
theorem pacemakerref03_SqrtWide.mono_l : ∀ k, (∀ y0 y1 y2 y3 y4 y5, LeO (pacemakerref03_SqrtWide.l0 k y0 y1 y2 y3 y4 y5) (pacemakerref03_SqrtWide.l0 (k + 1) y0 y1 y2 y3 y4 y5)) ∧ (∀ y0 y1 y2 y3 y4 y5, LeO (pacemakerref03_SqrtWide.j1 k y0 y1 y2 y3 y4 y5) (pacemakerref03_SqrtWide.j1 (k + 1) y0 y1 y2 y3 y4 y5)) ∧ (∀ y0 y1 y2 y3 y4 y5 y6 y7 y8, LeO (pacemakerref03_SqrtWide.j2 k y0 y1 y2 y3 y4 y5 y6 y7 y8) (pacemakerref03_SqrtWide.j2 (k + 1) y0 y1 y2 y3 y4 y5 y6 y7 y8))
  | 0 => ⟨fun _ _ _ _ _ _ r h => by simp [pacemakerref03_SqrtWide.l0] at h, fun _ _ _ _ _ _ r h => by simp [pacemakerref03_SqrtWide.j1] at h, fun _ _ _ _ _ _ _ _ _ r h => by simp [pacemakerref03_SqrtWide.j2] at h⟩
  | k + 1 => by
    obtain ⟨ih0, ih1, ih2⟩ := pacemakerref03_SqrtWide.mono_l k
    refine ⟨?_, ?_, ?_⟩
    · intro y0 y1 y2 y3 y4 y5
      unfold pacemakerref03_SqrtWide.l0
      repeat' first
      | (with_reducible exact ih0 _ _ _ _ _ _)
      | (with_reducible exact ih1 _ _ _ _ _ _)
      | (with_reducible exact ih2 _ _ _ _ _ _ _ _ _)
      | (with_reducible exact LeO.refl _)
      | (with_reducible exact LeO.none _)
      | (with_reducible refine LeO.ite ?_ ?_)
      | (with_reducible refine LeO.bind ?_ (fun _ => ?_))
      | exact ih0 _ _ _ _ _ _
      | exact ih1 _ _ _ _ _ _
      | exact ih2 _ _ _ _ _ _ _ _ _
      | exact LeO.none _
      | refine LeO.ite ?_ ?_
      | refine LeO.bind ?_ (fun _ => ?_)
    · intro y0 y1 y2 y3 y4 y5
      unfold pacemakerref03_SqrtWide.j1
      repeat' first
      | (with_reducible exact ih0 _ _ _ _ _ _)
      | (with_reducible exact ih1 _ _ _ _ _ _)
      | (with_reducible exact ih2 _ _ _ _ _ _ _ _ _)
      | (with_reducible exact LeO.refl _)
      | (with_reducible exact LeO.none _)
      | (with_reducible refine LeO.ite ?_ ?_)
      | (with_reducible refine LeO.bind ?_ (fun _ => ?_))
      | exact ih0 _ _ _ _ _ _
      | exact ih1 _ _ _ _ _ _
      | exact ih2 _ _ _ _ _ _ _ _ _
      | exact LeO.none _
      | refine LeO.ite ?_ ?_
      | refine LeO.bind ?_ (fun _ => ?_)
    · intro y0 y1 y2 y3 y4 y5 y6 y7 y8
      unfold pacemakerref03_SqrtWide.j2
      repeat' first
      | (with_reducible exact ih0 _ _ _ _ _ _)
      | (with_reducible exact ih1 _ _ _ _ _ _)
      | (with_reducible exact ih2 _ _ _ _ _ _ _ _ _)
      | (with_reducible exact LeO.refl _)
      | (with_reducible exact LeO.none _)
      | (with_reducible refine LeO.ite ?_ ?_)
      | (with_reducible refine LeO.bind ?_ (fun _ => ?_))
      | exact ih0 _ _ _ _ _ _
      | exact ih1 _ _ _ _ _ _
      | exact ih2 _ _ _ _ _ _ _ _ _
      | exact LeO.none _
      | refine LeO.ite ?_ ?_
      | refine LeO.bind ?_ (fun _ => ?_)
theorem pacemakerref03_SqrtWide.mono : ∀ a0 a1 k, LeO (pacemakerref03_SqrtWide.f k a0 a1) (pacemakerref03_SqrtWide.f (k + 1) a0 a1) := by
  intro a0 a1 k
  obtain ⟨ih0, ih1, ih2⟩ := pacemakerref03_SqrtWide.mono_l k
  unfold pacemakerref03_SqrtWide.f
  repeat' first
      | (with_reducible exact ih0 _ _ _ _ _ _)
      | (with_reducible exact ih1 _ _ _ _ _ _)
      | (with_reducible exact ih2 _ _ _ _ _ _ _ _ _)
      | (with_reducible exact LeO.refl _)
      | (with_reducible exact LeO.none _)
      | (with_reducible refine LeO.ite ?_ ?_)
      | (with_reducible refine LeO.bind ?_ (fun _ => ?_))
      | exact ih0 _ _ _ _ _ _
      | exact ih1 _ _ _ _ _ _
      | exact ih2 _ _ _ _ _ _ _ _ _
      | exact LeO.none _
      | refine LeO.ite ?_ ?_
      | refine LeO.bind ?_ (fun _ => ?_)
set_option maxHeartbeats 8000000 in
set_option maxRecDepth 100000 in
theorem pacemakerref03_SqrtWide.calls (k : Nat) (a0_0 : Int) (a0_1 : Int) (r : Int) (w : World) (h : pacemakerref03_SqrtWide.f k a0_0 a0_1 = some r) :
    Calls Try.prog 48 #[.agg #[.int .u64 a0_0, .int .u64 a0_1]] w fun e w' => e = .returned (.int .u64 r) ∧ Below w.heap.size w w' := by
  have hu46 := Try.underlying46
  have HB := Aside0.mk (Below.refl w.heap.size w)
  have H : (pacemakerref03_SqrtWide.l0 k 0 0 false 63 a0_0 a0_1) = some r := h
  clear h
  have H' := Aside0.mk H
  clear H
  go_enter Try.func48, Try.ntmps48
  go_wp2_with (first | ((with_reducible refine gate_dst (N := 1) rfl ?_); refine box_event ?hg (N := 1) ?hd (cs := #[.int .u64 a0_0, .int .u64 a0_1]) (t := 46) ?hr ?_; (case hd => rfl); (case hg => rfl); (case hr => first | (go_simp; done) | (go_simp; rfl)); intro gb101 hg w2 hbox hb; have n0_ := Aside0.mk (below_step (by repeat (first | (with_reducible first | exact HB.out | apply below_alloc | apply pw_below_drewN | apply below_drew1) | exact HB.out)) hb); have n1_ := Aside0.mk (hbox); have n2_ := Aside0.mk ((by rw [hg]; exact (below_size (by repeat (first | (with_reducible first | exact HB.out | apply below_alloc | apply pw_below_drewN | apply below_drew1) | exact HB.out))) : w.heap.size ≤ gb101)); have n3_ := Aside0.mk ((by rw [hg]; exact (below_size (by repeat (first | (with_reducible first | exact HB.out | apply below_alloc | apply pw_below_drewN | apply below_drew1) | exact HB.out))) : w.heap.size ≤ gb101)); clear HB; have HB := n0_; have BK101 := n1_; have GW101 := n2_; have GE101 := n3_; clear n0_ n1_ n2_ n3_; clear hb hbox hg))
  go_loopg [3, 4, 5, 6] k (fun kq v3 v4 v5 v6 w' => ∃ (x3_1 : Int) (x4_1 : Int) (x5_1 : Bool) (x6_1 : Int), v3 = .int .u64 x3_1 ∧ v4 = .int .u64 x4_1 ∧ v5 = .bool x5_1 ∧ v6 = .int .i64 x6_1 ∧ Aside0 (pacemakerref03_SqrtWide.l0 kq x3_1 x4_1 x5_1 x6_1 a0_0 a0_1 = some r) ∧ Aside0 (kq ≤ k) ∧ Aside0 (w'.heap[gb101]? = some (.cells #[.int .u64 a0_0, .int .u64 a0_1] 46 (0, 0))) ∧ Aside0 (Below w.heap.size w w'))
  case atStart => exact ⟨(0), (0), (false), (63), (by first | rfl | (simp; done) | (simp [*]; done)), (by first | rfl | (simp; done) | (simp [*]; done)), (by first | rfl | (simp; done) | (simp [*]; done)), (by first | rfl | (simp; done) | (simp [*]; done)), H', ⟨Nat.le_refl _⟩, ⟨by (with_reducible repeat (first | refine blk_drewN ?_ _ | refine blk_drew ?_ | refine blk_alloc ?_ _)); exact BK101.out⟩, ⟨by repeat (first | (with_reducible first | exact HB.out | apply below_alloc | apply pw_below_drewN | apply below_drew1 | refine below_set ?_ GE101.out) | exact HB.out)⟩⟩
  case round =>
    clear H'
    try clear p2
    obtain ⟨x3_1, x4_1, x5_1, x6_1, rfl, rfl, rfl, rfl, HA, HK1, BK101, HB⟩ := hrel
    cases gk with
    | zero => exact absurd HA.out (by simp [pacemakerref03_SqrtWide.l0])
    | succ k1 =>
      have H := HA.out
      clear HA
      simp only [pacemakerref03_SqrtWide.l0] at H
      by_cases c3 : x6_1 ≥ 0
      · rw [if_pos c3] at H
        have c3b0 : decide (0 ≤ x6_1) = true := decide_eq_true c3
        clear c3
        have HC4 := Aside0.mk H
        clear H
        go_upto_if 16 with (fail)
        go_cut [7] (fun v7 wc => ∃ (kq : Nat) (x7_3 : Int), v7 = .int .u64 x7_3 ∧ Aside0 (pacemakerref03_SqrtWide.j1 kq x3_1 x4_1 x6_1 x7_3 a0_0 a0_1 = some r) ∧ Aside0 (kq ≤ k1) ∧ Aside0 (wc.heap[gb101]? = some (.cells #[.int .u64 a0_0, .int .u64 a0_1] 46 (0, 0))) ∧ Aside0 (Below w.heap.size w wc))
        case first =>
          have H := HC4.out
          clear HC4
          by_cases c5 : x5_1 = true
          · subst c5
            have H1 : (pacemakerref03_SqrtWide.j1 k1 x3_1 x4_1 x6_1 (IntKind.u64.wrap ((x4_1 / 4611686018427387904) + 4)) a0_0 a0_1) = some r := by rw [if_pos rfl] at H; exact H
            clear H
            have H := H1
            clear H1
            have H' := Aside0.mk H
            clear H
            go_wp2
            go_meet
            case rel => exact ⟨_, (IntKind.u64.wrap ((x4_1 / 4611686018427387904) + 4)), (by first | rfl | (simp; done) | (simp [*]; done)), H', ⟨by have := HK1.out; first | omega | exact Nat.le_refl _⟩, ⟨by (with_reducible repeat (first | refine blk_drewN ?_ _ | refine blk_drew ?_ | refine blk_alloc ?_ _)); exact BK101.out⟩, ⟨by repeat (first | (with_reducible first | exact HB.out | apply below_alloc | apply pw_below_drewN | apply below_drew1 | refine below_set ?_ GE101.out) | exact HB.out)⟩⟩
          · replace c5 := Bool.eq_false_iff.mpr c5
            subst c5
            have H1 : (pacemakerref03_SqrtWide.j1 k1 x3_1 x4_1 x6_1 (x4_1 / 4611686018427387904) a0_0 a0_1) = some r := by rw [if_neg (show ¬ (false = true) by decide)] at H; exact H
            clear H
            have H := H1
            clear H1
            have H' := Aside0.mk H
            clear H
            go_wp2
            go_meet
            case rel => exact ⟨_, (x4_1 / 4611686018427387904), (by first | rfl | (simp; done) | (simp [*]; done)), H', ⟨by have := HK1.out; first | omega | exact Nat.le_refl _⟩, ⟨by (with_reducible repeat (first | refine blk_drewN ?_ _ | refine blk_drew ?_ | refine blk_alloc ?_ _)); exact BK101.out⟩, ⟨by repeat (first | (with_reducible first | exact HB.out | apply below_alloc | apply pw_below_drewN | apply below_drew1 | refine below_set ?_ GE101.out) | exact HB.out)⟩⟩
        case rest =>
          clear HC4
          try clear p2
          try clear c3
          try clear c3b0
          try clear c4
          try clear c5
          try clear p2
          obtain ⟨kq, x7_3, rfl, HA, HJ3, BK101, HB⟩ := hcut
          cases kq with
          | zero => exact absurd HA.out (by simp [pacemakerref03_SqrtWide.j1])
          | succ kj3 =>
            have H := HA.out
            clear HA
            simp only [pacemakerref03_SqrtWide.j1] at H
            replace H := Option.bind_eq_some_iff.mp H
            obtain ⟨t102, A60, H⟩ := H
            replace H : (if x7_3 > (x3_1 / 4611686018427387904) then (pacemakerref03_SqrtWide.j2 kj3 (IntKind.u64.wrap (x3_1 * 2)) (Go.bits .or .u64 (IntKind.u64.wrap (x4_1 * 4)) t102) x6_1 x7_3 (Go.bits .or .u64 (IntKind.u64.wrap (x3_1 * 4)) 1) (x3_1 / 4611686018427387904) true a0_0 a0_1) else (if x7_3 = (x3_1 / 4611686018427387904) then (pacemakerref03_SqrtWide.j2 kj3 (IntKind.u64.wrap (x3_1 * 2)) (Go.bits .or .u64 (IntKind.u64.wrap (x4_1 * 4)) t102) x6_1 x7_3 (Go.bits .or .u64 (IntKind.u64.wrap (x3_1 * 4)) 1) (x3_1 / 4611686018427387904) (decide ((Go.bits .or .u64 (IntKind.u64.wrap (x4_1 * 4)) t102) ≥ (Go.bits .or .u64 (IntKind.u64.wrap (x3_1 * 4)) 1))) a0_0 a0_1) else (pacemakerref03_SqrtWide.j2 kj3 (IntKind.u64.wrap (x3_1 * 2)) (Go.bits .or .u64 (IntKind.u64.wrap (x4_1 * 4)) t102) x6_1 x7_3 (Go.bits .or .u64 (IntKind.u64.wrap (x3_1 * 4)) 1) (x3_1 / 4611686018427387904) false a0_0 a0_1))) = some r := H
            have A6 := Aside0.mk A60
            clear A60
            have HC7 := Aside0.mk H
            clear H
            have hcz8_0 : wc.cell? ⟨gb101, 0, none⟩ = some (.int .u64 a0_0) := (blk_cell BK101.out 0).trans rfl
            have hcz8_1 : wc.cell? ⟨gb101, 1, none⟩ = some (.int .u64 a0_1) := (blk_cell BK101.out 1).trans rfl
            have hfz8_0 := blk_frozen BK101.out 0
            have hfz8_1 := blk_frozen BK101.out 1
            go_upto_region 14 with (first | ((with_reducible refine gate_callee (f := 66) rfl ?_); refine goesL_ (some 23) rfl rfl Try.func66 (by kernel_rfl) rfl #[.agg #[.int .u64 a0_0, .int .u64 a0_1], .int .i64 x6_1] rfl (by (try simp only [List.map_toArray, List.map_cons, List.map_nil]); first | done | rfl | (simp only [List.length_drop, List.length_take]; rfl)) ?_; (with_reducible refine (pacemakerref03_two.calls a0_0 a0_1 x6_1 t102 _ A6.out).mono ?_); rintro e w9 ⟨rfl, hb⟩; refine ⟨_, rfl, ?_⟩; have n0_ := Aside0.mk (blk_below (g := gb101) (o := .cells #[.int .u64 a0_0, .int .u64 a0_1] 46 (0, 0)) (by (with_reducible repeat (first | refine blk_drewN ?_ _ | refine blk_drew ?_ | refine blk_alloc ?_ _)); exact BK101.out) hb); have n1_ := Aside0.mk (below_step (by repeat (first | (with_reducible first | exact HB.out | apply below_alloc | apply pw_below_drewN | apply below_drew1 | refine below_set ?_ GE101.out) | exact HB.out)) hb); clear BK101; clear HB; have BK101 := n0_; have HB := n1_; clear n0_ n1_; (try clear hb); (try clear hb2); (try clear hk); (try clear hi)))
            (try simp only [Act.put, List.setIfInBounds_toArray, List.set_cons_zero, List.set_cons_succ])
            go_cut [44] (fun v44 wc => ∃ (kq : Nat) (x44_6 : Bool), v44 = .bool x44_6 ∧ Aside0 (pacemakerref03_SqrtWide.j2 kq (IntKind.u64.wrap (x3_1 * 2)) (Go.bits .or .u64 (IntKind.u64.wrap (x4_1 * 4)) t102) x6_1 x7_3 (Go.bits .or .u64 (IntKind.u64.wrap (x3_1 * 4)) 1) (x3_1 / 4611686018427387904) x44_6 a0_0 a0_1 = some r) ∧ Aside0 (kq ≤ kj3) ∧ Aside0 (wc.heap[gb101]? = some (.cells #[.int .u64 a0_0, .int .u64 a0_1] 46 (0, 0))) ∧ Aside0 (Below w.heap.size w wc))
            case first =>
              have H := HC7.out
              clear HC7
              by_cases c10 : x7_3 > (x3_1 / 4611686018427387904)
              · rw [if_pos c10] at H
                have c10b0 : decide ((x3_1 / 4611686018427387904) < x7_3) = true := decide_eq_true c10
                clear c10
                (first | rw [c10b0] | (simp only [i64_w, i32_w]; rw [c10b0]) | skip)
                have H' := Aside0.mk H
                clear H
                go_wp2
                go_meet
                case rel => exact ⟨_, (true), (by first | rfl | (simp; done) | (simp [*]; done)), H', ⟨by have := HK1.out; have := HJ3.out; first | omega | exact Nat.le_refl _⟩, ⟨by (with_reducible repeat (first | refine blk_drewN ?_ _ | refine blk_drew ?_ | refine blk_alloc ?_ _)); exact BK101.out⟩, ⟨by repeat (first | (with_reducible first | exact HB.out | apply below_alloc | apply pw_below_drewN | apply below_drew1 | refine below_set ?_ GE101.out) | exact HB.out)⟩⟩
              · rw [if_neg c10] at H
                have c10b0 : decide ((x3_1 / 4611686018427387904) < x7_3) = false := decide_eq_false c10
                clear c10
                (first | rw [c10b0] | (simp only [i64_w, i32_w]; rw [c10b0]) | skip)
                by_cases c11 : x7_3 = (x3_1 / 4611686018427387904)
                · rw [if_pos c11] at H
                  have c11b0 : (x7_3 == (x3_1 / 4611686018427387904)) = true := beq_iff_eq.mpr c11
                  have c11b1 : (x7_3 != (x3_1 / 4611686018427387904)) = false := bne_eq_false_iff_eq.mpr c11
                  clear c11
                  have H' := Aside0.mk H
                  clear H
                  go_wp2
                  go_meet
                  case rel => exact ⟨_, (decide ((Go.bits .or .u64 (IntKind.u64.wrap (x4_1 * 4)) t102) ≥ (Go.bits .or .u64 (IntKind.u64.wrap (x3_1 * 4)) 1))), (by first | rfl | (simp; done) | (simp [*]; done)), H', ⟨by have := HK1.out; have := HJ3.out; first | omega | exact Nat.le_refl _⟩, ⟨by (with_reducible repeat (first | refine blk_drewN ?_ _ | refine blk_drew ?_ | refine blk_alloc ?_ _)); exact BK101.out⟩, ⟨by repeat (first | (with_reducible first | exact HB.out | apply below_alloc | apply pw_below_drewN | apply below_drew1 | refine below_set ?_ GE101.out) | exact HB.out)⟩⟩
                · rw [if_neg c11] at H
                  have c11b0 : (x7_3 == (x3_1 / 4611686018427387904)) = false := beq_eq_false_iff_ne.mpr c11
                  have c11b1 : (x7_3 != (x3_1 / 4611686018427387904)) = true := bne_iff_ne.mpr c11
                  have H' := Aside0.mk H
                  clear H
                  go_wp2
                  go_meet
                  case rel => exact ⟨_, (false), (by first | rfl | (simp; done) | (simp [*]; done)), H', ⟨by have := HK1.out; have := HJ3.out; first | omega | exact Nat.le_refl _⟩, ⟨by (with_reducible repeat (first | refine blk_drewN ?_ _ | refine blk_drew ?_ | refine blk_alloc ?_ _)); exact BK101.out⟩, ⟨by repeat (first | (with_reducible first | exact HB.out | apply below_alloc | apply pw_below_drewN | apply below_drew1 | refine below_set ?_ GE101.out) | exact HB.out)⟩⟩
            case rest =>
              clear HC7
              try clear c1
              try clear p2
              try clear c3
              try clear c3b0
              try clear c4
              try clear c5
              try clear c6
              try clear c10
              try clear c10b0
              try clear c11
              try clear c11b0
              try clear c11b1
              try clear hcz8_0
              try clear hcz8_1
              try clear hfz8_0
              try clear hfz8_1
              try clear p2
              obtain ⟨kq, x44_6, rfl, HA, HJ6, BK101, HB⟩ := hcut
              cases kq with
              | zero => exact absurd HA.out (by simp [pacemakerref03_SqrtWide.j2])
              | succ kj6 =>
                have H := HA.out
                clear HA
                simp only [pacemakerref03_SqrtWide.j2] at H
                by_cases c12 : x44_6 = true
                · subst c12
                  have H1 : (if (Go.bits .or .u64 (IntKind.u64.wrap (x4_1 * 4)) t102) < (Go.bits .or .u64 (IntKind.u64.wrap (x3_1 * 4)) 1) then (pacemakerref03_SqrtWide.l0 kj6 (Go.bits .or .u64 (IntKind.u64.wrap (x3_1 * 2)) 1) (IntKind.u64.wrap ((Go.bits .or .u64 (IntKind.u64.wrap (x4_1 * 4)) t102) - (Go.bits .or .u64 (IntKind.u64.wrap (x3_1 * 4)) 1))) (decide ((IntKind.u64.wrap ((IntKind.u64.wrap (x7_3 - 1)) - (x3_1 / 4611686018427387904))) > 0)) (wrap64 (x6_1 - 1)) a0_0 a0_1) else (pacemakerref03_SqrtWide.l0 kj6 (Go.bits .or .u64 (IntKind.u64.wrap (x3_1 * 2)) 1) (IntKind.u64.wrap ((Go.bits .or .u64 (IntKind.u64.wrap (x4_1 * 4)) t102) - (Go.bits .or .u64 (IntKind.u64.wrap (x3_1 * 4)) 1))) (decide ((IntKind.u64.wrap (x7_3 - (x3_1 / 4611686018427387904))) > 0)) (wrap64 (x6_1 - 1)) a0_0 a0_1)) = some r := by rw [if_pos rfl] at H; exact H
                  clear H
                  have H := H1
                  clear H1
                  by_cases c13 : (Go.bits .or .u64 (IntKind.u64.wrap (x4_1 * 4)) t102) < (Go.bits .or .u64 (IntKind.u64.wrap (x3_1 * 4)) 1)
                  · rw [if_pos c13] at H
                    have c13b0 : decide ((Go.bits .or .u64 (IntKind.u64.wrap (x4_1 * 4)) t102) < (Go.bits .or .u64 (IntKind.u64.wrap (x3_1 * 4)) 1)) = true := decide_eq_true c13
                    clear c13
                    have H' := Aside0.mk H
                    clear H
                    go_wp2
                    go_roundg kj6
                    case measure => have := HK1.out; have := HJ3.out; have := HJ6.out; omega
                    case rel => exact ⟨(Go.bits .or .u64 (IntKind.u64.wrap (x3_1 * 2)) 1), (IntKind.u64.wrap ((Go.bits .or .u64 (IntKind.u64.wrap (x4_1 * 4)) t102) - (Go.bits .or .u64 (IntKind.u64.wrap (x3_1 * 4)) 1))), (decide ((IntKind.u64.wrap ((IntKind.u64.wrap (x7_3 - 1)) - (x3_1 / 4611686018427387904))) > 0)), (wrap64 (x6_1 - 1)), (by first | rfl | (simp; done) | (simp [*]; done)), (by first | rfl | (simp; done) | (simp [*]; done)), (by first | rfl | (simp; done) | (simp [*]; done)), (by first | rfl | (simp; done) | (simp [*]; done)), H', ⟨by have := HK1.out; have := HJ3.out; have := HJ6.out; omega⟩, ⟨by (with_reducible repeat (first | refine blk_drewN ?_ _ | refine blk_drew ?_ | refine blk_alloc ?_ _)); exact BK101.out⟩, ⟨by repeat (first | (with_reducible first | exact HB.out | apply below_alloc | apply pw_below_drewN | apply below_drew1 | refine below_set ?_ GE101.out) | exact HB.out)⟩⟩
                  · rw [if_neg c13] at H
                    have c13b0 : decide ((Go.bits .or .u64 (IntKind.u64.wrap (x4_1 * 4)) t102) < (Go.bits .or .u64 (IntKind.u64.wrap (x3_1 * 4)) 1)) = false := decide_eq_false c13
                    clear c13
                    have H' := Aside0.mk H
                    clear H
                    go_wp2
                    go_roundg kj6
                    case measure => have := HK1.out; have := HJ3.out; have := HJ6.out; omega
                    case rel => exact ⟨(Go.bits .or .u64 (IntKind.u64.wrap (x3_1 * 2)) 1), (IntKind.u64.wrap ((Go.bits .or .u64 (IntKind.u64.wrap (x4_1 * 4)) t102) - (Go.bits .or .u64 (IntKind.u64.wrap (x3_1 * 4)) 1))), (decide ((IntKind.u64.wrap (x7_3 - (x3_1 / 4611686018427387904))) > 0)), (wrap64 (x6_1 - 1)), (by first | rfl | (simp; done) | (simp [*]; done)), (by first | rfl | (simp; done) | (simp [*]; done)), (by first | rfl | (simp; done) | (simp [*]; done)), (by first | rfl | (simp; done) | (simp [*]; done)), H', ⟨by have := HK1.out; have := HJ3.out; have := HJ6.out; omega⟩, ⟨by (with_reducible repeat (first | refine blk_drewN ?_ _ | refine blk_drew ?_ | refine blk_alloc ?_ _)); exact BK101.out⟩, ⟨by repeat (first | (with_reducible first | exact HB.out | apply below_alloc | apply pw_below_drewN | apply below_drew1 | refine below_set ?_ GE101.out) | exact HB.out)⟩⟩
                · replace c12 := Bool.eq_false_iff.mpr c12
                  subst c12
                  have H1 : (pacemakerref03_SqrtWide.l0 kj6 (IntKind.u64.wrap (x3_1 * 2)) (Go.bits .or .u64 (IntKind.u64.wrap (x4_1 * 4)) t102) (decide (x7_3 > 0)) (wrap64 (x6_1 - 1)) a0_0 a0_1) = some r := by rw [if_neg (show ¬ (false = true) by decide)] at H; exact H
                  clear H
                  have H := H1
                  clear H1
                  have H' := Aside0.mk H
                  clear H
                  go_wp2
                  go_roundg kj6
                  case measure => have := HK1.out; have := HJ3.out; have := HJ6.out; omega
                  case rel => exact ⟨((IntKind.u64.wrap (x3_1 * 2))), ((Go.bits .or .u64 (IntKind.u64.wrap (x4_1 * 4)) t102)), (decide (x7_3 > 0)), (wrap64 (x6_1 - 1)), (by first | rfl | (simp; done) | (simp [*]; done)), (by first | rfl | (simp; done) | (simp [*]; done)), (by first | rfl | (simp; done) | (simp [*]; done)), (by first | rfl | (simp; done) | (simp [*]; done)), H', ⟨by have := HK1.out; have := HJ3.out; have := HJ6.out; omega⟩, ⟨by (with_reducible repeat (first | refine blk_drewN ?_ _ | refine blk_drew ?_ | refine blk_alloc ?_ _)); exact BK101.out⟩, ⟨by repeat (first | (with_reducible first | exact HB.out | apply below_alloc | apply pw_below_drewN | apply below_drew1 | refine below_set ?_ GE101.out) | exact HB.out)⟩⟩
      · rw [if_neg c3] at H
        have c3b0 : decide (0 ≤ x6_1) = false := decide_eq_false c3
        clear c3
        obtain rfl := Option.some.inj H
        go_wp2
        go_ret
        exact ⟨by first | rfl | (simp [errW_none, errW_some] <;> rfl) | (simp [*, errW_none, errW_some] <;> rfl), by repeat (first | (with_reducible first | exact HB.out | apply below_alloc | apply pw_below_drewN | apply below_drew1 | refine below_set ?_ GE101.out) | exact HB.out)⟩

/-! ### pacemakerref04_Exp2: function 18 -/
def pacemakerref04_Exp2.l0 : Nat → Int → Int → Int → Int → Int → Option (Int)
  | 0, _, _, _, _, _ => none
  | k + 1, x3, x4, x5, x6, x7 => if x7 ≤ 20 then ((pacemakerref02_Times.f x6 1152921504606846976).bind fun bt103 => ((pacemakerref03_SqrtWide.f k bt103.1 bt103.2).bind fun t105 => (if 0 ≤ (wrap64 (20 - x7)) then (if (Int.tmod (shr .i64 x4 (wrap64 (20 - x7))) 2) = 1 then ((pacemakerref04_times.f x5 t105 60).bind fun t106 => (pacemakerref04_Exp2.l0 k x3 x4 t106 t105 (wrap64 (x7 + 1)))) else (pacemakerref04_Exp2.l0 k x3 x4 x5 t105 (wrap64 (x7 + 1)))) else (none)))) else (if x3 > 40 then (if 0 ≤ (wrap64 (x3 - 40)) then (some (wrap64 (shl .u64 x5 (wrap64 (x3 - 40))))) else (none)) else (if 0 ≤ (wrap64 (40 - x3)) then (some (wrap64 (shr .u64 x5 (wrap64 (40 - x3))))) else (none)))
def pacemakerref04_Exp2.f (k : Nat) (a0 : Int) : Option (Int) := (pacemakerref02_Clamp.f a0).bind fun t101 => ((pacemakerref02_Whole.f t101).bind fun t102 => (if t102 > 41 then (some 4611686018427387904) else (if t102 < (-20) then (some 0) else (pacemakerref04_Exp2.l0 k t102 (wrap64 (t101 - (wrap64 (t102 * 1048576)))) 1152921504606846976 2305843009213693952 1))))
theorem pacemakerref04_Exp2.mono_l : ∀ k, (∀ y0 y1 y2 y3 y4, LeO (pacemakerref04_Exp2.l0 k y0 y1 y2 y3 y4) (pacemakerref04_Exp2.l0 (k + 1) y0 y1 y2 y3 y4))
  | 0 => fun _ _ _ _ _ r h => by simp [pacemakerref04_Exp2.l0] at h
  | k + 1 => by
    have ih0 := pacemakerref04_Exp2.mono_l k
    · intro y0 y1 y2 y3 y4
      unfold pacemakerref04_Exp2.l0
      repeat' first
      | (with_reducible exact ih0 _ _ _ _ _)
      | (with_reducible exact pacemakerref03_SqrtWide.mono _ _ _)
      | (with_reducible exact LeO.refl _)
      | (with_reducible exact LeO.none _)
      | (with_reducible refine LeO.ite ?_ ?_)
      | (with_reducible refine LeO.bind ?_ (fun _ => ?_))
      | exact ih0 _ _ _ _ _
      | exact pacemakerref03_SqrtWide.mono _ _ _
      | exact LeO.none _
      | refine LeO.ite ?_ ?_
      | refine LeO.bind ?_ (fun _ => ?_)
theorem pacemakerref04_Exp2.mono : ∀ a0 k, LeO (pacemakerref04_Exp2.f k a0) (pacemakerref04_Exp2.f (k + 1) a0) := by
  intro a0 k
  have ih0 := pacemakerref04_Exp2.mono_l k
  unfold pacemakerref04_Exp2.f
  repeat' first
      | (with_reducible exact ih0 _ _ _ _ _)
      | (with_reducible exact pacemakerref03_SqrtWide.mono _ _ _)
      | (with_reducible exact LeO.refl _)
      | (with_reducible exact LeO.none _)
      | (with_reducible refine LeO.ite ?_ ?_)
      | (with_reducible refine LeO.bind ?_ (fun _ => ?_))
      | exact ih0 _ _ _ _ _
      | exact pacemakerref03_SqrtWide.mono _ _ _
      | exact LeO.none _
      | refine LeO.ite ?_ ?_
      | refine LeO.bind ?_ (fun _ => ?_)
set_option maxHeartbeats 8000000 in
set_option maxRecDepth 100000 in
theorem pacemakerref04_Exp2.calls (k : Nat) (a0 : Int) (r : Int) (w : World) (h : pacemakerref04_Exp2.f k a0 = some r) :
    Calls Try.prog 18 #[.int .i64 a0] w fun e w' => e = .returned (.int .i64 r) ∧ Below w.heap.size w w' := by
  have hu46 := Try.underlying46
  have HB := Aside0.mk (Below.refl w.heap.size w)
  have H : ((pacemakerref02_Clamp.f a0).bind fun t101 => ((pacemakerref02_Whole.f t101).bind fun t102 => (if t102 > 41 then (some 4611686018427387904) else (if t102 < (-20) then (some 0) else (pacemakerref04_Exp2.l0 k t102 (wrap64 (t101 - (wrap64 (t102 * 1048576)))) 1152921504606846976 2305843009213693952 1))))) = some r := h
  clear h
  replace H := Option.bind_eq_some_iff.mp H
  obtain ⟨t101, A20, H⟩ := H
  replace H : ((pacemakerref02_Whole.f t101).bind fun t102 => (if t102 > 41 then (some 4611686018427387904) else (if t102 < (-20) then (some 0) else (pacemakerref04_Exp2.l0 k t102 (wrap64 (t101 - (wrap64 (t102 * 1048576)))) 1152921504606846976 2305843009213693952 1)))) = some r := H
  have A2 := Aside0.mk A20
  clear A20
  replace H := Option.bind_eq_some_iff.mp H
  obtain ⟨t102, A30, H⟩ := H
  replace H : (if t102 > 41 then (some 4611686018427387904) else (if t102 < (-20) then (some 0) else (pacemakerref04_Exp2.l0 k t102 (wrap64 (t101 - (wrap64 (t102 * 1048576)))) 1152921504606846976 2305843009213693952 1))) = some r := H
  have A3 := Aside0.mk A30
  clear A30
  by_cases c4 : t102 > 41
  · rw [if_pos c4] at H
    have c4b0 : decide (41 < t102) = true := decide_eq_true c4
    clear c4
    obtain rfl := Option.some.inj H
    go_enter Try.func18, Try.ntmps18
    go_wp2_with (first | ((with_reducible refine gate_callee (f := 39) rfl ?_); refine goesL_ (some 11) rfl rfl Try.func39 (by kernel_rfl) rfl #[.int .i64 a0] rfl (by (try simp only [List.map_toArray, List.map_cons, List.map_nil]); first | done | rfl | (simp only [List.length_drop, List.length_take]; rfl)) ?_; (with_reducible refine (pacemakerref02_Clamp.calls a0 t101 _ A2.out).mono ?_); rintro e w5 ⟨rfl, hb⟩; refine ⟨_, rfl, ?_⟩; have n0_ := Aside0.mk (below_step (by repeat (first | (with_reducible first | exact HB.out | apply below_alloc | apply pw_below_drewN | apply below_drew1) | exact HB.out)) hb); clear HB; have HB := n0_; clear n0_; (try clear hb); (try clear hb2); (try clear hk); (try clear hi)) | ((with_reducible refine gate_callee (f := 46) rfl ?_); refine goesL_ (some 13) rfl rfl Try.func46 (by kernel_rfl) rfl #[.int .i64 t101] rfl (by (try simp only [List.map_toArray, List.map_cons, List.map_nil]); first | done | rfl | (simp only [List.length_drop, List.length_take]; rfl)) ?_; (with_reducible refine (pacemakerref02_Whole.calls t101 t102 _ A3.out).mono ?_); rintro e w6 ⟨rfl, hb⟩; refine ⟨_, rfl, ?_⟩; have n0_ := Aside0.mk (below_step (by repeat (first | (with_reducible first | exact HB.out | apply below_alloc | apply pw_below_drewN | apply below_drew1) | exact HB.out)) hb); clear HB; have HB := n0_; clear n0_; (try clear hb); (try clear hb2); (try clear hk); (try clear hi)))
    go_ret
    exact ⟨by first | rfl | (simp [errW_none, errW_some] <;> rfl) | (simp [*, errW_none, errW_some] <;> rfl), by repeat (first | (with_reducible first | exact HB.out | apply below_alloc | apply pw_below_drewN | apply below_drew1) | exact HB.out)⟩
  · rw [if_neg c4] at H
    have c4b0 : decide (41 < t102) = false := decide_eq_false c4
    clear c4
    by_cases c7 : t102 < (-20)
    · rw [if_pos c7] at H
      have c7b0 : decide (t102 < (-20)) = true := decide_eq_true c7
      clear c7
      obtain rfl := Option.some.inj H
      go_enter Try.func18, Try.ntmps18
      go_wp2_with (first | ((with_reducible refine gate_callee (f := 39) rfl ?_); refine goesL_ (some 11) rfl rfl Try.func39 (by kernel_rfl) rfl #[.int .i64 a0] rfl (by (try simp only [List.map_toArray, List.map_cons, List.map_nil]); first | done | rfl | (simp only [List.length_drop, List.length_take]; rfl)) ?_; (with_reducible refine (pacemakerref02_Clamp.calls a0 t101 _ A2.out).mono ?_); rintro e w8 ⟨rfl, hb⟩; refine ⟨_, rfl, ?_⟩; have n0_ := Aside0.mk (below_step (by repeat (first | (with_reducible first | exact HB.out | apply below_alloc | apply pw_below_drewN | apply below_drew1) | exact HB.out)) hb); clear HB; have HB := n0_; clear n0_; (try clear hb); (try clear hb2); (try clear hk); (try clear hi)) | ((with_reducible refine gate_callee (f := 46) rfl ?_); refine goesL_ (some 13) rfl rfl Try.func46 (by kernel_rfl) rfl #[.int .i64 t101] rfl (by (try simp only [List.map_toArray, List.map_cons, List.map_nil]); first | done | rfl | (simp only [List.length_drop, List.length_take]; rfl)) ?_; (with_reducible refine (pacemakerref02_Whole.calls t101 t102 _ A3.out).mono ?_); rintro e w9 ⟨rfl, hb⟩; refine ⟨_, rfl, ?_⟩; have n0_ := Aside0.mk (below_step (by repeat (first | (with_reducible first | exact HB.out | apply below_alloc | apply pw_below_drewN | apply below_drew1) | exact HB.out)) hb); clear HB; have HB := n0_; clear n0_; (try clear hb); (try clear hb2); (try clear hk); (try clear hi)))
      go_ret
      exact ⟨by first | rfl | (simp [errW_none, errW_some] <;> rfl) | (simp [*, errW_none, errW_some] <;> rfl), by repeat (first | (with_reducible first | exact HB.out | apply below_alloc | apply pw_below_drewN | apply below_drew1) | exact HB.out)⟩
    · rw [if_neg c7] at H
      have c7b0 : decide (t102 < (-20)) = false := decide_eq_false c7
      clear c7
      have H' := Aside0.mk H
      clear H
      go_enter Try.func18, Try.ntmps18
      go_wp2_with (first | ((with_reducible refine gate_callee (f := 39) rfl ?_); refine goesL_ (some 11) rfl rfl Try.func39 (by kernel_rfl) rfl #[.int .i64 a0] rfl (by (try simp only [List.map_toArray, List.map_cons, List.map_nil]); first | done | rfl | (simp only [List.length_drop, List.length_take]; rfl)) ?_; (with_reducible refine (pacemakerref02_Clamp.calls a0 t101 _ A2.out).mono ?_); rintro e w10 ⟨rfl, hb⟩; refine ⟨_, rfl, ?_⟩; have n0_ := Aside0.mk (below_step (by repeat (first | (with_reducible first | exact HB.out | apply below_alloc | apply pw_below_drewN | apply below_drew1) | exact HB.out)) hb); clear HB; have HB := n0_; clear n0_; (try clear hb); (try clear hb2); (try clear hk); (try clear hi)) | ((with_reducible refine gate_callee (f := 46) rfl ?_); refine goesL_ (some 13) rfl rfl Try.func46 (by kernel_rfl) rfl #[.int .i64 t101] rfl (by (try simp only [List.map_toArray, List.map_cons, List.map_nil]); first | done | rfl | (simp only [List.length_drop, List.length_take]; rfl)) ?_; (with_reducible refine (pacemakerref02_Whole.calls t101 t102 _ A3.out).mono ?_); rintro e w11 ⟨rfl, hb⟩; refine ⟨_, rfl, ?_⟩; have n0_ := Aside0.mk (below_step (by repeat (first | (with_reducible first | exact HB.out | apply below_alloc | apply pw_below_drewN | apply below_drew1) | exact HB.out)) hb); clear HB; have HB := n0_; clear n0_; (try clear hb); (try clear hb2); (try clear hk); (try clear hi)))
      go_loopg [5, 6, 7] k (fun kq v5 v6 v7 w' => ∃ (x5_1 : Int) (x6_1 : Int) (x7_1 : Int), v5 = .int .u64 x5_1 ∧ v6 = .int .u64 x6_1 ∧ v7 = .int .i64 x7_1 ∧ Aside0 (pacemakerref04_Exp2.l0 kq t102 (wrap64 (t101 - (wrap64 (t102 * 1048576)))) x5_1 x6_1 x7_1 = some r) ∧ Aside0 (kq ≤ k) ∧ Aside0 (Below w.heap.size w w'))
      case atStart => exact ⟨(1152921504606846976), (2305843009213693952), (1), (by first | rfl | (simp; done) | (simp [*]; done)), (by first | rfl | (simp; done) | (simp [*]; done)), (by first | rfl | (simp; done) | (simp [*]; done)), H', ⟨Nat.le_refl _⟩, ⟨by repeat (first | (with_reducible first | exact HB.out | apply below_alloc | apply pw_below_drewN | apply below_drew1) | exact HB.out)⟩⟩
      case round =>
        clear H'
        try clear c1
        try clear p2
        try clear c3
        try clear c4
        try clear c4b0
        try clear p6
        try clear c7
        try clear c7b0
        obtain ⟨x5_1, x6_1, x7_1, rfl, rfl, rfl, HA, HK1, HB⟩ := hrel
        cases gk with
        | zero => exact absurd HA.out (by simp [pacemakerref04_Exp2.l0])
        | succ k1 =>
          have H := HA.out
          clear HA
          simp only [pacemakerref04_Exp2.l0] at H
          by_cases c12 : x7_1 ≤ 20
          · rw [if_pos c12] at H
            have c12b0 : decide (x7_1 ≤ 20) = true := decide_eq_true c12
            clear c12
            replace H := Option.bind_eq_some_iff.mp H
            obtain ⟨⟨t103, t104⟩, A130, H⟩ := H
            replace H : ((pacemakerref03_SqrtWide.f k1 t103 t104).bind fun t105 => (if 0 ≤ (wrap64 (20 - x7_1)) then (if (Int.tmod (shr .i64 (wrap64 (t101 - (wrap64 (t102 * 1048576)))) (wrap64 (20 - x7_1))) 2) = 1 then ((pacemakerref04_times.f x5_1 t105 60).bind fun t106 => (pacemakerref04_Exp2.l0 k1 t102 (wrap64 (t101 - (wrap64 (t102 * 1048576)))) t106 t105 (wrap64 (x7_1 + 1)))) else (pacemakerref04_Exp2.l0 k1 t102 (wrap64 (t101 - (wrap64 (t102 * 1048576)))) x5_1 t105 (wrap64 (x7_1 + 1)))) else (none))) = some r := H
            have A13 := Aside0.mk A130
            clear A130
            replace H := Option.bind_eq_some_iff.mp H
            obtain ⟨t105, A140, H⟩ := H
            replace H : (if 0 ≤ (wrap64 (20 - x7_1)) then (if (Int.tmod (shr .i64 (wrap64 (t101 - (wrap64 (t102 * 1048576)))) (wrap64 (20 - x7_1))) 2) = 1 then ((pacemakerref04_times.f x5_1 t105 60).bind fun t106 => (pacemakerref04_Exp2.l0 k1 t102 (wrap64 (t101 - (wrap64 (t102 * 1048576)))) t106 t105 (wrap64 (x7_1 + 1)))) else (pacemakerref04_Exp2.l0 k1 t102 (wrap64 (t101 - (wrap64 (t102 * 1048576)))) x5_1 t105 (wrap64 (x7_1 + 1)))) else (none)) = some r := H
            have A14 := Aside0.mk A140
            clear A140
            obtain ⟨ji15, hji15⟩ : ∃ j_ : Int, (wrap64 (20 - x7_1)) = j_ := ⟨_, rfl⟩
            replace H : (if 0 ≤ (ji15) then (if (Int.tmod (shr .i64 (wrap64 (t101 - (wrap64 (t102 * 1048576)))) (ji15)) 2) = 1 then ((pacemakerref04_times.f x5_1 t105 60).bind fun t106 => (pacemakerref04_Exp2.l0 k1 t102 (wrap64 (t101 - (wrap64 (t102 * 1048576)))) t106 t105 (wrap64 (x7_1 + 1)))) else (pacemakerref04_Exp2.l0 k1 t102 (wrap64 (t101 - (wrap64 (t102 * 1048576)))) x5_1 t105 (wrap64 (x7_1 + 1)))) else (none)) = some r := by first | (rw [hji15] at H; exact H) | (simp only [hji15] at H ⊢; exact H)
            (try rw [hji15] at A13)
            (try rw [hji15] at A14)
            have hji15w : (IntKind.i64.wrap (20 - x7_1)) = ji15 := (i64_w _).trans hji15
            by_cases c16 : 0 ≤ (ji15)
            · rw [if_pos c16] at H
              have c16b0 := eq_true c16
              have c16b1 : decide (0 ≤ (ji15)) = true := decide_eq_true c16
              clear c16
              obtain ⟨ji17, hji17⟩ : ∃ j_ : Int, (shr .i64 (wrap64 (t101 - (wrap64 (t102 * 1048576)))) (ji15)) = j_ := ⟨_, rfl⟩
              replace H : (if (Int.tmod (ji17) 2) = 1 then ((pacemakerref04_times.f x5_1 t105 60).bind fun t106 => (pacemakerref04_Exp2.l0 k1 t102 (wrap64 (t101 - (wrap64 (t102 * 1048576)))) t106 t105 (wrap64 (x7_1 + 1)))) else (pacemakerref04_Exp2.l0 k1 t102 (wrap64 (t101 - (wrap64 (t102 * 1048576)))) x5_1 t105 (wrap64 (x7_1 + 1)))) = some r := by first | (rw [hji17] at H; exact H) | (simp only [hji17] at H ⊢; exact H)
              (try rw [hji17] at A13)
              (try rw [hji17] at A14)
              have hji17_ : ((wrap64 (t101 - (wrap64 (t102 * 1048576)))) / 2 ^ min (ji15).toNat 64) = ji17 := hji17
              have hji17z : (ji15) ≤ 64 → ((wrap64 (t101 - (wrap64 (t102 * 1048576)))) / 2 ^ (ji15).toNat) = ji17 := shr_small hji17
              by_cases c18 : (Int.tmod (ji17) 2) = 1
              · rw [if_pos c18] at H
                have c18b0 : ((Int.tmod (ji17) 2) == 1) = true := beq_iff_eq.mpr c18
                have c18b1 : ((Int.tmod (ji17) 2) != 1) = false := bne_eq_false_iff_eq.mpr c18
                clear c18
                replace H := Option.bind_eq_some_iff.mp H
                obtain ⟨t106, A190, H⟩ := H
                replace H : (pacemakerref04_Exp2.l0 k1 t102 (wrap64 (t101 - (wrap64 (t102 * 1048576)))) t106 t105 (wrap64 (x7_1 + 1))) = some r := H
                have A19 := Aside0.mk A190
                clear A190
                have H' := Aside0.mk H
                clear H
                go_wp2_with (first | ((with_reducible refine gate_callee (f := 47) rfl ?_); refine goesL_ (some 28) rfl rfl Try.func47 (by kernel_rfl) rfl #[.int .u64 x6_1, .int .u64 1152921504606846976] rfl (by (try simp only [List.map_toArray, List.map_cons, List.map_nil]); first | done | rfl | (simp only [List.length_drop, List.length_take]; rfl)) ?_; (with_reducible refine (pacemakerref02_Times.calls x6_1 1152921504606846976 t103 t104 _ A13.out).mono ?_); rintro e w' ⟨rfl, ⟨nd, rfl⟩⟩; refine ⟨_, rfl, ?_⟩) | ((with_reducible refine gate_callee (f := 48) rfl ?_); refine goesL_ (some 34) rfl rfl Try.func48 (by kernel_rfl) rfl #[.agg #[.int .u64 t103, .int .u64 t104]] rfl (by (try simp only [List.map_toArray, List.map_cons, List.map_nil]); first | done | rfl | (simp only [List.length_drop, List.length_take]; rfl)) ?_; (with_reducible refine (pacemakerref03_SqrtWide.calls k1 t103 t104 t105 _ A14.out).mono ?_); rintro e w20 ⟨rfl, hb⟩; refine ⟨_, rfl, ?_⟩; have n0_ := Aside0.mk (below_step (by repeat (first | (with_reducible first | exact HB.out | apply below_alloc | apply pw_below_drewN | apply below_drew1) | exact HB.out)) hb); clear HB; have HB := n0_; clear n0_; (try clear hb); (try clear hb2); (try clear hk); (try clear hi)) | ((with_reducible refine gate_callee (f := 41) rfl ?_); refine goesL_ (some 43) rfl rfl Try.func41 (by kernel_rfl) rfl #[.int .u64 x5_1, .int .u64 t105, .int .i64 60] rfl (by (try simp only [List.map_toArray, List.map_cons, List.map_nil]); first | done | rfl | (simp only [List.length_drop, List.length_take]; rfl)) ?_; (with_reducible refine (pacemakerref04_times.calls x5_1 t105 60 t106 _ A19.out).mono ?_); rintro e w' ⟨rfl, ⟨nd, rfl⟩⟩; refine ⟨_, rfl, ?_⟩))
                go_roundg k1
                case measure => have := HK1.out; omega
                case rel => exact ⟨(t106), (t105), (wrap64 (x7_1 + 1)), (by first | rfl | (simp; done) | (simp [*]; done)), (by first | rfl | (simp; done) | (simp [*]; done)), (by first | rfl | (simp; done) | (simp [*]; done)), H', ⟨by have := HK1.out; omega⟩, ⟨by repeat (first | (with_reducible first | exact HB.out | apply below_alloc | apply pw_below_drewN | apply below_drew1) | exact HB.out)⟩⟩
              · rw [if_neg c18] at H
                have c18b0 : ((Int.tmod (ji17) 2) == 1) = false := beq_eq_false_iff_ne.mpr c18
                have c18b1 : ((Int.tmod (ji17) 2) != 1) = true := bne_iff_ne.mpr c18
                have H' := Aside0.mk H
                clear H
                go_wp2_with (first | ((with_reducible refine gate_callee (f := 47) rfl ?_); refine goesL_ (some 28) rfl rfl Try.func47 (by kernel_rfl) rfl #[.int .u64 x6_1, .int .u64 1152921504606846976] rfl (by (try simp only [List.map_toArray, List.map_cons, List.map_nil]); first | done | rfl | (simp only [List.length_drop, List.length_take]; rfl)) ?_; (with_reducible refine (pacemakerref02_Times.calls x6_1 1152921504606846976 t103 t104 _ A13.out).mono ?_); rintro e w' ⟨rfl, ⟨nd, rfl⟩⟩; refine ⟨_, rfl, ?_⟩) | ((with_reducible refine gate_callee (f := 48) rfl ?_); refine goesL_ (some 34) rfl rfl Try.func48 (by kernel_rfl) rfl #[.agg #[.int .u64 t103, .int .u64 t104]] rfl (by (try simp only [List.map_toArray, List.map_cons, List.map_nil]); first | done | rfl | (simp only [List.length_drop, List.length_take]; rfl)) ?_; (with_reducible refine (pacemakerref03_SqrtWide.calls k1 t103 t104 t105 _ A14.out).mono ?_); rintro e w21 ⟨rfl, hb⟩; refine ⟨_, rfl, ?_⟩; have n0_ := Aside0.mk (below_step (by repeat (first | (with_reducible first | exact HB.out | apply below_alloc | apply pw_below_drewN | apply below_drew1) | exact HB.out)) hb); clear HB; have HB := n0_; clear n0_; (try clear hb); (try clear hb2); (try clear hk); (try clear hi)))
                go_roundg k1
                case measure => have := HK1.out; omega
                case rel => exact ⟨(x5_1), (t105), (wrap64 (x7_1 + 1)), (by first | rfl | (simp; done) | (simp [*]; done)), (by first | rfl | (simp; done) | (simp [*]; done)), (by first | rfl | (simp; done) | (simp [*]; done)), H', ⟨by have := HK1.out; omega⟩, ⟨by repeat (first | (with_reducible first | exact HB.out | apply below_alloc | apply pw_below_drewN | apply below_drew1) | exact HB.out)⟩⟩
            · rw [if_neg c16] at H
              exact absurd H (by simp)
          · rw [if_neg c12] at H
            have c12b0 : decide (x7_1 ≤ 20) = false := decide_eq_false c12
            clear c12
            by_cases c22 : t102 > 40
            · rw [if_pos c22] at H
              have c22b0 : decide (40 < t102) = true := decide_eq_true c22
              clear c22
              obtain ⟨ji23, hji23⟩ : ∃ j_ : Int, (wrap64 (t102 - 40)) = j_ := ⟨_, rfl⟩
              replace H : (if 0 ≤ (ji23) then (some (wrap64 (shl .u64 x5_1 (ji23)))) else (none)) = some r := by first | (rw [hji23] at H; exact H) | (simp only [hji23] at H ⊢; exact H)
              have hji23w : (IntKind.i64.wrap (t102 - 40)) = ji23 := (i64_w _).trans hji23
              by_cases c24 : 0 ≤ (ji23)
              · rw [if_pos c24] at H
                have c24b0 := eq_true c24
                have c24b1 : decide (0 ≤ (ji23)) = true := decide_eq_true c24
                clear c24
                obtain ⟨ji25, hji25⟩ : ∃ j_ : Int, (shl .u64 x5_1 (ji23)) = j_ := ⟨_, rfl⟩
                replace H : (some (wrap64 (ji25))) = some r := by first | (rw [hji25] at H; exact H) | (simp only [hji25] at H ⊢; exact H)
                have hji25_ : (IntKind.u64.wrap (x5_1 * 2 ^ min (ji23).toNat 64)) = ji25 := hji25
                have hji25z : (ji23) ≤ 64 → (IntKind.u64.wrap (x5_1 * 2 ^ (ji23).toNat)) = ji25 := shl_small hji25
                obtain rfl := Option.some.inj H
                go_wp2
                go_ret
                exact ⟨by first | rfl | (simp [errW_none, errW_some] <;> rfl) | (simp only [← hji23, ← hji25]; first | rfl | (simp [errW_none, errW_some] <;> rfl)) | (simp [*, errW_none, errW_some] <;> rfl), by repeat (first | (with_reducible first | exact HB.out | apply below_alloc | apply pw_below_drewN | apply below_drew1) | exact HB.out)⟩
              · rw [if_neg c24] at H
                exact absurd H (by simp)
            · rw [if_neg c22] at H
              have c22b0 : decide (40 < t102) = false := decide_eq_false c22
              clear c22
              obtain ⟨ji26, hji26⟩ : ∃ j_ : Int, (wrap64 (40 - t102)) = j_ := ⟨_, rfl⟩
              replace H : (if 0 ≤ (ji26) then (some (wrap64 (shr .u64 x5_1 (ji26)))) else (none)) = some r := by first | (rw [hji26] at H; exact H) | (simp only [hji26] at H ⊢; exact H)
              have hji26w : (IntKind.i64.wrap (40 - t102)) = ji26 := (i64_w _).trans hji26
              by_cases c27 : 0 ≤ (ji26)
              · rw [if_pos c27] at H
                have c27b0 := eq_true c27
                have c27b1 : decide (0 ≤ (ji26)) = true := decide_eq_true c27
                clear c27
                obtain ⟨ji28, hji28⟩ : ∃ j_ : Int, (shr .u64 x5_1 (ji26)) = j_ := ⟨_, rfl⟩
                replace H : (some (wrap64 (ji28))) = some r := by first | (rw [hji28] at H; exact H) | (simp only [hji28] at H ⊢; exact H)
                have hji28_ : (x5_1 / 2 ^ min (ji26).toNat 64) = ji28 := hji28
                have hji28z : (ji26) ≤ 64 → (x5_1 / 2 ^ (ji26).toNat) = ji28 := shr_small hji28
                obtain rfl := Option.some.inj H
                go_wp2
                go_ret
                exact ⟨by first | rfl | (simp [errW_none, errW_some] <;> rfl) | (simp only [← hji26, ← hji28]; first | rfl | (simp [errW_none, errW_some] <;> rfl)) | (simp [*, errW_none, errW_some] <;> rfl), by repeat (first | (with_reducible first | exact HB.out | apply below_alloc | apply pw_below_drewN | apply below_drew1) | exact HB.out)⟩
              · rw [if_neg c27] at H
                exact absurd H (by simp)

/-! ### pacemakerref04_Factor: function 20 -/
mutual
def pacemakerref04_Factor.l0 : Nat → Int → Int → Int → Option (Int)
  | 0, _, _, _ => none
  | k + 1, x0, x3, x4 => if x4 ≤ x0 then (pacemakerref04_Factor.j1 k x0 x3 x4 (decide (x4 ≤ 20))) else (pacemakerref04_Factor.j1 k x0 x3 x4 false)
def pacemakerref04_Factor.j1 : Nat → Int → Int → Int → Bool → Option (Int)
  | 0, _, _, _, _ => none
  | k + 1, x0, x3, x4, x13 => if x13 = true then ((pacemakerref02_Times.f x3 1152921504606846976).bind fun bt101 => ((pacemakerref03_SqrtWide.f k bt101.1 bt101.2).bind fun t103 => (pacemakerref04_Factor.l0 k x0 t103 (wrap64 (x4 + 1))))) else (some x3)
end
def pacemakerref04_Factor.f (k : Nat) (a0 : Int) : Option (Int) := pacemakerref04_Factor.l0 k a0 2305843009213693952 1
theorem pacemakerref04_Factor.mono_l : ∀ k, (∀ y0 y1 y2, LeO (pacemakerref04_Factor.l0 k y0 y1 y2) (pacemakerref04_Factor.l0 (k + 1) y0 y1 y2)) ∧ (∀ y0 y1 y2 y3, LeO (pacemakerref04_Factor.j1 k y0 y1 y2 y3) (pacemakerref04_Factor.j1 (k + 1) y0 y1 y2 y3))
  | 0 => ⟨fun _ _ _ r h => by simp [pacemakerref04_Factor.l0] at h, fun _ _ _ _ r h => by simp [pacemakerref04_Factor.j1] at h⟩
  | k + 1 => by
    obtain ⟨ih0, ih1⟩ := pacemakerref04_Factor.mono_l k
    refine ⟨?_, ?_⟩
    · intro y0 y1 y2
      unfold pacemakerref04_Factor.l0
      repeat' first
      | (with_reducible exact ih0 _ _ _)
      | (with_reducible exact ih1 _ _ _ _)
      | (with_reducible exact pacemakerref03_SqrtWide.mono _ _ _)
      | (with_reducible exact LeO.refl _)
      | (with_reducible exact LeO.none _)
      | (with_reducible refine LeO.ite ?_ ?_)
      | (with_reducible refine LeO.bind ?_ (fun _ => ?_))
      | exact ih0 _ _ _
      | exact ih1 _ _ _ _
      | exact pacemakerref03_SqrtWide.mono _ _ _
      | exact LeO.none _
      | refine LeO.ite ?_ ?_
      | refine LeO.bind ?_ (fun _ => ?_)
    · intro y0 y1 y2 y3
      unfold pacemakerref04_Factor.j1
      repeat' first
      | (with_reducible exact ih0 _ _ _)
      | (with_reducible exact ih1 _ _ _ _)
      | (with_reducible exact pacemakerref03_SqrtWide.mono _ _ _)
      | (with_reducible exact LeO.refl _)
      | (with_reducible exact LeO.none _)
      | (with_reducible refine LeO.ite ?_ ?_)
      | (with_reducible refine LeO.bind ?_ (fun _ => ?_))
      | exact ih0 _ _ _
      | exact ih1 _ _ _ _
      | exact pacemakerref03_SqrtWide.mono _ _ _
      | exact LeO.none _
      | refine LeO.ite ?_ ?_
      | refine LeO.bind ?_ (fun _ => ?_)
theorem pacemakerref04_Factor.mono : ∀ a0 k, LeO (pacemakerref04_Factor.f k a0) (pacemakerref04_Factor.f (k + 1) a0) := by
  intro a0 k
  obtain ⟨ih0, ih1⟩ := pacemakerref04_Factor.mono_l k
  unfold pacemakerref04_Factor.f
  repeat' first
      | (with_reducible exact ih0 _ _ _)
      | (with_reducible exact ih1 _ _ _ _)
      | (with_reducible exact pacemakerref03_SqrtWide.mono _ _ _)
      | (with_reducible exact LeO.refl _)
      | (with_reducible exact LeO.none _)
      | (with_reducible refine LeO.ite ?_ ?_)
      | (with_reducible refine LeO.bind ?_ (fun _ => ?_))
      | exact ih0 _ _ _
      | exact ih1 _ _ _ _
      | exact pacemakerref03_SqrtWide.mono _ _ _
      | exact LeO.none _
      | refine LeO.ite ?_ ?_
      | refine LeO.bind ?_ (fun _ => ?_)
set_option maxHeartbeats 8000000 in
set_option maxRecDepth 100000 in
theorem pacemakerref04_Factor.calls (k : Nat) (a0 : Int) (r : Int) (w : World) (h : pacemakerref04_Factor.f k a0 = some r) :
    Calls Try.prog 20 #[.int .i64 a0] w fun e w' => e = .returned (.int .u64 r) ∧ Below w.heap.size w w' := by
  have hu46 := Try.underlying46
  have HB := Aside0.mk (Below.refl w.heap.size w)
  have H : (pacemakerref04_Factor.l0 k a0 2305843009213693952 1) = some r := h
  clear h
  have H' := Aside0.mk H
  clear H
  go_enter Try.func20, Try.ntmps20
  go_wp2
  go_loopg [3, 4] k (fun kq v3 v4 w' => ∃ (x3_1 : Int) (x4_1 : Int), v3 = .int .u64 x3_1 ∧ v4 = .int .i64 x4_1 ∧ Aside0 (pacemakerref04_Factor.l0 kq a0 x3_1 x4_1 = some r) ∧ Aside0 (kq ≤ k) ∧ Aside0 (Below w.heap.size w w'))
  case atStart => exact ⟨(2305843009213693952), (1), (by first | rfl | (simp; done) | (simp [*]; done)), (by first | rfl | (simp; done) | (simp [*]; done)), H', ⟨Nat.le_refl _⟩, ⟨by repeat (first | (with_reducible first | exact HB.out | apply below_alloc | apply pw_below_drewN | apply below_drew1) | exact HB.out)⟩⟩
  case round =>
    clear H'
    obtain ⟨x3_1, x4_1, rfl, rfl, HA, HK1, HB⟩ := hrel
    cases gk with
    | zero => exact absurd HA.out (by simp [pacemakerref04_Factor.l0])
    | succ k1 =>
      have H := HA.out
      clear HA
      simp only [pacemakerref04_Factor.l0] at H
      have HC2 := Aside0.mk H
      clear H
      go_upto_region 3 with (fail)
      go_cut [13] (fun v13 wc => ∃ (kq : Nat) (x13_1 : Bool), v13 = .bool x13_1 ∧ Aside0 (pacemakerref04_Factor.j1 kq a0 x3_1 x4_1 x13_1 = some r) ∧ Aside0 (kq ≤ k1) ∧ Aside0 (Below w.heap.size w wc))
      case first =>
        have H := HC2.out
        clear HC2
        by_cases c3 : x4_1 ≤ a0
        · rw [if_pos c3] at H
          have c3b0 : decide (x4_1 ≤ a0) = true := decide_eq_true c3
          clear c3
          (first | rw [c3b0] | (simp only [i64_w, i32_w]; rw [c3b0]) | skip)
          have H' := Aside0.mk H
          clear H
          go_wp2
          go_meet
          case rel => exact ⟨_, (decide (x4_1 ≤ 20)), (by first | rfl | (simp; done) | (simp [*]; done)), H', ⟨by have := HK1.out; first | omega | exact Nat.le_refl _⟩, ⟨by repeat (first | (with_reducible first | exact HB.out | apply below_alloc | apply pw_below_drewN | apply below_drew1) | exact HB.out)⟩⟩
        · rw [if_neg c3] at H
          have c3b0 : decide (x4_1 ≤ a0) = false := decide_eq_false c3
          clear c3
          (first | rw [c3b0] | (simp only [i64_w, i32_w]; rw [c3b0]) | skip)
          have H' := Aside0.mk H
          clear H
          go_wp2
          go_meet
          case rel => exact ⟨_, (false), (by first | rfl | (simp; done) | (simp [*]; done)), H', ⟨by have := HK1.out; first | omega | exact Nat.le_refl _⟩, ⟨by repeat (first | (with_reducible first | exact HB.out | apply below_alloc | apply pw_below_drewN | apply below_drew1) | exact HB.out)⟩⟩
      case rest =>
        clear HC2
        try clear c2
        try clear p2
        try clear c3
        try clear c3b0
        obtain ⟨kq, x13_1, rfl, HA, HJ1, HB⟩ := hcut
        cases kq with
        | zero => exact absurd HA.out (by simp [pacemakerref04_Factor.j1])
        | succ kj1 =>
          have H := HA.out
          clear HA
          simp only [pacemakerref04_Factor.j1] at H
          by_cases c4 : x13_1 = true
          · subst c4
            have H1 : ((pacemakerref02_Times.f x3_1 1152921504606846976).bind fun bt101 => ((pacemakerref03_SqrtWide.f kj1 bt101.1 bt101.2).bind fun t103 => (pacemakerref04_Factor.l0 kj1 a0 t103 (wrap64 (x4_1 + 1))))) = some r := by rw [if_pos rfl] at H; exact H
            clear H
            have H := H1
            clear H1
            replace H := Option.bind_eq_some_iff.mp H
            obtain ⟨⟨t101, t102⟩, A50, H⟩ := H
            replace H : ((pacemakerref03_SqrtWide.f kj1 t101 t102).bind fun t103 => (pacemakerref04_Factor.l0 kj1 a0 t103 (wrap64 (x4_1 + 1)))) = some r := H
            have A5 := Aside0.mk A50
            clear A50
            replace H := Option.bind_eq_some_iff.mp H
            obtain ⟨t103, A60, H⟩ := H
            replace H : (pacemakerref04_Factor.l0 kj1 a0 t103 (wrap64 (x4_1 + 1))) = some r := H
            have A6 := Aside0.mk A60
            clear A60
            have H' := Aside0.mk H
            clear H
            go_wp2_with (first | ((with_reducible refine gate_callee (f := 47) rfl ?_); refine goesL_ (some 18) rfl rfl Try.func47 (by kernel_rfl) rfl #[.int .u64 x3_1, .int .u64 1152921504606846976] rfl (by (try simp only [List.map_toArray, List.map_cons, List.map_nil]); first | done | rfl | (simp only [List.length_drop, List.length_take]; rfl)) ?_; (with_reducible refine (pacemakerref02_Times.calls x3_1 1152921504606846976 t101 t102 _ A5.out).mono ?_); rintro e w' ⟨rfl, ⟨nd, rfl⟩⟩; refine ⟨_, rfl, ?_⟩) | ((with_reducible refine gate_callee (f := 48) rfl ?_); refine goesL_ (some 24) rfl rfl Try.func48 (by kernel_rfl) rfl #[.agg #[.int .u64 t101, .int .u64 t102]] rfl (by (try simp only [List.map_toArray, List.map_cons, List.map_nil]); first | done | rfl | (simp only [List.length_drop, List.length_take]; rfl)) ?_; (with_reducible refine (pacemakerref03_SqrtWide.calls kj1 t101 t102 t103 _ A6.out).mono ?_); rintro e w7 ⟨rfl, hb⟩; refine ⟨_, rfl, ?_⟩; have n0_ := Aside0.mk (below_step (by repeat (first | (with_reducible first | exact HB.out | apply below_alloc | apply pw_below_drewN | apply below_drew1) | exact HB.out)) hb); clear HB; have HB := n0_; clear n0_; (try clear hb); (try clear hb2); (try clear hk); (try clear hi)))
            go_roundg kj1
            case measure => have := HK1.out; have := HJ1.out; omega
            case rel => exact ⟨(t103), (wrap64 (x4_1 + 1)), (by first | rfl | (simp; done) | (simp [*]; done)), (by first | rfl | (simp; done) | (simp [*]; done)), H', ⟨by have := HK1.out; have := HJ1.out; omega⟩, ⟨by repeat (first | (with_reducible first | exact HB.out | apply below_alloc | apply pw_below_drewN | apply below_drew1) | exact HB.out)⟩⟩
          · replace c4 := Bool.eq_false_iff.mpr c4
            subst c4
            have H1 : (some x3_1) = some r := by rw [if_neg (show ¬ (false = true) by decide)] at H; exact H
            clear H
            have H := H1
            clear H1
            obtain rfl := Option.some.inj H
            go_wp2
            go_ret
            exact ⟨by first | rfl | (simp [errW_none, errW_some] <;> rfl) | (simp [*, errW_none, errW_some] <;> rfl), by repeat (first | (with_reducible first | exact HB.out | apply below_alloc | apply pw_below_drewN | apply below_drew1) | exact HB.out)⟩

end Go.Proofs.Ytpfhlimcemkneaa.P
