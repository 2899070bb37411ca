-- Printed by a program of this session (wip/pp.py): functions, contracts, rows. Not trusted: Lean checks it.
import Derived.Test.YtpfhlimcemkneaaPx0
import Derived.Test.YtpfhlimcemkneaaPx1
import Derived.Test.YtpfhlimcemkneaaPx17
import Derived.Test.YtpfhlimcemkneaaPx19
import Derived.Test.YtpfhlimcemkneaaPx22
namespace Go.Proofs.Ytpfhlimcemkneaa.P
open Go.RowKit Go.Proofs.YtpfhlimcemkneaaW.PrintWords Go.Proofs.YtpfhlimcemkneaaW.PrintLast Go.Proofs.YtpfhlimcemkneaaW.PrintMore Go.Proofs.YtpfhlimcemkneaaX
attribute [local go_sem] max2_int min2_int max_two min_two max_three min_three max_four min_four   -- for this text's walks alone
set_option linter.unusedVariables false
set_option linter.unusedSimpArgs false

attribute [local go_sem high] eqA29
/-! ### pacemakerlaw25_CreditHolds: function 10 -/
mutual
def pacemakerlaw25_CreditHolds.j0 : Nat → Int → List (S41) → Int → Bool → Int → Int → Option (Bool)
  | 0, _, _, _, _, _, _ => none
  | k + 1, x0, x2, x8, x33, x105000, x105001 => if x33 = true then ((pacemakerlaw25_credited.f k).bind fun t105 => (if t105 = true then (if x8 = 0 then (some true) else (some (x105000 == 0 && (x105001 == 0)))) else (none))) else (if 0 ≤ (x2.length : Int) then (if ((x2.length : Int) : Int).toNat ≤ 35184372088832 then (pacemakerlaw25_CreditHolds.l0 k x0 x2 (List.replicate ((x2.length : Int) : Int).toNat 0) (List.replicate ((x2.length : Int) : Int).toNat 0) 0 x105000 x105001) else (none)) else (none))
def pacemakerlaw25_CreditHolds.l0 : Nat → Int → List (S41) → List Int → List Int → Int → Int → Int → Option (Bool)
  | 0, _, _, _, _, _, _, _ => none
  | k + 1, x0, x2, x9, x10, x11, x105000, x105001 => if x11 < (x2.length : Int) then (if 0 ≤ x11 then (if ((rd_T41 x2 x11).f1) < 0 then (pacemakerlaw25_CreditHolds.j2 k x0 x2 x9 x10 x11 true x105000 x105001 ((rd_T41 x2 x11).f0) ((rd_T41 x2 x11).f1) ((rd_T41 x2 x11).f2)) else (pacemakerlaw25_CreditHolds.j2 k x0 x2 x9 x10 x11 (decide (((rd_T41 x2 x11).f1) > 1000000)) x105000 x105001 ((rd_T41 x2 x11).f0) ((rd_T41 x2 x11).f1) ((rd_T41 x2 x11).f2))) else (none)) else (pacemakerlaw25_CreditHolds.l1 k x0 x2 x9 x10 0)
def pacemakerlaw25_CreditHolds.j2 : Nat → Int → List (S41) → List Int → List Int → Int → Bool → Int → Int → Int → Int → Int → Option (Bool)
  | 0, _, _, _, _, _, _, _, _, _, _, _ => none
  | k + 1, x0, x2, x9, x10, x11, x67, x105000, x105001, x114000, x114001, x114002 => if x67 = true then ((pacemakerlaw25_credited.f k).bind fun t114 => (some t114)) else ((credit_Fill.f k x0 x105000 x105001 x114000 (wrap64 (x105000 + x114001))).bind fun bt115 => (if bt115.2.2 = 0 then (if 0 ≤ x11 then (if x11 < (x9.length : Int) then (pacemakerlaw25_CreditHolds.j3 k x0 x2 (x9.set (x11 : Int).toNat (wrap64 (x114000 * x114001))) x10 x11 bt115.1 bt115.2.1 x114000 x114001 x114002) else (none)) else (none)) else (pacemakerlaw25_CreditHolds.j3 k x0 x2 x9 x10 x11 x105000 x105001 x114000 x114001 x114002)))
def pacemakerlaw25_CreditHolds.j3 : Nat → Int → List (S41) → List Int → List Int → Int → Int → Int → Int → Int → Int → Option (Bool)
  | 0, _, _, _, _, _, _, _, _, _, _ => none
  | k + 1, x0, x2, x9, x10, x11, x105000, x105001, x114000, x114001, x114002 => (credit_Take.f k x0 x105000 x105001 x114002).bind fun bt120 => (if bt120.2.2 = 0 then (if 0 ≤ x11 then (if x11 < (x10.length : Int) then ((credit_Is.f x0 bt120.1 bt120.2.1).bind fun t125 => (if t125 = true then (pacemakerlaw25_CreditHolds.l0 k x0 x2 x9 (x10.set (x11 : Int).toNat (wrap64 (x114002 * 1000000))) (wrap64 (x11 + 1)) bt120.1 bt120.2.1) else (none))) else (none)) else (none)) else ((credit_Is.f x0 x105000 x105001).bind fun t126 => (if t126 = true then (pacemakerlaw25_CreditHolds.l0 k x0 x2 x9 x10 (wrap64 (x11 + 1)) x105000 x105001) else (none))))
def pacemakerlaw25_CreditHolds.l1 : Nat → Int → List (S41) → List Int → List Int → Int → Option (Bool)
  | 0, _, _, _, _, _ => none
  | k + 1, x0, x2, x9, x10, x17 => if x17 < (x2.length : Int) then (pacemakerlaw25_CreditHolds.l2 k x0 x2 x9 x10 x17 0 0 x17) else ((pacemakerlaw25_credited.f k).bind fun t127 => (some t127))
def pacemakerlaw25_CreditHolds.l2 : Nat → Int → List (S41) → List Int → List Int → Int → Int → Int → Int → Option (Bool)
  | 0, _, _, _, _, _, _, _, _ => none
  | k + 1, x0, x2, x9, x10, x17, x18, x19, x20 => if x20 < (x2.length : Int) then (if x20 > x17 then (if 0 ≤ x20 then (if x20 < (x9.length : Int) then (if x20 < (x10.length : Int) then (if (wrap64 (x19 + (rd x10 x20))) > (wrap64 ((wrap64 (x18 + (rd x9 x20))) + (wrap64 (x0 * 1000000)))) then (none) else (pacemakerlaw25_CreditHolds.l2 k x0 x2 x9 x10 x17 (wrap64 (x18 + (rd x9 x20))) (wrap64 (x19 + (rd x10 x20))) (wrap64 (x20 + 1)))) else (none)) else (none)) else (none)) else (if 0 ≤ x20 then (if x20 < (x10.length : Int) then (if (wrap64 (x19 + (rd x10 x20))) > (wrap64 (x18 + (wrap64 (x0 * 1000000)))) then (none) else (pacemakerlaw25_CreditHolds.l2 k x0 x2 x9 x10 x17 x18 (wrap64 (x19 + (rd x10 x20))) (wrap64 (x20 + 1)))) else (none)) else (none))) else (pacemakerlaw25_CreditHolds.l1 k x0 x2 x9 x10 (wrap64 (x17 + 1)))
end
def pacemakerlaw25_CreditHolds.f (k : Nat) (a0 : Int) (a1 : Int) (l2 : List (S41)) : Option (Bool) := (credit_New.f k a0 a1).bind fun bt101 => (if (l2.length : Int) > 60 then (pacemakerlaw25_CreditHolds.j0 k a0 l2 bt101.2.2 true bt101.1 bt101.2.1) else (pacemakerlaw25_CreditHolds.j0 k a0 l2 bt101.2.2 (bt101.2.2 != 0) bt101.1 bt101.2.1))
theorem pacemakerlaw25_CreditHolds.mono_l : ∀ k, (∀ y0 y1 y2 y3 y4 y5, LeO (pacemakerlaw25_CreditHolds.j0 k y0 y1 y2 y3 y4 y5) (pacemakerlaw25_CreditHolds.j0 (k + 1) y0 y1 y2 y3 y4 y5)) ∧ (∀ y0 y1 y2 y3 y4 y5 y6, LeO (pacemakerlaw25_CreditHolds.l0 k y0 y1 y2 y3 y4 y5 y6) (pacemakerlaw25_CreditHolds.l0 (k + 1) y0 y1 y2 y3 y4 y5 y6)) ∧ (∀ y0 y1 y2 y3 y4 y5 y6 y7 y8 y9 y10, LeO (pacemakerlaw25_CreditHolds.j2 k y0 y1 y2 y3 y4 y5 y6 y7 y8 y9 y10) (pacemakerlaw25_CreditHolds.j2 (k + 1) y0 y1 y2 y3 y4 y5 y6 y7 y8 y9 y10)) ∧ (∀ y0 y1 y2 y3 y4 y5 y6 y7 y8 y9, LeO (pacemakerlaw25_CreditHolds.j3 k y0 y1 y2 y3 y4 y5 y6 y7 y8 y9) (pacemakerlaw25_CreditHolds.j3 (k + 1) y0 y1 y2 y3 y4 y5 y6 y7 y8 y9)) ∧ (∀ y0 y1 y2 y3 y4, LeO (pacemakerlaw25_CreditHolds.l1 k y0 y1 y2 y3 y4) (pacemakerlaw25_CreditHolds.l1 (k + 1) y0 y1 y2 y3 y4)) ∧ (∀ y0 y1 y2 y3 y4 y5 y6 y7, LeO (pacemakerlaw25_CreditHolds.l2 k y0 y1 y2 y3 y4 y5 y6 y7) (pacemakerlaw25_CreditHolds.l2 (k + 1) y0 y1 y2 y3 y4 y5 y6 y7))
  | 0 => ⟨fun _ _ _ _ _ _ r h => by simp [pacemakerlaw25_CreditHolds.j0] at h, fun _ _ _ _ _ _ _ r h => by simp [pacemakerlaw25_CreditHolds.l0] at h, fun _ _ _ _ _ _ _ _ _ _ _ r h => by simp [pacemakerlaw25_CreditHolds.j2] at h, fun _ _ _ _ _ _ _ _ _ _ r h => by simp [pacemakerlaw25_CreditHolds.j3] at h, fun _ _ _ _ _ r h => by simp [pacemakerlaw25_CreditHolds.l1] at h, fun _ _ _ _ _ _ _ _ r h => by simp [pacemakerlaw25_CreditHolds.l2] at h⟩
  | k + 1 => by
    obtain ⟨ih0, ih1, ih2, ih3, ih4, ih5⟩ := pacemakerlaw25_CreditHolds.mono_l k
    refine ⟨?_, ?_, ?_, ?_, ?_, ?_⟩
    · intro y0 y1 y2 y3 y4 y5
      unfold pacemakerlaw25_CreditHolds.j0
      repeat' first
      | (with_reducible exact ih0 _ _ _ _ _ _)
      | (with_reducible exact ih1 _ _ _ _ _ _ _)
      | (with_reducible exact ih2 _ _ _ _ _ _ _ _ _ _ _)
      | (with_reducible exact ih3 _ _ _ _ _ _ _ _ _ _)
      | (with_reducible exact ih4 _ _ _ _ _)
      | (with_reducible exact ih5 _ _ _ _ _ _ _ _)
      | (with_reducible exact credit_Fill.mono _ _ _ _ _ _)
      | (with_reducible exact credit_New.mono _ _ _)
      | (with_reducible exact credit_Take.mono _ _ _ _ _)
      | (with_reducible exact pacemakerlaw25_credited.mono _)
      | (with_reducible exact LeO.refl _)
      | (with_reducible exact LeO.none _)
      | (with_reducible refine LeO.ite ?_ ?_)
      | (with_reducible refine LeO.bind ?_ (fun _ => ?_))
      | exact ih0 _ _ _ _ _ _
      | exact ih1 _ _ _ _ _ _ _
      | exact ih2 _ _ _ _ _ _ _ _ _ _ _
      | exact ih3 _ _ _ _ _ _ _ _ _ _
      | exact ih4 _ _ _ _ _
      | exact ih5 _ _ _ _ _ _ _ _
      | exact credit_Fill.mono _ _ _ _ _ _
      | exact credit_New.mono _ _ _
      | exact credit_Take.mono _ _ _ _ _
      | exact pacemakerlaw25_credited.mono _
      | exact LeO.none _
      | refine LeO.ite ?_ ?_
      | refine LeO.bind ?_ (fun _ => ?_)
    · intro y0 y1 y2 y3 y4 y5 y6
      unfold pacemakerlaw25_CreditHolds.l0
      repeat' first
      | (with_reducible exact ih0 _ _ _ _ _ _)
      | (with_reducible exact ih1 _ _ _ _ _ _ _)
      | (with_reducible exact ih2 _ _ _ _ _ _ _ _ _ _ _)
      | (with_reducible exact ih3 _ _ _ _ _ _ _ _ _ _)
      | (with_reducible exact ih4 _ _ _ _ _)
      | (with_reducible exact ih5 _ _ _ _ _ _ _ _)
      | (with_reducible exact credit_Fill.mono _ _ _ _ _ _)
      | (with_reducible exact credit_New.mono _ _ _)
      | (with_reducible exact credit_Take.mono _ _ _ _ _)
      | (with_reducible exact pacemakerlaw25_credited.mono _)
      | (with_reducible exact LeO.refl _)
      | (with_reducible exact LeO.none _)
      | (with_reducible refine LeO.ite ?_ ?_)
      | (with_reducible refine LeO.bind ?_ (fun _ => ?_))
      | exact ih0 _ _ _ _ _ _
      | exact ih1 _ _ _ _ _ _ _
      | exact ih2 _ _ _ _ _ _ _ _ _ _ _
      | exact ih3 _ _ _ _ _ _ _ _ _ _
      | exact ih4 _ _ _ _ _
      | exact ih5 _ _ _ _ _ _ _ _
      | exact credit_Fill.mono _ _ _ _ _ _
      | exact credit_New.mono _ _ _
      | exact credit_Take.mono _ _ _ _ _
      | exact pacemakerlaw25_credited.mono _
      | exact LeO.none _
      | refine LeO.ite ?_ ?_
      | refine LeO.bind ?_ (fun _ => ?_)
    · intro y0 y1 y2 y3 y4 y5 y6 y7 y8 y9 y10
      unfold pacemakerlaw25_CreditHolds.j2
      repeat' first
      | (with_reducible exact ih0 _ _ _ _ _ _)
      | (with_reducible exact ih1 _ _ _ _ _ _ _)
      | (with_reducible exact ih2 _ _ _ _ _ _ _ _ _ _ _)
      | (with_reducible exact ih3 _ _ _ _ _ _ _ _ _ _)
      | (with_reducible exact ih4 _ _ _ _ _)
      | (with_reducible exact ih5 _ _ _ _ _ _ _ _)
      | (with_reducible exact credit_Fill.mono _ _ _ _ _ _)
      | (with_reducible exact credit_New.mono _ _ _)
      | (with_reducible exact credit_Take.mono _ _ _ _ _)
      | (with_reducible exact pacemakerlaw25_credited.mono _)
      | (with_reducible exact LeO.refl _)
      | (with_reducible exact LeO.none _)
      | (with_reducible refine LeO.ite ?_ ?_)
      | (with_reducible refine LeO.bind ?_ (fun _ => ?_))
      | exact ih0 _ _ _ _ _ _
      | exact ih1 _ _ _ _ _ _ _
      | exact ih2 _ _ _ _ _ _ _ _ _ _ _
      | exact ih3 _ _ _ _ _ _ _ _ _ _
      | exact ih4 _ _ _ _ _
      | exact ih5 _ _ _ _ _ _ _ _
      | exact credit_Fill.mono _ _ _ _ _ _
      | exact credit_New.mono _ _ _
      | exact credit_Take.mono _ _ _ _ _
      | exact pacemakerlaw25_credited.mono _
      | exact LeO.none _
      | refine LeO.ite ?_ ?_
      | refine LeO.bind ?_ (fun _ => ?_)
    · intro y0 y1 y2 y3 y4 y5 y6 y7 y8 y9
      unfold pacemakerlaw25_CreditHolds.j3
      repeat' first
      | (with_reducible exact ih0 _ _ _ _ _ _)
      | (with_reducible exact ih1 _ _ _ _ _ _ _)
      | (with_reducible exact ih2 _ _ _ _ _ _ _ _ _ _ _)
      | (with_reducible exact ih3 _ _ _ _ _ _ _ _ _ _)
      | (with_reducible exact ih4 _ _ _ _ _)
      | (with_reducible exact ih5 _ _ _ _ _ _ _ _)
      | (with_reducible exact credit_Fill.mono _ _ _ _ _ _)
      | (with_reducible exact credit_New.mono _ _ _)
      | (with_reducible exact credit_Take.mono _ _ _ _ _)
      | (with_reducible exact pacemakerlaw25_credited.mono _)
      | (with_reducible exact LeO.refl _)
      | (with_reducible exact LeO.none _)
      | (with_reducible refine LeO.ite ?_ ?_)
      | (with_reducible refine LeO.bind ?_ (fun _ => ?_))
      | exact ih0 _ _ _ _ _ _
      | exact ih1 _ _ _ _ _ _ _
      | exact ih2 _ _ _ _ _ _ _ _ _ _ _
      | exact ih3 _ _ _ _ _ _ _ _ _ _
      | exact ih4 _ _ _ _ _
      | exact ih5 _ _ _ _ _ _ _ _
      | exact credit_Fill.mono _ _ _ _ _ _
      | exact credit_New.mono _ _ _
      | exact credit_Take.mono _ _ _ _ _
      | exact pacemakerlaw25_credited.mono _
      | exact LeO.none _
      | refine LeO.ite ?_ ?_
      | refine LeO.bind ?_ (fun _ => ?_)
    · intro y0 y1 y2 y3 y4
      unfold pacemakerlaw25_CreditHolds.l1
      repeat' first
      | (with_reducible exact ih0 _ _ _ _ _ _)
      | (with_reducible exact ih1 _ _ _ _ _ _ _)
      | (with_reducible exact ih2 _ _ _ _ _ _ _ _ _ _ _)
      | (with_reducible exact ih3 _ _ _ _ _ _ _ _ _ _)
      | (with_reducible exact ih4 _ _ _ _ _)
      | (with_reducible exact ih5 _ _ _ _ _ _ _ _)
      | (with_reducible exact credit_Fill.mono _ _ _ _ _ _)
      | (with_reducible exact credit_New.mono _ _ _)
      | (with_reducible exact credit_Take.mono _ _ _ _ _)
      | (with_reducible exact pacemakerlaw25_credited.mono _)
      | (with_reducible exact LeO.refl _)
      | (with_reducible exact LeO.none _)
      | (with_reducible refine LeO.ite ?_ ?_)
      | (with_reducible refine LeO.bind ?_ (fun _ => ?_))
      | exact ih0 _ _ _ _ _ _
      | exact ih1 _ _ _ _ _ _ _
      | exact ih2 _ _ _ _ _ _ _ _ _ _ _
      | exact ih3 _ _ _ _ _ _ _ _ _ _
      | exact ih4 _ _ _ _ _
      | exact ih5 _ _ _ _ _ _ _ _
      | exact credit_Fill.mono _ _ _ _ _ _
      | exact credit_New.mono _ _ _
      | exact credit_Take.mono _ _ _ _ _
      | exact pacemakerlaw25_credited.mono _
      | exact LeO.none _
      | refine LeO.ite ?_ ?_
      | refine LeO.bind ?_ (fun _ => ?_)
    · intro y0 y1 y2 y3 y4 y5 y6 y7
      unfold pacemakerlaw25_CreditHolds.l2
      repeat' first
      | (with_reducible exact ih0 _ _ _ _ _ _)
      | (with_reducible exact ih1 _ _ _ _ _ _ _)
      | (with_reducible exact ih2 _ _ _ _ _ _ _ _ _ _ _)
      | (with_reducible exact ih3 _ _ _ _ _ _ _ _ _ _)
      | (with_reducible exact ih4 _ _ _ _ _)
      | (with_reducible exact ih5 _ _ _ _ _ _ _ _)
      | (with_reducible exact credit_Fill.mono _ _ _ _ _ _)
      | (with_reducible exact credit_New.mono _ _ _)
      | (with_reducible exact credit_Take.mono _ _ _ _ _)
      | (with_reducible exact pacemakerlaw25_credited.mono _)
      | (with_reducible exact LeO.refl _)
      | (with_reducible exact LeO.none _)
      | (with_reducible refine LeO.ite ?_ ?_)
      | (with_reducible refine LeO.bind ?_ (fun _ => ?_))
      | exact ih0 _ _ _ _ _ _
      | exact ih1 _ _ _ _ _ _ _
      | exact ih2 _ _ _ _ _ _ _ _ _ _ _
      | exact ih3 _ _ _ _ _ _ _ _ _ _
      | exact ih4 _ _ _ _ _
      | exact ih5 _ _ _ _ _ _ _ _
      | exact credit_Fill.mono _ _ _ _ _ _
      | exact credit_New.mono _ _ _
      | exact credit_Take.mono _ _ _ _ _
      | exact pacemakerlaw25_credited.mono _
      | exact LeO.none _
      | refine LeO.ite ?_ ?_
      | refine LeO.bind ?_ (fun _ => ?_)
theorem pacemakerlaw25_CreditHolds.mono : ∀ a0 a1 a2 k, LeO (pacemakerlaw25_CreditHolds.f k a0 a1 a2) (pacemakerlaw25_CreditHolds.f (k + 1) a0 a1 a2) := by
  intro a0 a1 a2 k
  obtain ⟨ih0, ih1, ih2, ih3, ih4, ih5⟩ := pacemakerlaw25_CreditHolds.mono_l k
  unfold pacemakerlaw25_CreditHolds.f
  repeat' first
      | (with_reducible exact ih0 _ _ _ _ _ _)
      | (with_reducible exact ih1 _ _ _ _ _ _ _)
      | (with_reducible exact ih2 _ _ _ _ _ _ _ _ _ _ _)
      | (with_reducible exact ih3 _ _ _ _ _ _ _ _ _ _)
      | (with_reducible exact ih4 _ _ _ _ _)
      | (with_reducible exact ih5 _ _ _ _ _ _ _ _)
      | (with_reducible exact credit_Fill.mono _ _ _ _ _ _)
      | (with_reducible exact credit_New.mono _ _ _)
      | (with_reducible exact credit_Take.mono _ _ _ _ _)
      | (with_reducible exact pacemakerlaw25_credited.mono _)
      | (with_reducible exact LeO.refl _)
      | (with_reducible exact LeO.none _)
      | (with_reducible refine LeO.ite ?_ ?_)
      | (with_reducible refine LeO.bind ?_ (fun _ => ?_))
      | exact ih0 _ _ _ _ _ _
      | exact ih1 _ _ _ _ _ _ _
      | exact ih2 _ _ _ _ _ _ _ _ _ _ _
      | exact ih3 _ _ _ _ _ _ _ _ _ _
      | exact ih4 _ _ _ _ _
      | exact ih5 _ _ _ _ _ _ _ _
      | exact credit_Fill.mono _ _ _ _ _ _
      | exact credit_New.mono _ _ _
      | exact credit_Take.mono _ _ _ _ _
      | exact pacemakerlaw25_credited.mono _
      | exact LeO.none _
      | refine LeO.ite ?_ ?_
      | refine LeO.bind ?_ (fun _ => ?_)
set_option maxHeartbeats 8000000 in
set_option maxRecDepth 100000 in
theorem pacemakerlaw25_CreditHolds.calls (k : Nat) (a0 : Int) (a1 : Int) (A2 : Option Addr) (c2 : Nat) (l2 : List (S41)) (r : Bool) (w : World) (hr2 : Kd.C k41 w A2 l2.length l2) (hc2 : l2.length ≤ c2) (h : pacemakerlaw25_CreditHolds.f k a0 a1 l2 = some r) :
    Calls Try.prog 10 #[.int .i64 a0, .int .i64 a1, .slice A2 l2.length c2] w fun e w' => e = .returned (.bool r) ∧ Below w.heap.size w w' := by
  have hu29 := Try.underlying29
  have hu41 := Try.underlying41
  have HR2 := Aside0.mk hr2
  have HC2 := Aside0.mk hc2
  clear hr2 hc2
  have HB := Aside0.mk (Below.refl w.heap.size w)
  have H : ((credit_New.f k a0 a1).bind fun bt101 => (if (l2.length : Int) > 60 then (pacemakerlaw25_CreditHolds.j0 k a0 l2 bt101.2.2 true bt101.1 bt101.2.1) else (pacemakerlaw25_CreditHolds.j0 k a0 l2 bt101.2.2 (bt101.2.2 != 0) bt101.1 bt101.2.1))) = some r := h
  clear h
  replace H := Option.bind_eq_some_iff.mp H
  obtain ⟨⟨t101, t102, t103⟩, A40, H⟩ := H
  replace H : (if (l2.length : Int) > 60 then (pacemakerlaw25_CreditHolds.j0 k a0 l2 t103 true t101 t102) else (pacemakerlaw25_CreditHolds.j0 k a0 l2 t103 (t103 != 0) t101 t102)) = some r := H
  have A4 := Aside0.mk A40
  clear A40
  have HC5 := Aside0.mk H
  clear H
  go_enter Try.func10, Try.ntmps10
  go_upto_region 2 with (first | ((with_reducible refine gate_callee (f := 23) rfl ?_); refine goesL_ (some 24) rfl rfl Try.func23 (by kernel_rfl) rfl #[.int .i64 a0, .int .i64 a1] rfl (by (try simp only [List.map_toArray, List.map_cons, List.map_nil]); first | done | rfl | (simp only [List.length_drop, List.length_take]; rfl)) ?_; (with_reducible refine (credit_New.calls k a0 a1 t101 t102 t103 _ A4.out).mono ?_); rintro e w6 ⟨rfl, hb⟩; refine ⟨_, rfl, ?_⟩; have n0_ := Aside0.mk (below_step (by repeat (first | (with_reducible first | exact HB.out | apply below_alloc | apply pw_below_drewN | apply below_drew1) | exact HB.out)) hb); clear HB; have HB := n0_; clear n0_; (try clear hb); (try clear hb2); (try clear hk); (try clear hi)) | ((with_reducible refine gate_dst (N := 7) rfl ?_); refine box_event ?hg (N := 7) ?hd (cs := #[.int .i64 0, .int .i64 0]) (t := 29) ?hr ?_; (case hd => rfl); (case hg => rfl); (case hr => first | (go_simp; done) | (go_simp; rfl)); intro gb104 hg w7 hbox hb; have n0_ := Aside0.mk (below_step (by repeat (first | (with_reducible first | exact HB.out | apply below_alloc | apply pw_below_drewN | apply below_drew1) | exact HB.out)) hb); have n1_ := Aside0.mk (hbox); have n2_ := Aside0.mk ((by rw [hg]; exact (below_size (by repeat (first | (with_reducible first | exact HB.out | apply below_alloc | apply pw_below_drewN | apply below_drew1) | exact HB.out))) : w.heap.size ≤ gb104)); have n3_ := Aside0.mk ((by rw [hg]; exact (below_size (by repeat (first | (with_reducible first | exact HB.out | apply below_alloc | apply pw_below_drewN | apply below_drew1) | exact HB.out))) : w.heap.size ≤ gb104)); clear HB; have HB := n0_; have BK104 := n1_; have GW104 := n2_; have GE104 := n3_; clear n0_ n1_ n2_ n3_; clear hb hbox hg; have hcz8_0 : w7.cell? ⟨gb104, 0, none⟩ = some (.int .i64 0) := (blk_cell BK104.out 0).trans rfl; have hcz8_1 : w7.cell? ⟨gb104, 1, none⟩ = some (.int .i64 0) := (blk_cell BK104.out 1).trans rfl; have hfz8_0 := blk_frozen BK104.out 0; have hfz8_1 := blk_frozen BK104.out 1))
  (try simp only [Act.put, List.setIfInBounds_toArray, List.set_cons_zero, List.set_cons_succ])
  go_cut [33] (fun v33 wc => ∃ (kq : Nat) (x33_4 : Bool), v33 = .bool x33_4 ∧ Aside0 (pacemakerlaw25_CreditHolds.j0 kq a0 l2 t103 x33_4 t101 t102 = some r) ∧ Aside0 (kq ≤ k) ∧ Aside0 (wc.heap[gb104]? = some (.cells #[.int .i64 t101, .int .i64 t102] 29 (0, 0))) ∧ Aside0 (Below w.heap.size w wc))
  case first =>
    have H := HC5.out
    clear HC5
    by_cases c9 : (l2.length : Int) > 60
    · rw [if_pos c9] at H
      have c9b0 : decide (60 < (l2.length : Int)) = true := decide_eq_true c9
      have c9b1 : decide (60 < l2.length) = true := decide_eq_true (by omega)
      clear c9
      (first | rw [c9b0] | (simp only [i64_w, i32_w]; rw [c9b0]) | skip)
      have H' := Aside0.mk H
      clear H
      go_wp2
      go_meet
      case rel => exact ⟨_, (true), (by first | rfl | (simp; done) | (simp [*]; done)), H', ⟨by first | omega | exact Nat.le_refl _⟩, ⟨by (with_reducible repeat (first | refine blk_drewN ?_ _ | refine blk_drew ?_ | refine blk_alloc ?_ _)); refine blk_put (cs := #[.int .i64 t101, .int .i64 0]) ?_ 1 _ rfl; (with_reducible repeat (first | refine blk_drewN ?_ _ | refine blk_drew ?_ | refine blk_alloc ?_ _)); refine blk_put (cs := #[.int .i64 0, .int .i64 0]) ?_ 0 _ rfl; (with_reducible repeat (first | refine blk_drewN ?_ _ | refine blk_drew ?_ | refine blk_alloc ?_ _)); exact BK104.out⟩, ⟨by repeat (first | (with_reducible first | exact HB.out | apply below_alloc | apply pw_below_drewN | apply below_drew1 | refine below_set ?_ GE104.out) | exact HB.out)⟩⟩
    · rw [if_neg c9] at H
      have c9b0 : decide (60 < (l2.length : Int)) = false := decide_eq_false c9
      have c9b1 : decide (60 < l2.length) = false := decide_eq_false (by omega)
      clear c9
      (first | rw [c9b0] | (simp only [i64_w, i32_w]; rw [c9b0]) | skip)
      have H' := Aside0.mk H
      clear H
      go_wp2
      go_meet
      case rel => exact ⟨_, ((t103 != 0)), (by first | rfl | (simp; done) | (simp [*]; done)), H', ⟨by first | omega | exact Nat.le_refl _⟩, ⟨by (with_reducible repeat (first | refine blk_drewN ?_ _ | refine blk_drew ?_ | refine blk_alloc ?_ _)); refine blk_put (cs := #[.int .i64 t101, .int .i64 0]) ?_ 1 _ rfl; (with_reducible repeat (first | refine blk_drewN ?_ _ | refine blk_drew ?_ | refine blk_alloc ?_ _)); refine blk_put (cs := #[.int .i64 0, .int .i64 0]) ?_ 0 _ rfl; (with_reducible repeat (first | refine blk_drewN ?_ _ | refine blk_drew ?_ | refine blk_alloc ?_ _)); exact BK104.out⟩, ⟨by repeat (first | (with_reducible first | exact HB.out | apply below_alloc | apply pw_below_drewN | apply below_drew1 | refine below_set ?_ GE104.out) | exact HB.out)⟩⟩
  case rest =>
    clear HC5
    try clear c1
    try clear c2
    try clear p2
    try clear c9
    try clear c9b0
    try clear c9b1
    try clear hcz8_0
    try clear hcz8_1
    try clear hfz8_0
    try clear hfz8_1
    obtain ⟨kq, x33_4, rfl, HA, HJ4, BK104, HB⟩ := hcut
    cases kq with
    | zero => exact absurd HA.out (by simp [pacemakerlaw25_CreditHolds.j0])
    | succ kj4 =>
      have H := HA.out
      clear HA
      simp only [pacemakerlaw25_CreditHolds.j0] at H
      by_cases c10 : x33_4 = true
      · subst c10
        have H1 : ((pacemakerlaw25_credited.f kj4).bind fun t105 => (if t105 = true then (if t103 = 0 then (some true) else (some (t101 == 0 && (t102 == 0)))) else (none))) = some r := by rw [if_pos rfl] at H; exact H
        clear H
        have H := H1
        clear H1
        replace H := Option.bind_eq_some_iff.mp H
        obtain ⟨t105, A110, H⟩ := H
        replace H : (if t105 = true then (if t103 = 0 then (some true) else (some (t101 == 0 && (t102 == 0)))) else (none)) = some r := H
        have A11 := Aside0.mk A110
        clear A110
        by_cases c12 : t105 = true
        · subst c12
          have H1 : (if t103 = 0 then (some true) else (some (t101 == 0 && (t102 == 0)))) = some r := by rw [if_pos rfl] at H; exact H
          clear H
          have H := H1
          clear H1
          by_cases c13 : t103 = 0
          · rw [if_pos c13] at H
            have c13b0 : (t103 == 0) = true := beq_iff_eq.mpr c13
            have c13b1 : (t103 != 0) = false := bne_eq_false_iff_eq.mpr c13
            clear c13
            obtain rfl := Option.some.inj H
            go_wp2_with (first | ((with_reducible refine gate_callee (f := 29) rfl ?_); refine goesL_ (some 34) rfl rfl Try.func29 (by kernel_rfl) rfl #[] rfl (by (try simp only [List.map_toArray, List.map_cons, List.map_nil]); first | done | rfl | (simp only [List.length_drop, List.length_take]; rfl)) ?_; (with_reducible refine (pacemakerlaw25_credited.calls kj4  true _ A11.out).mono ?_); rintro e w14 ⟨rfl, hb⟩; refine ⟨_, rfl, ?_⟩; have n0_ := Aside0.mk (blk_below (g := gb104) (o := .cells #[.int .i64 t101, .int .i64 t102] 29 (0, 0)) (by (with_reducible repeat (first | refine blk_drewN ?_ _ | refine blk_drew ?_ | refine blk_alloc ?_ _)); exact BK104.out) hb); have n1_ := Aside0.mk (below_step (by repeat (first | (with_reducible first | exact HB.out | apply below_alloc | apply pw_below_drewN | apply below_drew1 | refine below_set ?_ GE104.out) | exact HB.out)) hb); clear BK104; clear HB; have BK104 := n0_; have HB := n1_; clear n0_ n1_; (try clear hb); (try clear hb2); (try clear hk); (try clear hi)))
            go_ret
            exact ⟨by first | rfl | (simp [errW_none, errW_some] <;> rfl) | (simp [*, errW_none, errW_some] <;> rfl), by repeat (first | (with_reducible first | exact HB.out | apply below_alloc | apply pw_below_drewN | apply below_drew1 | refine below_set ?_ GE104.out) | exact HB.out)⟩
          · rw [if_neg c13] at H
            have c13b0 : (t103 == 0) = false := beq_eq_false_iff_ne.mpr c13
            have c13b1 : (t103 != 0) = true := bne_iff_ne.mpr c13
            obtain rfl := Option.some.inj H
            go_wp2_with (first | ((with_reducible refine gate_callee (f := 29) rfl ?_); refine goesL_ (some 34) rfl rfl Try.func29 (by kernel_rfl) rfl #[] rfl (by (try simp only [List.map_toArray, List.map_cons, List.map_nil]); first | done | rfl | (simp only [List.length_drop, List.length_take]; rfl)) ?_; (with_reducible refine (pacemakerlaw25_credited.calls kj4  true _ A11.out).mono ?_); rintro e w15 ⟨rfl, hb⟩; refine ⟨_, rfl, ?_⟩; have n0_ := Aside0.mk (blk_below (g := gb104) (o := .cells #[.int .i64 t101, .int .i64 t102] 29 (0, 0)) (by (with_reducible repeat (first | refine blk_drewN ?_ _ | refine blk_drew ?_ | refine blk_alloc ?_ _)); exact BK104.out) hb); have n1_ := Aside0.mk (below_step (by repeat (first | (with_reducible first | exact HB.out | apply below_alloc | apply pw_below_drewN | apply below_drew1 | refine below_set ?_ GE104.out) | exact HB.out)) hb); clear BK104; clear HB; have BK104 := n0_; have HB := n1_; clear n0_ n1_; (try clear hb); (try clear hb2); (try clear hk); (try clear hi); have hcz16_0 : w15.cell? ⟨gb104, 0, none⟩ = some (.int .i64 t101) := (blk_cell BK104.out 0).trans rfl; have hcz16_1 : w15.cell? ⟨gb104, 1, none⟩ = some (.int .i64 t102) := (blk_cell BK104.out 1).trans rfl; have hfz16_0 := blk_frozen BK104.out 0; have hfz16_1 := blk_frozen BK104.out 1))
            go_ret
            exact ⟨by first | rfl | (simp [errW_none, errW_some] <;> rfl) | (simp [*, errW_none, errW_some] <;> rfl), by repeat (first | (with_reducible first | exact HB.out | apply below_alloc | apply pw_below_drewN | apply below_drew1 | refine below_set ?_ GE104.out) | exact HB.out)⟩
        · replace c12 := Bool.eq_false_iff.mpr c12
          subst c12
          have H1 : (none) = some r := by rw [if_neg (show ¬ (false = true) by decide)] at H; exact H
          clear H
          have H := H1
          clear H1
          exact absurd H (by simp)
      · replace c10 := Bool.eq_false_iff.mpr c10
        subst c10
        have H1 : (if 0 ≤ (l2.length : Int) then (if ((l2.length : Int) : Int).toNat ≤ 35184372088832 then (pacemakerlaw25_CreditHolds.l0 kj4 a0 l2 (List.replicate ((l2.length : Int) : Int).toNat 0) (List.replicate ((l2.length : Int) : Int).toNat 0) 0 t101 t102) else (none)) else (none)) = some r := by rw [if_neg (show ¬ (false = true) by decide)] at H; exact H
        clear H
        have H := H1
        clear H1
        by_cases c17 : 0 ≤ (l2.length : Int)
        · rw [if_pos c17] at H
          have c17b0 := eq_true c17
          have c17b1 : decide (0 ≤ (l2.length : Int)) = true := decide_eq_true c17
          clear c17
          by_cases c18 : ((l2.length : Int) : Int).toNat ≤ 35184372088832
          · rw [if_pos c18] at H
            have c18b0 := eq_true c18
            have c18b1 : decide (((l2.length : Int) : Int).toNat ≤ 35184372088832) = true := decide_eq_true c18
            clear c18
            obtain ⟨y106, hy106⟩ : ∃ y_ : List Int, y_ = (List.replicate ((l2.length : Int) : Int).toNat 0) := ⟨_, rfl⟩
            replace H : (pacemakerlaw25_CreditHolds.l0 kj4 a0 l2 y106 (List.replicate ((l2.length : Int) : Int).toNat 0) 0 t101 t102) = some r := by first | (rw [hy106]; with_reducible exact H) | (have H2_ := (Option.bind_some _ _).symm.trans H; rw [hy106]; with_reducible exact H2_) | (have H2_ := (Option.bind_some _ _).symm.trans H; with_reducible exact H2_) | with_reducible exact H | (rw [hy106]; exact H) | exact H
            have Ny106 := Aside0.mk hy106
            clear hy106
            obtain ⟨y109, hy109⟩ : ∃ y_ : List Int, y_ = (List.replicate ((l2.length : Int) : Int).toNat 0) := ⟨_, rfl⟩
            replace H : (pacemakerlaw25_CreditHolds.l0 kj4 a0 l2 y106 y109 0 t101 t102) = some r := by first | (rw [hy109]; with_reducible exact H) | (have H2_ := (Option.bind_some _ _).symm.trans H; rw [hy109]; with_reducible exact H2_) | (have H2_ := (Option.bind_some _ _).symm.trans H; with_reducible exact H2_) | with_reducible exact H | (rw [hy109]; exact H) | exact H
            have Ny109 := Aside0.mk hy109
            clear hy109
            have H' := Aside0.mk H
            clear H
            go_wp2_with (first | ((with_reducible refine gate_dst (N := 46) rfl ?_); refine Kd.R_make (Kd.int .i64) _ 3 rfl (N := 46) rfl 39 _ _ rfl (l2.length : Int) rfl rfl Try.underlying39 (.int .i64 0) 8 info3 rfl (by decide) (by omega) 0 (ok := fun _ => True) (okp := fun _ => True) rfl (fun _ hk => hk) trivial (of_decide_eq_true (by first | (with_reducible assumption) | assumption)) (Nat.le_trans (Nat.mul_le_mul_right _ (of_decide_eq_true (by first | (with_reducible assumption) | assumption) : (l2.length : Int).toNat ≤ 35184372088832)) (by omega)) (Below.refl _ _) (Nat.le_refl _) ?_; intro v107 w19 ho20 hb hg_ hnew_; clear hg_ hnew_; (first | rw [← Ny106.out] at ho20 | (simp only [Int.reduceToNat] at ho20; rw [← Ny106.out] at ho20)); have n0_ := Aside0.mk (Kd.R_lower ho20 (below_size (by repeat (first | (with_reducible first | exact HB.out | apply below_alloc | apply pw_below_drewN | apply below_drew1 | refine below_set ?_ GE104.out) | exact HB.out)))); have n1_ := Aside0.mk (blk_below (g := gb104) (o := .cells #[.int .i64 t101, .int .i64 t102] 29 (0, 0)) (by (with_reducible repeat (first | refine blk_drewN ?_ _ | refine blk_drew ?_ | refine blk_alloc ?_ _)); exact BK104.out) hb); have n2_ := Aside0.mk (below_step (by repeat (first | (with_reducible first | exact HB.out | apply below_alloc | apply pw_below_drewN | apply below_drew1 | refine below_set ?_ GE104.out) | exact HB.out)) hb); clear BK104; clear HB; have HO108 := n0_; have BK104 := n1_; have HB := n2_; clear n0_ n1_ n2_; clear hb ho20) | ((with_reducible refine gate_dst (N := 49) rfl ?_); refine Kd.R_make (Kd.int .i64) _ 3 rfl (N := 49) rfl 39 _ _ rfl (l2.length : Int) rfl rfl Try.underlying39 (.int .i64 0) 8 info3 rfl (by decide) (by omega) 0 (ok := fun _ => True) (okp := fun _ => True) rfl (fun _ hk => hk) trivial (of_decide_eq_true (by first | (with_reducible assumption) | assumption)) (Nat.le_trans (Nat.mul_le_mul_right _ (of_decide_eq_true (by first | (with_reducible assumption) | assumption) : (l2.length : Int).toNat ≤ 35184372088832)) (by omega)) (Below.refl _ _) (Nat.le_refl _) ?_; intro v110 w21 ho22 hb hg_ hnew_; clear hg_ hnew_; (first | rw [← Ny109.out] at ho22 | (simp only [Int.reduceToNat] at ho22; rw [← Ny109.out] at ho22)); have n0_ := Aside0.mk (Kd.R_elder' (by (with_reducible repeat (first | apply Kd.R_alloc | apply Kd.R_drewN | apply Kd.R_drew)); exact HO108.out) (Kd.R_base ho22) hb); have n1_ := Aside0.mk (Kd.R_lower (Kd.R_new' ho22 (Kd.R_lt (by (with_reducible repeat (first | apply Kd.R_alloc | apply Kd.R_drewN | apply Kd.R_drew)); exact HO108.out))) (below_size (by repeat (first | (with_reducible first | exact HB.out | apply below_alloc | apply pw_below_drewN | apply below_drew1 | refine below_set ?_ GE104.out) | exact HB.out)))); have n2_ := Aside0.mk (blk_below (g := gb104) (o := .cells #[.int .i64 t101, .int .i64 t102] 29 (0, 0)) (by (with_reducible repeat (first | refine blk_drewN ?_ _ | refine blk_drew ?_ | refine blk_alloc ?_ _)); exact BK104.out) hb); have n3_ := Aside0.mk (below_step (by repeat (first | (with_reducible first | exact HB.out | apply below_alloc | apply pw_below_drewN | apply below_drew1 | refine below_set ?_ GE104.out) | exact HB.out)) hb); clear HO108; clear BK104; clear HB; have HO108 := n0_; have HO111 := n1_; have BK104 := n2_; have HB := n3_; clear n0_ n1_ n2_ n3_; clear hb ho22))
            go_loopg [11] kj4 (fun kq v11 w' => ∃ (x9_2 : List Int) (x10_2 : List Int) (x11_2 : Int) (x105000_2 : Int) (x105001_2 : Int), v11 = .int .i64 x11_2 ∧ Aside0 (pacemakerlaw25_CreditHolds.l0 kq a0 l2 x9_2 x10_2 x11_2 x105000_2 x105001_2 = some r) ∧ Aside0 (kq ≤ kj4) ∧ Aside0 (Kd.R (Kd.int .i64) 3 w' w.heap.size (fun k_ => some k_ ≠ (v110 : Value).ownBlock) v107 x9_2) ∧ Aside0 (Kd.R (Kd.int .i64) 3 w' w.heap.size (fun k_ => some k_ ≠ (v107 : Value).ownBlock) v110 x10_2) ∧ Aside0 (w'.heap[gb104]? = some (.cells #[.int .i64 x105000_2, .int .i64 x105001_2] 29 (0, 0))) ∧ Aside0 (Below w.heap.size w w'))
            case atStart => exact ⟨(y106), (y109), (0), (t101), (t102), (by first | rfl | (simp; done) | (simp [*]; done)), H', ⟨Nat.le_refl _⟩, ⟨by (with_reducible repeat (first | apply Kd.R_alloc | apply Kd.R_drewN | apply Kd.R_drew)); exact Kd.R_mono HO108.out (fun _ hk => hk.2)⟩, ⟨by (with_reducible repeat (first | apply Kd.R_alloc | apply Kd.R_drewN | apply Kd.R_drew)); exact Kd.R_mono HO111.out (fun _ hk => hk.2)⟩, ⟨by (with_reducible repeat (first | refine blk_drewN ?_ _ | refine blk_drew ?_ | refine blk_alloc ?_ _)); exact BK104.out⟩, ⟨by repeat (first | (with_reducible first | exact HB.out | apply below_alloc | apply pw_below_drewN | apply below_drew1 | refine below_set ?_ GE104.out) | exact HB.out)⟩⟩
            case round =>
              clear H'
              try clear c1
              try clear c2
              try clear p2
              try clear c9
              try clear c9b0
              try clear c9b1
              try clear c10
              try clear c12
              try clear c13
              try clear c13b0
              try clear c13b1
              try clear c17
              try clear c17b0
              try clear c17b1
              try clear c18
              try clear c18b0
              try clear c18b1
              try clear hcz16_0
              try clear hcz16_1
              try clear hcz8_0
              try clear hcz8_1
              try clear hfz16_0
              try clear hfz16_1
              try clear hfz8_0
              try clear hfz8_1
              try clear p2
              obtain ⟨x9_2, x10_2, x11_2, x105000_2, x105001_2, rfl, HA, HK2, HO_9, HO_10, BK104, HB⟩ := hrel
              cases gk with
              | zero => exact absurd HA.out (by simp [pacemakerlaw25_CreditHolds.l0])
              | succ k2 =>
                have H := HA.out
                clear HA
                simp only [pacemakerlaw25_CreditHolds.l0] at H
                by_cases c23 : x11_2 < (l2.length : Int)
                · rw [if_pos c23] at H
                  have c23b0 : decide (x11_2 < (l2.length : Int)) = true := decide_eq_true c23
                  clear c23
                  by_cases c24 : 0 ≤ x11_2
                  · rw [if_pos c24] at H
                    have c24b0 : decide (0 ≤ x11_2) = true := decide_eq_true c24
                    clear c24
                    have HC25 := Aside0.mk H
                    clear H
                    have p112 : 0 ≤ (x11_2 : Int) := of_decide_eq_true (by first | (with_reducible assumption) | assumption)
                    have q112 : x11_2 < (l2.length : Int) := of_decide_eq_true (by first | (with_reducible assumption) | assumption)
                    obtain ⟨ad112, e112, hx112_0, hx112_1, hx112_2⟩ := at_T41 HR2.out x11_2 p112 q112
                    cases e112
                    replace hx112_0 := (HB.out.cell (World.block_lt_of_cell? w _ hx112_0)).trans hx112_0
                    replace hx112_1 := (HB.out.cell (World.block_lt_of_cell? w _ hx112_1)).trans hx112_1
                    replace hx112_2 := (HB.out.cell (World.block_lt_of_cell? w _ hx112_2)).trans hx112_2
                    replace p112 := eq_true p112
                    replace q112 := eq_true q112
                    go_upto_region 10 with (first | ((with_reducible refine gate_dst (N := 12) rfl ?_); refine box_event ?hg (N := 12) ?hd (cs := #[.int .i64 0, .int .i64 0, .int .i64 0]) (t := 41) ?hr ?_; (case hd => rfl); (case hg => rfl); (case hr => first | (go_simp; done) | (go_simp; rfl)); intro gb113 hg w26 hbox hb; have n0_ := Aside0.mk (Kd.R_below (by (with_reducible repeat (first | apply Kd.R_alloc | apply Kd.R_drewN | apply Kd.R_drew)); exact HO_9.out) hb); have n1_ := Aside0.mk (Kd.R_below (by (with_reducible repeat (first | apply Kd.R_alloc | apply Kd.R_drewN | apply Kd.R_drew)); exact HO_10.out) hb); have n2_ := Aside0.mk (blk_below (g := gb104) (o := .cells #[.int .i64 x105000_2, .int .i64 x105001_2] 29 (0, 0)) (by (with_reducible repeat (first | refine blk_drewN ?_ _ | refine blk_drew ?_ | refine blk_alloc ?_ _)); exact BK104.out) hb); have n3_ := Aside0.mk (below_step (by repeat (first | (with_reducible first | exact HB.out | apply below_alloc | apply pw_below_drewN | apply below_drew1 | refine below_set ?_ GE104.out) | exact HB.out)) hb); have n4_ := Aside0.mk (hbox); have n5_ := Aside0.mk ((by rw [hg]; exact (below_size (by repeat (first | (with_reducible first | exact HB.out | apply below_alloc | apply pw_below_drewN | apply below_drew1 | refine below_set ?_ GE104.out) | exact HB.out))) : w.heap.size ≤ gb113)); have n6_ := Aside0.mk ((by rw [hg]; exact (below_size (by repeat (first | (with_reducible first | exact HB.out | apply below_alloc | apply pw_below_drewN | apply below_drew1 | refine below_set ?_ GE104.out) | exact HB.out))) : w.heap.size ≤ gb113)); have n7_ := Aside0.mk ((by rw [hg]; exact Nat.ne_of_lt (blk_lt (g := gb104) (o := .cells #[.int .i64 x105000_2, .int .i64 x105001_2] 29 (0, 0)) (by (with_reducible repeat (first | refine blk_drewN ?_ _ | refine blk_drew ?_ | refine blk_alloc ?_ _)); exact BK104.out)) : gb104 ≠ gb113)); have n8_ := Aside0.mk ((by rw [hg]; exact Nat.ne_of_gt (blk_lt (g := gb104) (o := .cells #[.int .i64 x105000_2, .int .i64 x105001_2] 29 (0, 0)) (by (with_reducible repeat (first | refine blk_drewN ?_ _ | refine blk_drew ?_ | refine blk_alloc ?_ _)); exact BK104.out)) : gb113 ≠ gb104)); clear HO_9; clear HO_10; clear BK104; clear HB; have HO_9 := n0_; have HO_10 := n1_; have BK104 := n2_; have HB := n3_; have BK113 := n4_; have GW113 := n5_; have GE113 := n6_; have NB104_113 := n7_; have NB113_104 := n8_; clear n0_ n1_ n2_ n3_ n4_ n5_ n6_ n7_ n8_; clear hb hbox hg; have hnb27 := NB113_104.out; have hnc27 := NB104_113.out; have hcz28_0 : w26.cell? ⟨gb113, 0, none⟩ = some (.int .i64 0) := (blk_cell BK113.out 0).trans rfl; have hcz28_1 : w26.cell? ⟨gb113, 1, none⟩ = some (.int .i64 0) := (blk_cell BK113.out 1).trans rfl; have hcz28_2 : w26.cell? ⟨gb113, 2, none⟩ = some (.int .i64 0) := (blk_cell BK113.out 2).trans rfl; have hfz28_0 := blk_frozen BK113.out 0; have hfz28_1 := blk_frozen BK113.out 1; have hfz28_2 := blk_frozen BK113.out 2))
                    (try simp only [Act.put, List.setIfInBounds_toArray, List.set_cons_zero, List.set_cons_succ])
                    go_cut [67] (fun v67 wc => ∃ (kq : Nat) (x67_24 : Bool), v67 = .bool x67_24 ∧ Aside0 (pacemakerlaw25_CreditHolds.j2 kq a0 l2 x9_2 x10_2 x11_2 x67_24 x105000_2 x105001_2 ((rd_T41 l2 x11_2).f0) ((rd_T41 l2 x11_2).f1) ((rd_T41 l2 x11_2).f2) = some r) ∧ Aside0 (kq ≤ k2) ∧ Aside0 (Kd.R (Kd.int .i64) 3 wc w.heap.size (fun k_ => some k_ ≠ (v110 : Value).ownBlock) v107 x9_2) ∧ Aside0 (Kd.R (Kd.int .i64) 3 wc w.heap.size (fun k_ => some k_ ≠ (v107 : Value).ownBlock) v110 x10_2) ∧ Aside0 (wc.heap[gb104]? = some (.cells #[.int .i64 x105000_2, .int .i64 x105001_2] 29 (0, 0))) ∧ Aside0 (wc.heap[gb113]? = some (.cells #[.int .i64 ((rd_T41 l2 x11_2).f0), .int .i64 ((rd_T41 l2 x11_2).f1), .int .i64 ((rd_T41 l2 x11_2).f2)] 41 (0, 0))) ∧ Aside0 (Below w.heap.size w wc))
                    case first =>
                      have H := HC25.out
                      clear HC25
                      by_cases c29 : ((rd_T41 l2 x11_2).f1) < 0
                      · rw [if_pos c29] at H
                        have c29b0 : decide (((rd_T41 l2 x11_2).f1) < 0) = true := decide_eq_true c29
                        clear c29
                        (first | rw [c29b0] | (simp only [i64_w, i32_w]; rw [c29b0]) | skip)
                        have H' := Aside0.mk H
                        clear H
                        have hnb30 := NB113_104.out
                        have hnc30 := NB104_113.out
                        have hcz31_0 : w26.cell? ⟨gb113, 0, none⟩ = some (.int .i64 0) := (blk_cell BK113.out 0).trans rfl
                        have hcz31_1 : w26.cell? ⟨gb113, 1, none⟩ = some (.int .i64 0) := (blk_cell BK113.out 1).trans rfl
                        have hcz31_2 : w26.cell? ⟨gb113, 2, none⟩ = some (.int .i64 0) := (blk_cell BK113.out 2).trans rfl
                        have hfz31_0 := blk_frozen BK113.out 0
                        have hfz31_1 := blk_frozen BK113.out 1
                        have hfz31_2 := blk_frozen BK113.out 2
                        go_wp2
                        go_meet
                        case rel => exact ⟨_, (true), (by first | rfl | (simp; done) | (simp [*]; done)), H', ⟨by have := HJ4.out; have := HK2.out; first | omega | exact Nat.le_refl _⟩, ⟨by (with_reducible repeat (first | apply Kd.R_alloc | apply Kd.R_drewN | apply Kd.R_drew)); exact Kd.R_mono (Kd.R_far (p := ⟨gb113, 2, none⟩) (Kd.R_far (p := ⟨gb113, 1, none⟩) (Kd.R_far (p := ⟨gb113, 0, none⟩) (Kd.R_types HO_9.out BK113.out (by decide)) (fun _ hk => hk.2) (.int .i64 ((rd_T41 l2 x11_2).f0))) (fun _ hk => hk.2) (.int .i64 ((rd_T41 l2 x11_2).f1))) (fun _ hk => hk.2) (.int .i64 ((rd_T41 l2 x11_2).f2))) (fun _ hk => hk.1)⟩, ⟨by (with_reducible repeat (first | apply Kd.R_alloc | apply Kd.R_drewN | apply Kd.R_drew)); exact Kd.R_mono (Kd.R_far (p := ⟨gb113, 2, none⟩) (Kd.R_far (p := ⟨gb113, 1, none⟩) (Kd.R_far (p := ⟨gb113, 0, none⟩) (Kd.R_types HO_10.out BK113.out (by decide)) (fun _ hk => hk.2) (.int .i64 ((rd_T41 l2 x11_2).f0))) (fun _ hk => hk.2) (.int .i64 ((rd_T41 l2 x11_2).f1))) (fun _ hk => hk.2) (.int .i64 ((rd_T41 l2 x11_2).f2))) (fun _ hk => hk.1)⟩, ⟨by (with_reducible repeat (first | refine blk_drewN ?_ _ | refine blk_drew ?_ | refine blk_alloc ?_ _)); refine blk_far ?_ NB104_113.out _; (with_reducible repeat (first | refine blk_drewN ?_ _ | refine blk_drew ?_ | refine blk_alloc ?_ _)); refine blk_far ?_ NB104_113.out _; (with_reducible repeat (first | refine blk_drewN ?_ _ | refine blk_drew ?_ | refine blk_alloc ?_ _)); refine blk_far ?_ NB104_113.out _; (with_reducible repeat (first | refine blk_drewN ?_ _ | refine blk_drew ?_ | refine blk_alloc ?_ _)); exact BK104.out⟩, ⟨by (with_reducible repeat (first | refine blk_drewN ?_ _ | refine blk_drew ?_ | refine blk_alloc ?_ _)); refine blk_put (cs := #[.int .i64 ((rd_T41 l2 x11_2).f0), .int .i64 ((rd_T41 l2 x11_2).f1), .int .i64 0]) ?_ 2 _ rfl; (with_reducible repeat (first | refine blk_drewN ?_ _ | refine blk_drew ?_ | refine blk_alloc ?_ _)); refine blk_put (cs := #[.int .i64 ((rd_T41 l2 x11_2).f0), .int .i64 0, .int .i64 0]) ?_ 1 _ rfl; (with_reducible repeat (first | refine blk_drewN ?_ _ | refine blk_drew ?_ | refine blk_alloc ?_ _)); refine blk_put (cs := #[.int .i64 0, .int .i64 0, .int .i64 0]) ?_ 0 _ rfl; (with_reducible repeat (first | refine blk_drewN ?_ _ | refine blk_drew ?_ | refine blk_alloc ?_ _)); exact BK113.out⟩, ⟨by repeat (first | (with_reducible first | exact HB.out | apply below_alloc | apply pw_below_drewN | apply below_drew1 | refine below_set ?_ GE104.out | refine below_set ?_ GE113.out) | exact HB.out)⟩⟩
                      · rw [if_neg c29] at H
                        have c29b0 : decide (((rd_T41 l2 x11_2).f1) < 0) = false := decide_eq_false c29
                        clear c29
                        (first | rw [c29b0] | (simp only [i64_w, i32_w]; rw [c29b0]) | skip)
                        have H' := Aside0.mk H
                        clear H
                        have hnb32 := NB113_104.out
                        have hnc32 := NB104_113.out
                        have hcz33_0 : w26.cell? ⟨gb113, 0, none⟩ = some (.int .i64 0) := (blk_cell BK113.out 0).trans rfl
                        have hcz33_1 : w26.cell? ⟨gb113, 1, none⟩ = some (.int .i64 0) := (blk_cell BK113.out 1).trans rfl
                        have hcz33_2 : w26.cell? ⟨gb113, 2, none⟩ = some (.int .i64 0) := (blk_cell BK113.out 2).trans rfl
                        have hfz33_0 := blk_frozen BK113.out 0
                        have hfz33_1 := blk_frozen BK113.out 1
                        have hfz33_2 := blk_frozen BK113.out 2
                        go_wp2
                        go_meet
                        case rel => exact ⟨_, (decide (((rd_T41 l2 x11_2).f1) > 1000000)), (by first | rfl | (simp; done) | (simp [*]; done)), H', ⟨by have := HJ4.out; have := HK2.out; first | omega | exact Nat.le_refl _⟩, ⟨by (with_reducible repeat (first | apply Kd.R_alloc | apply Kd.R_drewN | apply Kd.R_drew)); exact Kd.R_mono (Kd.R_far (p := ⟨gb113, 2, none⟩) (Kd.R_far (p := ⟨gb113, 1, none⟩) (Kd.R_far (p := ⟨gb113, 0, none⟩) (Kd.R_types HO_9.out BK113.out (by decide)) (fun _ hk => hk.2) (.int .i64 ((rd_T41 l2 x11_2).f0))) (fun _ hk => hk.2) (.int .i64 ((rd_T41 l2 x11_2).f1))) (fun _ hk => hk.2) (.int .i64 ((rd_T41 l2 x11_2).f2))) (fun _ hk => hk.1)⟩, ⟨by (with_reducible repeat (first | apply Kd.R_alloc | apply Kd.R_drewN | apply Kd.R_drew)); exact Kd.R_mono (Kd.R_far (p := ⟨gb113, 2, none⟩) (Kd.R_far (p := ⟨gb113, 1, none⟩) (Kd.R_far (p := ⟨gb113, 0, none⟩) (Kd.R_types HO_10.out BK113.out (by decide)) (fun _ hk => hk.2) (.int .i64 ((rd_T41 l2 x11_2).f0))) (fun _ hk => hk.2) (.int .i64 ((rd_T41 l2 x11_2).f1))) (fun _ hk => hk.2) (.int .i64 ((rd_T41 l2 x11_2).f2))) (fun _ hk => hk.1)⟩, ⟨by (with_reducible repeat (first | refine blk_drewN ?_ _ | refine blk_drew ?_ | refine blk_alloc ?_ _)); refine blk_far ?_ NB104_113.out _; (with_reducible repeat (first | refine blk_drewN ?_ _ | refine blk_drew ?_ | refine blk_alloc ?_ _)); refine blk_far ?_ NB104_113.out _; (with_reducible repeat (first | refine blk_drewN ?_ _ | refine blk_drew ?_ | refine blk_alloc ?_ _)); refine blk_far ?_ NB104_113.out _; (with_reducible repeat (first | refine blk_drewN ?_ _ | refine blk_drew ?_ | refine blk_alloc ?_ _)); exact BK104.out⟩, ⟨by (with_reducible repeat (first | refine blk_drewN ?_ _ | refine blk_drew ?_ | refine blk_alloc ?_ _)); refine blk_put (cs := #[.int .i64 ((rd_T41 l2 x11_2).f0), .int .i64 ((rd_T41 l2 x11_2).f1), .int .i64 0]) ?_ 2 _ rfl; (with_reducible repeat (first | refine blk_drewN ?_ _ | refine blk_drew ?_ | refine blk_alloc ?_ _)); refine blk_put (cs := #[.int .i64 ((rd_T41 l2 x11_2).f0), .int .i64 0, .int .i64 0]) ?_ 1 _ rfl; (with_reducible repeat (first | refine blk_drewN ?_ _ | refine blk_drew ?_ | refine blk_alloc ?_ _)); refine blk_put (cs := #[.int .i64 0, .int .i64 0, .int .i64 0]) ?_ 0 _ rfl; (with_reducible repeat (first | refine blk_drewN ?_ _ | refine blk_drew ?_ | refine blk_alloc ?_ _)); exact BK113.out⟩, ⟨by repeat (first | (with_reducible first | exact HB.out | apply below_alloc | apply pw_below_drewN | apply below_drew1 | refine below_set ?_ GE104.out | refine below_set ?_ GE113.out) | exact HB.out)⟩⟩
                    case rest =>
                      clear HC25
                      try clear c1
                      try clear p1
                      try clear q1
                      try clear hx1
                      try clear c2
                      try clear p2
                      try clear c3
                      try clear c9
                      try clear c9b0
                      try clear c9b1
                      try clear c10
                      try clear p11
                      try clear q11
                      try clear hx11
                      try clear c12
                      try clear c13
                      try clear c13b0
                      try clear c13b1
                      try clear c17
                      try clear c17b0
                      try clear c17b1
                      try clear c18
                      try clear c18b0
                      try clear c18b1
                      try clear c23
                      try clear c23b0
                      try clear c24
                      try clear c24b0
                      try clear c27
                      try clear c29
                      try clear c29b0
                      try clear c30
                      try clear c32
                      try clear hcz16_0
                      try clear hcz16_1
                      try clear hcz28_0
                      try clear hcz28_1
                      try clear hcz28_2
                      try clear hcz31_0
                      try clear hcz31_1
                      try clear hcz31_2
                      try clear hcz33_0
                      try clear hcz33_1
                      try clear hcz33_2
                      try clear hcz8_0
                      try clear hcz8_1
                      try clear hfz16_0
                      try clear hfz16_1
                      try clear hfz28_0
                      try clear hfz28_1
                      try clear hfz28_2
                      try clear hfz31_0
                      try clear hfz31_1
                      try clear hfz31_2
                      try clear hfz33_0
                      try clear hfz33_1
                      try clear hfz33_2
                      try clear hfz8_0
                      try clear hfz8_1
                      try clear hx112_0
                      try clear hx112_1
                      try clear hx112_2
                      try clear p112
                      try clear p2
                      try clear q112
                      obtain ⟨kq, x67_24, rfl, HA, HJ24, HO_9, HO_10, BK104, BK113, HB⟩ := hcut
                      cases kq with
                      | zero => exact absurd HA.out (by simp [pacemakerlaw25_CreditHolds.j2])
                      | succ kj24 =>
                        have H := HA.out
                        clear HA
                        simp only [pacemakerlaw25_CreditHolds.j2] at H
                        by_cases c34 : x67_24 = true
                        · subst c34
                          have H1 : ((pacemakerlaw25_credited.f kj24).bind fun t114 => (some t114)) = some r := by rw [if_pos rfl] at H; exact H
                          clear H
                          have H := H1
                          clear H1
                          replace H := Option.bind_eq_some_iff.mp H
                          obtain ⟨t114, A350, H⟩ := H
                          replace H : (some t114) = some r := H
                          have A35 := Aside0.mk A350
                          clear A350
                          obtain rfl := Option.some.inj H
                          go_wp2_with (first | ((with_reducible refine gate_callee (f := 29) rfl ?_); refine goesL_ (some 68) rfl rfl Try.func29 (by kernel_rfl) rfl #[] rfl (by (try simp only [List.map_toArray, List.map_cons, List.map_nil]); first | done | rfl | (simp only [List.length_drop, List.length_take]; rfl)) ?_; (with_reducible refine (pacemakerlaw25_credited.calls kj24  t114 _ A35.out).mono ?_); rintro e w36 ⟨rfl, hb⟩; refine ⟨_, rfl, ?_⟩; have n0_ := Aside0.mk (Kd.R_below (by (with_reducible repeat (first | apply Kd.R_alloc | apply Kd.R_drewN | apply Kd.R_drew)); exact HO_9.out) hb); have n1_ := Aside0.mk (Kd.R_below (by (with_reducible repeat (first | apply Kd.R_alloc | apply Kd.R_drewN | apply Kd.R_drew)); exact HO_10.out) hb); have n2_ := Aside0.mk (blk_below (g := gb104) (o := .cells #[.int .i64 x105000_2, .int .i64 x105001_2] 29 (0, 0)) (by (with_reducible repeat (first | refine blk_drewN ?_ _ | refine blk_drew ?_ | refine blk_alloc ?_ _)); exact BK104.out) hb); have n3_ := Aside0.mk (blk_below (g := gb113) (o := .cells #[.int .i64 ((rd_T41 l2 x11_2).f0), .int .i64 ((rd_T41 l2 x11_2).f1), .int .i64 ((rd_T41 l2 x11_2).f2)] 41 (0, 0)) (by (with_reducible repeat (first | refine blk_drewN ?_ _ | refine blk_drew ?_ | refine blk_alloc ?_ _)); exact BK113.out) hb); have n4_ := Aside0.mk (below_step (by repeat (first | (with_reducible first | exact HB.out | apply below_alloc | apply pw_below_drewN | apply below_drew1 | refine below_set ?_ GE104.out | refine below_set ?_ GE113.out) | exact HB.out)) hb); clear HO_9; clear HO_10; clear BK104; clear BK113; clear HB; have HO_9 := n0_; have HO_10 := n1_; have BK104 := n2_; have BK113 := n3_; have HB := n4_; clear n0_ n1_ n2_ n3_ n4_; (try clear hb); (try clear hb2); (try clear hk); (try clear hi)))
                          go_ret
                          exact ⟨by first | rfl | (simp [errW_none, errW_some] <;> rfl) | (simp [*, errW_none, errW_some] <;> rfl), by repeat (first | (with_reducible first | exact HB.out | apply below_alloc | apply pw_below_drewN | apply below_drew1 | refine below_set ?_ GE104.out | refine below_set ?_ GE113.out) | exact HB.out)⟩
                        · replace c34 := Bool.eq_false_iff.mpr c34
                          subst c34
                          have H1 : ((credit_Fill.f kj24 a0 x105000_2 x105001_2 ((rd_T41 l2 x11_2).f0) (wrap64 (x105000_2 + ((rd_T41 l2 x11_2).f1)))).bind fun bt115 => (if bt115.2.2 = 0 then (if 0 ≤ x11_2 then (if x11_2 < (x9_2.length : Int) then (pacemakerlaw25_CreditHolds.j3 kj24 a0 l2 (x9_2.set (x11_2 : Int).toNat (wrap64 (((rd_T41 l2 x11_2).f0) * ((rd_T41 l2 x11_2).f1)))) x10_2 x11_2 bt115.1 bt115.2.1 ((rd_T41 l2 x11_2).f0) ((rd_T41 l2 x11_2).f1) ((rd_T41 l2 x11_2).f2)) else (none)) else (none)) else (pacemakerlaw25_CreditHolds.j3 kj24 a0 l2 x9_2 x10_2 x11_2 x105000_2 x105001_2 ((rd_T41 l2 x11_2).f0) ((rd_T41 l2 x11_2).f1) ((rd_T41 l2 x11_2).f2)))) = some r := by rw [if_neg (show ¬ (false = true) by decide)] at H; exact H
                          clear H
                          have H := H1
                          clear H1
                          replace H := Option.bind_eq_some_iff.mp H
                          obtain ⟨⟨t115, t116, t117⟩, A370, H⟩ := H
                          replace H : (if t117 = 0 then (if 0 ≤ x11_2 then (if x11_2 < (x9_2.length : Int) then (pacemakerlaw25_CreditHolds.j3 kj24 a0 l2 (x9_2.set (x11_2 : Int).toNat (wrap64 (((rd_T41 l2 x11_2).f0) * ((rd_T41 l2 x11_2).f1)))) x10_2 x11_2 t115 t116 ((rd_T41 l2 x11_2).f0) ((rd_T41 l2 x11_2).f1) ((rd_T41 l2 x11_2).f2)) else (none)) else (none)) else (pacemakerlaw25_CreditHolds.j3 kj24 a0 l2 x9_2 x10_2 x11_2 x105000_2 x105001_2 ((rd_T41 l2 x11_2).f0) ((rd_T41 l2 x11_2).f1) ((rd_T41 l2 x11_2).f2))) = some r := H
                          have A37 := Aside0.mk A370
                          clear A370
                          have HC38 := Aside0.mk H
                          clear H
                          have hnb39 := NB104_113.out
                          have hnc39 := NB113_104.out
                          have hcz40_0 : wc.cell? ⟨gb104, 0, none⟩ = some (.int .i64 x105000_2) := (blk_cell BK104.out 0).trans rfl
                          have hcz40_1 : wc.cell? ⟨gb104, 1, none⟩ = some (.int .i64 x105001_2) := (blk_cell BK104.out 1).trans rfl
                          have hfz40_0 := blk_frozen BK104.out 0
                          have hfz40_1 := blk_frozen BK104.out 1
                          have hcz41_0 : wc.cell? ⟨gb113, 0, none⟩ = some (.int .i64 ((rd_T41 l2 x11_2).f0)) := (blk_cell BK113.out 0).trans rfl
                          have hcz41_1 : wc.cell? ⟨gb113, 1, none⟩ = some (.int .i64 ((rd_T41 l2 x11_2).f1)) := (blk_cell BK113.out 1).trans rfl
                          have hcz41_2 : wc.cell? ⟨gb113, 2, none⟩ = some (.int .i64 ((rd_T41 l2 x11_2).f2)) := (blk_cell BK113.out 2).trans rfl
                          have hfz41_0 := blk_frozen BK113.out 0
                          have hfz41_1 := blk_frozen BK113.out 1
                          have hfz41_2 := blk_frozen BK113.out 2
                          go_upto_if 83 with (first | ((with_reducible refine gate_callee (f := 25) rfl ?_); refine goesL_ (some 79) rfl rfl Try.func25 (by kernel_rfl) rfl #[.int .i64 a0, .agg #[.int .i64 x105000_2, .int .i64 x105001_2], .int .i64 ((rd_T41 l2 x11_2).f0), .int .i64 (wrap64 (x105000_2 + ((rd_T41 l2 x11_2).f1)))] rfl (by (try simp only [List.map_toArray, List.map_cons, List.map_nil]); first | done | rfl | (simp only [List.length_drop, List.length_take]; rfl)) ?_; (with_reducible refine (credit_Fill.calls kj24 a0 x105000_2 x105001_2 ((rd_T41 l2 x11_2).f0) (wrap64 (x105000_2 + ((rd_T41 l2 x11_2).f1))) t115 t116 t117 _ A37.out).mono ?_); rintro e w42 ⟨rfl, hb⟩; refine ⟨_, rfl, ?_⟩; have n0_ := Aside0.mk (Kd.R_below (by (with_reducible repeat (first | apply Kd.R_alloc | apply Kd.R_drewN | apply Kd.R_drew)); exact HO_9.out) hb); have n1_ := Aside0.mk (Kd.R_below (by (with_reducible repeat (first | apply Kd.R_alloc | apply Kd.R_drewN | apply Kd.R_drew)); exact HO_10.out) hb); have n2_ := Aside0.mk (blk_below (g := gb104) (o := .cells #[.int .i64 x105000_2, .int .i64 x105001_2] 29 (0, 0)) (by (with_reducible repeat (first | refine blk_drewN ?_ _ | refine blk_drew ?_ | refine blk_alloc ?_ _)); exact BK104.out) hb); have n3_ := Aside0.mk (blk_below (g := gb113) (o := .cells #[.int .i64 ((rd_T41 l2 x11_2).f0), .int .i64 ((rd_T41 l2 x11_2).f1), .int .i64 ((rd_T41 l2 x11_2).f2)] 41 (0, 0)) (by (with_reducible repeat (first | refine blk_drewN ?_ _ | refine blk_drew ?_ | refine blk_alloc ?_ _)); exact BK113.out) hb); have n4_ := Aside0.mk (below_step (by repeat (first | (with_reducible first | exact HB.out | apply below_alloc | apply pw_below_drewN | apply below_drew1 | refine below_set ?_ GE104.out | refine below_set ?_ GE113.out) | exact HB.out)) hb); clear HO_9; clear HO_10; clear BK104; clear BK113; clear HB; have HO_9 := n0_; have HO_10 := n1_; have BK104 := n2_; have BK113 := n3_; have HB := n4_; clear n0_ n1_ n2_ n3_ n4_; (try clear hb); (try clear hb2); (try clear hk); (try clear hi)) | ((with_reducible refine gate_dst (N := 13) rfl ?_); refine box_event ?hg (N := 13) ?hd (cs := #[.int .i64 0, .int .i64 0]) (t := 29) ?hr ?_; (case hd => rfl); (case hg => rfl); (case hr => first | (go_simp; done) | (go_simp; rfl)); intro gb118 hg w43 hbox hb; have n0_ := Aside0.mk (Kd.R_below (by (with_reducible repeat (first | apply Kd.R_alloc | apply Kd.R_drewN | apply Kd.R_drew)); exact HO_9.out) hb); have n1_ := Aside0.mk (Kd.R_below (by (with_reducible repeat (first | apply Kd.R_alloc | apply Kd.R_drewN | apply Kd.R_drew)); exact HO_10.out) hb); have n2_ := Aside0.mk (blk_below (g := gb104) (o := .cells #[.int .i64 x105000_2, .int .i64 x105001_2] 29 (0, 0)) (by (with_reducible repeat (first | refine blk_drewN ?_ _ | refine blk_drew ?_ | refine blk_alloc ?_ _)); exact BK104.out) hb); have n3_ := Aside0.mk (blk_below (g := gb113) (o := .cells #[.int .i64 ((rd_T41 l2 x11_2).f0), .int .i64 ((rd_T41 l2 x11_2).f1), .int .i64 ((rd_T41 l2 x11_2).f2)] 41 (0, 0)) (by (with_reducible repeat (first | refine blk_drewN ?_ _ | refine blk_drew ?_ | refine blk_alloc ?_ _)); exact BK113.out) hb); have n4_ := Aside0.mk (below_step (by repeat (first | (with_reducible first | exact HB.out | apply below_alloc | apply pw_below_drewN | apply below_drew1 | refine below_set ?_ GE104.out | refine below_set ?_ GE113.out) | exact HB.out)) hb); have n5_ := Aside0.mk (hbox); have n6_ := Aside0.mk ((by rw [hg]; exact (below_size (by repeat (first | (with_reducible first | exact HB.out | apply below_alloc | apply pw_below_drewN | apply below_drew1 | refine below_set ?_ GE104.out | refine below_set ?_ GE113.out) | exact HB.out))) : w.heap.size ≤ gb118)); have n7_ := Aside0.mk ((by rw [hg]; exact (below_size (by repeat (first | (with_reducible first | exact HB.out | apply below_alloc | apply pw_below_drewN | apply below_drew1 | refine below_set ?_ GE104.out | refine below_set ?_ GE113.out) | exact HB.out))) : w.heap.size ≤ gb118)); have n8_ := Aside0.mk ((by rw [hg]; exact Nat.ne_of_lt (blk_lt (g := gb104) (o := .cells #[.int .i64 x105000_2, .int .i64 x105001_2] 29 (0, 0)) (by (with_reducible repeat (first | refine blk_drewN ?_ _ | refine blk_drew ?_ | refine blk_alloc ?_ _)); exact BK104.out)) : gb104 ≠ gb118)); have n9_ := Aside0.mk ((by rw [hg]; exact Nat.ne_of_gt (blk_lt (g := gb104) (o := .cells #[.int .i64 x105000_2, .int .i64 x105001_2] 29 (0, 0)) (by (with_reducible repeat (first | refine blk_drewN ?_ _ | refine blk_drew ?_ | refine blk_alloc ?_ _)); exact BK104.out)) : gb118 ≠ gb104)); have n10_ := Aside0.mk ((by rw [hg]; exact Nat.ne_of_lt (blk_lt (g := gb113) (o := .cells #[.int .i64 ((rd_T41 l2 x11_2).f0), .int .i64 ((rd_T41 l2 x11_2).f1), .int .i64 ((rd_T41 l2 x11_2).f2)] 41 (0, 0)) (by (with_reducible repeat (first | refine blk_drewN ?_ _ | refine blk_drew ?_ | refine blk_alloc ?_ _)); exact BK113.out)) : gb113 ≠ gb118)); have n11_ := Aside0.mk ((by rw [hg]; exact Nat.ne_of_gt (blk_lt (g := gb113) (o := .cells #[.int .i64 ((rd_T41 l2 x11_2).f0), .int .i64 ((rd_T41 l2 x11_2).f1), .int .i64 ((rd_T41 l2 x11_2).f2)] 41 (0, 0)) (by (with_reducible repeat (first | refine blk_drewN ?_ _ | refine blk_drew ?_ | refine blk_alloc ?_ _)); exact BK113.out)) : gb118 ≠ gb113)); clear HO_9; clear HO_10; clear BK104; clear BK113; clear HB; have HO_9 := n0_; have HO_10 := n1_; have BK104 := n2_; have BK113 := n3_; have HB := n4_; have BK118 := n5_; have GW118 := n6_; have GE118 := n7_; have NB104_118 := n8_; have NB118_104 := n9_; have NB113_118 := n10_; have NB118_113 := n11_; clear n0_ n1_ n2_ n3_ n4_ n5_ n6_ n7_ n8_ n9_ n10_ n11_; clear hb hbox hg; have hnb44 := NB118_104.out; have hnc44 := NB104_118.out; have hnb45 := NB118_113.out; have hnc45 := NB113_118.out; have hcz46_0 : w43.cell? ⟨gb118, 0, none⟩ = some (.int .i64 0) := (blk_cell BK118.out 0).trans rfl; have hcz46_1 : w43.cell? ⟨gb118, 1, none⟩ = some (.int .i64 0) := (blk_cell BK118.out 1).trans rfl; have hfz46_0 := blk_frozen BK118.out 0; have hfz46_1 := blk_frozen BK118.out 1))
                          (try simp only [Act.put, List.setIfInBounds_toArray, List.set_cons_zero, List.set_cons_succ])
                          go_cut [] (fun wc => ∃ (kq : Nat) (x9_37 : List Int) (x105000_37 : Int) (x105001_37 : Int), Aside0 (pacemakerlaw25_CreditHolds.j3 kq a0 l2 x9_37 x10_2 x11_2 x105000_37 x105001_37 ((rd_T41 l2 x11_2).f0) ((rd_T41 l2 x11_2).f1) ((rd_T41 l2 x11_2).f2) = some r) ∧ Aside0 (kq ≤ kj24) ∧ Aside0 (Kd.R (Kd.int .i64) 3 wc w.heap.size (fun k_ => some k_ ≠ (v110 : Value).ownBlock) v107 x9_37) ∧ Aside0 (Kd.R (Kd.int .i64) 3 wc w.heap.size (fun k_ => some k_ ≠ (v107 : Value).ownBlock) v110 x10_2) ∧ Aside0 (wc.heap[gb104]? = some (.cells #[.int .i64 x105000_37, .int .i64 x105001_37] 29 (0, 0))) ∧ Aside0 (wc.heap[gb113]? = some (.cells #[.int .i64 ((rd_T41 l2 x11_2).f0), .int .i64 ((rd_T41 l2 x11_2).f1), .int .i64 ((rd_T41 l2 x11_2).f2)] 41 (0, 0))) ∧ Aside0 (wc.heap[gb118]? = some (.cells #[.int .i64 t115, .int .i64 t116] 29 (0, 0))) ∧ Aside0 (Below w.heap.size w wc))
                          case first =>
                            have H := HC38.out
                            clear HC38
                            by_cases c47 : t117 = 0
                            · rw [if_pos c47] at H
                              have c47b0 : (t117 == 0) = true := beq_iff_eq.mpr c47
                              have c47b1 : (t117 != 0) = false := bne_eq_false_iff_eq.mpr c47
                              clear c47
                              (first | rw [c47b0] | (simp only [i64_w, i32_w]; rw [c47b0]) | skip)
                              by_cases c48 : 0 ≤ x11_2
                              · rw [if_pos c48] at H
                                have c48b0 : decide (0 ≤ x11_2) = true := decide_eq_true c48
                                clear c48
                                by_cases c49 : x11_2 < (x9_2.length : Int)
                                · rw [if_pos c49] at H
                                  have c49b0 : decide (x11_2 < (x9_2.length : Int)) = true := decide_eq_true c49
                                  clear c49
                                  obtain ⟨y119, hy119⟩ : ∃ y_ : List Int, y_ = (x9_2.set (x11_2 : Int).toNat (wrap64 (((rd_T41 l2 x11_2).f0) * ((rd_T41 l2 x11_2).f1)))) := ⟨_, rfl⟩
                                  replace H : (pacemakerlaw25_CreditHolds.j3 kj24 a0 l2 y119 x10_2 x11_2 t115 t116 ((rd_T41 l2 x11_2).f0) ((rd_T41 l2 x11_2).f1) ((rd_T41 l2 x11_2).f2)) = some r := by first | (rw [hy119]; with_reducible exact H) | (have H2_ := (Option.bind_some _ _).symm.trans H; rw [hy119]; with_reducible exact H2_) | (have H2_ := (Option.bind_some _ _).symm.trans H; with_reducible exact H2_) | with_reducible exact H | (rw [hy119]; exact H) | exact H
                                  have Ny119 := Aside0.mk hy119
                                  clear hy119
                                  have H' := Aside0.mk H
                                  clear H
                                  have hnb51 := NB118_104.out
                                  have hnc51 := NB104_118.out
                                  have hnb52 := NB118_113.out
                                  have hnc52 := NB113_118.out
                                  have hcz53_0 : w43.cell? ⟨gb118, 0, none⟩ = some (.int .i64 0) := (blk_cell BK118.out 0).trans rfl
                                  have hcz53_1 : w43.cell? ⟨gb118, 1, none⟩ = some (.int .i64 0) := (blk_cell BK118.out 1).trans rfl
                                  have hfz53_0 := blk_frozen BK118.out 0
                                  have hfz53_1 := blk_frozen BK118.out 1
                                  have hnb54 := NB104_113.out
                                  have hnc54 := NB113_104.out
                                  have hcz55_0 : w43.cell? ⟨gb104, 0, none⟩ = some (.int .i64 x105000_2) := (blk_cell BK104.out 0).trans rfl
                                  have hcz55_1 : w43.cell? ⟨gb104, 1, none⟩ = some (.int .i64 x105001_2) := (blk_cell BK104.out 1).trans rfl
                                  have hfz55_0 := blk_frozen BK104.out 0
                                  have hfz55_1 := blk_frozen BK104.out 1
                                  go_wp2_with (first | ((with_reducible refine gate_store (t := 29) (p := 7) rfl ?_); refine store_event (t := 29) (p := 7) (v := ?vo_w56) (w1 := ((((w43.setCell ⟨gb118, 0, none⟩ (.int .i64 t115)).setCell ⟨gb118, 1, none⟩ (.int .i64 t116)).setCell ⟨gb104, 0, none⟩ (.int .i64 t115)).setCell ⟨gb104, 1, none⟩ (.int .i64 t116))) ?hg ?ho ?hn ?hr ?_; (case ho => rfl); (case hg => rfl); (case hn => rfl); (case hr => first | (go_simp; done) | (go_simp; rfl)); intro w56 hw; have n0_ : Aside0 (Kd.R (Kd.int .i64) 3 w56 w.heap.size (fun k_ => some k_ ≠ (v110 : Value).ownBlock) v107 x9_2) := ⟨(by rw [hw]; exact (by (with_reducible repeat (first | apply Kd.R_alloc | apply Kd.R_drewN | apply Kd.R_drew)); exact Kd.R_mono (Kd.R_far (p := ⟨gb104, 1, none⟩) (Kd.R_far (p := ⟨gb104, 0, none⟩) (Kd.R_far (p := ⟨gb118, 1, none⟩) (Kd.R_far (p := ⟨gb118, 0, none⟩) (Kd.R_types (Kd.R_types HO_9.out BK118.out (by decide)) BK104.out (by decide)) (fun _ hk => hk.1.2) (.int .i64 t115)) (fun _ hk => hk.1.2) (.int .i64 t116)) (fun _ hk => hk.2) (.int .i64 t115)) (fun _ hk => hk.2) (.int .i64 t116)) (fun _ hk => hk.1.1)))⟩; have n1_ : Aside0 (Kd.R (Kd.int .i64) 3 w56 w.heap.size (fun k_ => some k_ ≠ (v107 : Value).ownBlock) v110 x10_2) := ⟨(by rw [hw]; exact (by (with_reducible repeat (first | apply Kd.R_alloc | apply Kd.R_drewN | apply Kd.R_drew)); exact Kd.R_mono (Kd.R_far (p := ⟨gb104, 1, none⟩) (Kd.R_far (p := ⟨gb104, 0, none⟩) (Kd.R_far (p := ⟨gb118, 1, none⟩) (Kd.R_far (p := ⟨gb118, 0, none⟩) (Kd.R_types (Kd.R_types HO_10.out BK118.out (by decide)) BK104.out (by decide)) (fun _ hk => hk.1.2) (.int .i64 t115)) (fun _ hk => hk.1.2) (.int .i64 t116)) (fun _ hk => hk.2) (.int .i64 t115)) (fun _ hk => hk.2) (.int .i64 t116)) (fun _ hk => hk.1.1)))⟩; have n2_ : Aside0 (w56.heap[gb104]? = some (.cells #[.int .i64 t115, .int .i64 t116] 29 (0, 0))) := ⟨(by rw [hw]; exact (by (with_reducible repeat (first | refine blk_drewN ?_ _ | refine blk_drew ?_ | refine blk_alloc ?_ _)); refine blk_put (cs := #[.int .i64 t115, .int .i64 x105001_2]) ?_ 1 _ rfl; (with_reducible repeat (first | refine blk_drewN ?_ _ | refine blk_drew ?_ | refine blk_alloc ?_ _)); refine blk_put (cs := #[.int .i64 x105000_2, .int .i64 x105001_2]) ?_ 0 _ rfl; (with_reducible repeat (first | refine blk_drewN ?_ _ | refine blk_drew ?_ | refine blk_alloc ?_ _)); refine blk_far ?_ NB104_118.out _; (with_reducible repeat (first | refine blk_drewN ?_ _ | refine blk_drew ?_ | refine blk_alloc ?_ _)); refine blk_far ?_ NB104_118.out _; (with_reducible repeat (first | refine blk_drewN ?_ _ | refine blk_drew ?_ | refine blk_alloc ?_ _)); exact BK104.out))⟩; have n3_ : Aside0 (w56.heap[gb113]? = some (.cells #[.int .i64 ((rd_T41 l2 x11_2).f0), .int .i64 ((rd_T41 l2 x11_2).f1), .int .i64 ((rd_T41 l2 x11_2).f2)] 41 (0, 0))) := ⟨(by rw [hw]; exact (by (with_reducible repeat (first | refine blk_drewN ?_ _ | refine blk_drew ?_ | refine blk_alloc ?_ _)); refine blk_far ?_ NB113_104.out _; (with_reducible repeat (first | refine blk_drewN ?_ _ | refine blk_drew ?_ | refine blk_alloc ?_ _)); refine blk_far ?_ NB113_104.out _; (with_reducible repeat (first | refine blk_drewN ?_ _ | refine blk_drew ?_ | refine blk_alloc ?_ _)); refine blk_far ?_ NB113_118.out _; (with_reducible repeat (first | refine blk_drewN ?_ _ | refine blk_drew ?_ | refine blk_alloc ?_ _)); refine blk_far ?_ NB113_118.out _; (with_reducible repeat (first | refine blk_drewN ?_ _ | refine blk_drew ?_ | refine blk_alloc ?_ _)); exact BK113.out))⟩; have n4_ : Aside0 (w56.heap[gb118]? = some (.cells #[.int .i64 t115, .int .i64 t116] 29 (0, 0))) := ⟨(by rw [hw]; exact (by (with_reducible repeat (first | refine blk_drewN ?_ _ | refine blk_drew ?_ | refine blk_alloc ?_ _)); refine blk_far ?_ NB118_104.out _; (with_reducible repeat (first | refine blk_drewN ?_ _ | refine blk_drew ?_ | refine blk_alloc ?_ _)); refine blk_far ?_ NB118_104.out _; (with_reducible repeat (first | refine blk_drewN ?_ _ | refine blk_drew ?_ | refine blk_alloc ?_ _)); refine blk_put (cs := #[.int .i64 t115, .int .i64 0]) ?_ 1 _ rfl; (with_reducible repeat (first | refine blk_drewN ?_ _ | refine blk_drew ?_ | refine blk_alloc ?_ _)); refine blk_put (cs := #[.int .i64 0, .int .i64 0]) ?_ 0 _ rfl; (with_reducible repeat (first | refine blk_drewN ?_ _ | refine blk_drew ?_ | refine blk_alloc ?_ _)); exact BK118.out))⟩; have n5_ : Aside0 (Below w.heap.size w w56) := ⟨(by rw [hw]; exact (by repeat (first | (with_reducible first | exact HB.out | apply below_alloc | apply pw_below_drewN | apply below_drew1 | refine below_set ?_ GE104.out | refine below_set ?_ GE113.out | refine below_set ?_ GE118.out) | exact HB.out)))⟩; clear hw; clear HO_9; clear HO_10; clear BK104; clear BK113; clear BK118; clear HB; have HO_9 := n0_; have HO_10 := n1_; have BK104 := n2_; have BK113 := n3_; have BK118 := n4_; have HB := n5_; clear n0_ n1_ n2_ n3_ n4_ n5_; have hcz57_0 : w56.cell? ⟨gb113, 0, none⟩ = some (.int .i64 ((rd_T41 l2 x11_2).f0)) := (blk_cell BK113.out 0).trans rfl; have hcz57_1 : w56.cell? ⟨gb113, 1, none⟩ = some (.int .i64 ((rd_T41 l2 x11_2).f1)) := (blk_cell BK113.out 1).trans rfl; have hcz57_2 : w56.cell? ⟨gb113, 2, none⟩ = some (.int .i64 ((rd_T41 l2 x11_2).f2)) := (blk_cell BK113.out 2).trans rfl; have hfz57_0 := blk_frozen BK113.out 0; have hfz57_1 := blk_frozen BK113.out 1; have hfz57_2 := blk_frozen BK113.out 2; have p50 : 0 ≤ (x11_2 : Int) := of_decide_eq_true (by first | (with_reducible assumption) | assumption); have q50 : (x11_2 : Int) < ((x9_2.length : Int) : Int) := of_decide_eq_true (by first | (with_reducible assumption) | assumption); obtain ⟨go50, co50, eo50, gb50, gl50, cl50, HG50⟩ := Kd.R_form HO_9.out (by omega); (first | cases eo50 | (injection eo50 with ea_ en_ ec_; (first | subst ea_ | (injection ea_ with ea_; subst ea_)); subst ec_; clear en_)); have GB50 := Aside0.mk gb50; have GG50 := Aside0.mk HG50; clear gb50 gl50 HG50; obtain ⟨hx50_0, hf50_0⟩ := Kd.R_celln 0 HO_9.out (x11_2 : Int) p50 q50; replace p50 := eq_true p50; replace q50 := eq_true q50; obtain ⟨hy58_, hz58_⟩ := Kd.R_celln 0 HO_9.out (x11_2 : Int) (of_decide_eq_true (by first | (with_reducible assumption) | assumption)) (of_decide_eq_true (by first | (with_reducible assumption) | assumption)); have HP58 := Kd.R_putg HO_9.out (x11_2 : Int) (wrap64 (((rd_T41 l2 x11_2).f0) * ((rd_T41 l2 x11_2).f1)))) | ((with_reducible refine gate_store (t := 3) (p := 92) rfl ?_); refine store_event (t := 3) (p := 92) (v := ?vo_w59) (w1 := (w56.setCell ⟨go50, (x11_2 : Int).toNat, none⟩ (.int .i64 (wrap64 (((rd_T41 l2 x11_2).f0) * ((rd_T41 l2 x11_2).f1)))))) ?hg ?ho ?hn ?hr ?_; (case ho => rfl); (case hg => rfl); (case hn => rfl); (case hr => first | (go_simp; done) | (go_simp; rfl)); intro w59 hw; have hg : w56.grownBy w59 (some go50) := (by rw [hw]; exact HP58.2); have hp_ : Kd.R (Kd.int .i64) 3 w59 w.heap.size (fun k_ => some k_ ≠ (v110 : Value).ownBlock) (.slice (some ⟨go50, 0, none⟩) x9_2.length co50) y119 := (by rw [hw, Ny119.out]; exact HP58.1); clear HP58; have n0_ := Aside0.mk (hp_); have n1_ := Aside0.mk (Kd.R_after (v := (.slice (some ⟨go50, 0, none⟩) x9_2.length co50)) (v1 := (.slice (some ⟨go50, 0, none⟩) x9_2.length co50)) (ok := (fun _ => True)) (by (with_reducible repeat (first | apply Kd.R_alloc | apply Kd.R_drewN | apply Kd.R_drew)); exact Kd.R_mono HO_10.out (fun _ hk => ⟨trivial, hk⟩)) hg (.inl rfl)); have n2_ := Aside0.mk (blk_grown (g := gb104) (o := .cells #[.int .i64 t115, .int .i64 t116] 29 (0, 0)) (by (with_reducible repeat (first | refine blk_drewN ?_ _ | refine blk_drew ?_ | refine blk_alloc ?_ _)); exact BK104.out) hg (Kd.R_ne HO_9.out BK104.out (by decide))); have n3_ := Aside0.mk (blk_grown (g := gb113) (o := .cells #[.int .i64 ((rd_T41 l2 x11_2).f0), .int .i64 ((rd_T41 l2 x11_2).f1), .int .i64 ((rd_T41 l2 x11_2).f2)] 41 (0, 0)) (by (with_reducible repeat (first | refine blk_drewN ?_ _ | refine blk_drew ?_ | refine blk_alloc ?_ _)); exact BK113.out) hg (Kd.R_ne HO_9.out BK113.out (by decide))); have n4_ := Aside0.mk (blk_grown (g := gb118) (o := .cells #[.int .i64 t115, .int .i64 t116] 29 (0, 0)) (by (with_reducible repeat (first | refine blk_drewN ?_ _ | refine blk_drew ?_ | refine blk_alloc ?_ _)); exact BK118.out) hg (Kd.R_ne HO_9.out BK118.out (by decide))); have n5_ := Aside0.mk ((by rw [hw]; exact below_set (HB.out) GB50.out : Below w.heap.size w w59)); clear HO_9; clear HO_10; clear BK104; clear BK113; clear BK118; clear HB; have HO_9 := n0_; have HO_10 := n1_; have BK104 := n2_; have BK113 := n3_; have BK118 := n4_; have HB := n5_; clear n0_ n1_ n2_ n3_ n4_ n5_; clear hg hw hp_))
                                  go_meet
                                  case rel => exact ⟨_, (y119), (t115), (t116), H', ⟨by have := HJ4.out; have := HK2.out; have := HJ24.out; first | omega | exact Nat.le_refl _⟩, ⟨by (with_reducible repeat (first | apply Kd.R_alloc | apply Kd.R_drewN | apply Kd.R_drew)); exact HO_9.out⟩, ⟨by (with_reducible repeat (first | apply Kd.R_alloc | apply Kd.R_drewN | apply Kd.R_drew)); exact Kd.R_mono HO_10.out (fun _ hk => hk.2)⟩, ⟨by (with_reducible repeat (first | refine blk_drewN ?_ _ | refine blk_drew ?_ | refine blk_alloc ?_ _)); exact BK104.out⟩, ⟨by (with_reducible repeat (first | refine blk_drewN ?_ _ | refine blk_drew ?_ | refine blk_alloc ?_ _)); exact BK113.out⟩, ⟨by (with_reducible repeat (first | refine blk_drewN ?_ _ | refine blk_drew ?_ | refine blk_alloc ?_ _)); exact BK118.out⟩, ⟨by repeat (first | (with_reducible first | exact HB.out | apply below_alloc | apply pw_below_drewN | apply below_drew1 | refine below_set ?_ GE104.out | refine below_set ?_ GE113.out | refine below_set ?_ GE118.out) | exact HB.out)⟩⟩
                                · rw [if_neg c49] at H
                                  exact absurd H (by simp)
                              · rw [if_neg c48] at H
                                exact absurd H (by simp)
                            · rw [if_neg c47] at H
                              have c47b0 : (t117 == 0) = false := beq_eq_false_iff_ne.mpr c47
                              have c47b1 : (t117 != 0) = true := bne_iff_ne.mpr c47
                              (first | rw [c47b0] | (simp only [i64_w, i32_w]; rw [c47b0]) | skip)
                              have H' := Aside0.mk H
                              clear H
                              go_wp2
                              go_meet
                              case rel => exact ⟨_, (x9_2), (x105000_2), (x105001_2), H', ⟨by have := HJ4.out; have := HK2.out; have := HJ24.out; first | omega | exact Nat.le_refl _⟩, ⟨by (with_reducible repeat (first | apply Kd.R_alloc | apply Kd.R_drewN | apply Kd.R_drew)); exact Kd.R_mono (Kd.R_far (p := ⟨gb118, 1, none⟩) (Kd.R_far (p := ⟨gb118, 0, none⟩) (Kd.R_types HO_9.out BK118.out (by decide)) (fun _ hk => hk.2) (.int .i64 t115)) (fun _ hk => hk.2) (.int .i64 t116)) (fun _ hk => hk.1)⟩, ⟨by (with_reducible repeat (first | apply Kd.R_alloc | apply Kd.R_drewN | apply Kd.R_drew)); exact Kd.R_mono (Kd.R_far (p := ⟨gb118, 1, none⟩) (Kd.R_far (p := ⟨gb118, 0, none⟩) (Kd.R_types HO_10.out BK118.out (by decide)) (fun _ hk => hk.2) (.int .i64 t115)) (fun _ hk => hk.2) (.int .i64 t116)) (fun _ hk => hk.1)⟩, ⟨by (with_reducible repeat (first | refine blk_drewN ?_ _ | refine blk_drew ?_ | refine blk_alloc ?_ _)); refine blk_far ?_ NB104_118.out _; (with_reducible repeat (first | refine blk_drewN ?_ _ | refine blk_drew ?_ | refine blk_alloc ?_ _)); refine blk_far ?_ NB104_118.out _; (with_reducible repeat (first | refine blk_drewN ?_ _ | refine blk_drew ?_ | refine blk_alloc ?_ _)); exact BK104.out⟩, ⟨by (with_reducible repeat (first | refine blk_drewN ?_ _ | refine blk_drew ?_ | refine blk_alloc ?_ _)); refine blk_far ?_ NB113_118.out _; (with_reducible repeat (first | refine blk_drewN ?_ _ | refine blk_drew ?_ | refine blk_alloc ?_ _)); refine blk_far ?_ NB113_118.out _; (with_reducible repeat (first | refine blk_drewN ?_ _ | refine blk_drew ?_ | refine blk_alloc ?_ _)); exact BK113.out⟩, ⟨by (with_reducible repeat (first | refine blk_drewN ?_ _ | refine blk_drew ?_ | refine blk_alloc ?_ _)); refine blk_put (cs := #[.int .i64 t115, .int .i64 0]) ?_ 1 _ rfl; (with_reducible repeat (first | refine blk_drewN ?_ _ | refine blk_drew ?_ | refine blk_alloc ?_ _)); refine blk_put (cs := #[.int .i64 0, .int .i64 0]) ?_ 0 _ rfl; (with_reducible repeat (first | refine blk_drewN ?_ _ | refine blk_drew ?_ | refine blk_alloc ?_ _)); exact BK118.out⟩, ⟨by repeat (first | (with_reducible first | exact HB.out | apply below_alloc | apply pw_below_drewN | apply below_drew1 | refine below_set ?_ GE104.out | refine below_set ?_ GE113.out | refine below_set ?_ GE118.out) | exact HB.out)⟩⟩
                          case rest =>
                            clear HC38
                            try clear c1
                            try clear p1
                            try clear q1
                            try clear hx1
                            try clear c2
                            try clear p2
                            try clear c3
                            try clear c4
                            try clear c5
                            try clear p5
                            try clear q5
                            try clear hx5
                            try clear hf5
                            try clear p6
                            try clear c9
                            try clear c9b0
                            try clear c9b1
                            try clear c10
                            try clear p11
                            try clear q11
                            try clear hx11
                            try clear c12
                            try clear c13
                            try clear c13b0
                            try clear c13b1
                            try clear c17
                            try clear c17b0
                            try clear c17b1
                            try clear c18
                            try clear c18b0
                            try clear c18b1
                            try clear c23
                            try clear c23b0
                            try clear c24
                            try clear c24b0
                            try clear c25
                            try clear c27
                            try clear c29
                            try clear c29b0
                            try clear c30
                            try clear c32
                            try clear c34
                            try clear c39
                            try clear c44
                            try clear c45
                            try clear c47
                            try clear c47b0
                            try clear c47b1
                            try clear c48
                            try clear c48b0
                            try clear c49
                            try clear c49b0
                            try clear p50
                            try clear q50
                            try clear hx50
                            try clear hf50
                            try clear c51
                            try clear c52
                            try clear c54
                            try clear hcz16_0
                            try clear hcz16_1
                            try clear hcz28_0
                            try clear hcz28_1
                            try clear hcz28_2
                            try clear hcz31_0
                            try clear hcz31_1
                            try clear hcz31_2
                            try clear hcz33_0
                            try clear hcz33_1
                            try clear hcz33_2
                            try clear hcz40_0
                            try clear hcz40_1
                            try clear hcz41_0
                            try clear hcz41_1
                            try clear hcz41_2
                            try clear hcz46_0
                            try clear hcz46_1
                            try clear hcz53_0
                            try clear hcz53_1
                            try clear hcz55_0
                            try clear hcz55_1
                            try clear hcz57_0
                            try clear hcz57_1
                            try clear hcz57_2
                            try clear hcz8_0
                            try clear hcz8_1
                            try clear hfz16_0
                            try clear hfz16_1
                            try clear hfz28_0
                            try clear hfz28_1
                            try clear hfz28_2
                            try clear hfz31_0
                            try clear hfz31_1
                            try clear hfz31_2
                            try clear hfz33_0
                            try clear hfz33_1
                            try clear hfz33_2
                            try clear hfz40_0
                            try clear hfz40_1
                            try clear hfz41_0
                            try clear hfz41_1
                            try clear hfz41_2
                            try clear hfz46_0
                            try clear hfz46_1
                            try clear hfz53_0
                            try clear hfz53_1
                            try clear hfz55_0
                            try clear hfz55_1
                            try clear hfz57_0
                            try clear hfz57_1
                            try clear hfz57_2
                            try clear hfz8_0
                            try clear hfz8_1
                            try clear hx112_0
                            try clear hx112_1
                            try clear hx112_2
                            try clear hx50_0
                            try clear p1
                            try clear p11
                            try clear p112
                            try clear p2
                            try clear p50
                            try clear q1
                            try clear q11
                            try clear q112
                            try clear q50
                            obtain ⟨kq, x9_37, x105000_37, x105001_37, HA, HJ37, HO_9, HO_10, BK104, BK113, BK118, HB⟩ := hcut
                            cases kq with
                            | zero => exact absurd HA.out (by simp [pacemakerlaw25_CreditHolds.j3])
                            | succ kj37 =>
                              have H := HA.out
                              clear HA
                              simp only [pacemakerlaw25_CreditHolds.j3] at H
                              replace H := Option.bind_eq_some_iff.mp H
                              obtain ⟨⟨t120, t121, t122⟩, A600, H⟩ := H
                              replace H : (if t122 = 0 then (if 0 ≤ x11_2 then (if x11_2 < (x10_2.length : Int) then ((credit_Is.f a0 t120 t121).bind fun t125 => (if t125 = true then (pacemakerlaw25_CreditHolds.l0 kj37 a0 l2 x9_37 (x10_2.set (x11_2 : Int).toNat (wrap64 (((rd_T41 l2 x11_2).f2) * 1000000))) (wrap64 (x11_2 + 1)) t120 t121) else (none))) else (none)) else (none)) else ((credit_Is.f a0 x105000_37 x105001_37).bind fun t126 => (if t126 = true then (pacemakerlaw25_CreditHolds.l0 kj37 a0 l2 x9_37 x10_2 (wrap64 (x11_2 + 1)) x105000_37 x105001_37) else (none)))) = some r := H
                              have A60 := Aside0.mk A600
                              clear A600
                              by_cases c61 : t122 = 0
                              · rw [if_pos c61] at H
                                have c61b0 : (t122 == 0) = true := beq_iff_eq.mpr c61
                                have c61b1 : (t122 != 0) = false := bne_eq_false_iff_eq.mpr c61
                                clear c61
                                by_cases c62 : 0 ≤ x11_2
                                · rw [if_pos c62] at H
                                  have c62b0 : decide (0 ≤ x11_2) = true := decide_eq_true c62
                                  clear c62
                                  by_cases c63 : x11_2 < (x10_2.length : Int)
                                  · rw [if_pos c63] at H
                                    have c63b0 : decide (x11_2 < (x10_2.length : Int)) = true := decide_eq_true c63
                                    clear c63
                                    obtain ⟨y124, hy124⟩ : ∃ y_ : List Int, y_ = (x10_2.set (x11_2 : Int).toNat (wrap64 (((rd_T41 l2 x11_2).f2) * 1000000))) := ⟨_, rfl⟩
                                    replace H : ((credit_Is.f a0 t120 t121).bind fun t125 => (if t125 = true then (pacemakerlaw25_CreditHolds.l0 kj37 a0 l2 x9_37 y124 (wrap64 (x11_2 + 1)) t120 t121) else (none))) = some r := by first | (rw [hy124]; with_reducible exact H) | (have H2_ := (Option.bind_some _ _).symm.trans H; rw [hy124]; with_reducible exact H2_) | (have H2_ := (Option.bind_some _ _).symm.trans H; with_reducible exact H2_) | with_reducible exact H | (rw [hy124]; exact H) | exact H
                                    have Ny124 := Aside0.mk hy124
                                    clear hy124
                                    replace H := Option.bind_eq_some_iff.mp H
                                    obtain ⟨t125, A650, H⟩ := H
                                    replace H : (if t125 = true then (pacemakerlaw25_CreditHolds.l0 kj37 a0 l2 x9_37 y124 (wrap64 (x11_2 + 1)) t120 t121) else (none)) = some r := H
                                    have A65 := Aside0.mk A650
                                    clear A650
                                    by_cases c66 : t125 = true
                                    · subst c66
                                      have H1 : (pacemakerlaw25_CreditHolds.l0 kj37 a0 l2 x9_37 y124 (wrap64 (x11_2 + 1)) t120 t121) = some r := by rw [if_pos rfl] at H; exact H
                                      clear H
                                      have H := H1
                                      clear H1
                                      have H' := Aside0.mk H
                                      clear H
                                      have hnb67 := NB104_113.out
                                      have hnc67 := NB113_104.out
                                      have hnb68 := NB104_118.out
                                      have hnc68 := NB118_104.out
                                      have hcz69_0 : wc.cell? ⟨gb104, 0, none⟩ = some (.int .i64 x105000_37) := (blk_cell BK104.out 0).trans rfl
                                      have hcz69_1 : wc.cell? ⟨gb104, 1, none⟩ = some (.int .i64 x105001_37) := (blk_cell BK104.out 1).trans rfl
                                      have hfz69_0 := blk_frozen BK104.out 0
                                      have hfz69_1 := blk_frozen BK104.out 1
                                      have hnb70 := NB113_118.out
                                      have hnc70 := NB118_113.out
                                      have hcz71_0 : wc.cell? ⟨gb113, 0, none⟩ = some (.int .i64 ((rd_T41 l2 x11_2).f0)) := (blk_cell BK113.out 0).trans rfl
                                      have hcz71_1 : wc.cell? ⟨gb113, 1, none⟩ = some (.int .i64 ((rd_T41 l2 x11_2).f1)) := (blk_cell BK113.out 1).trans rfl
                                      have hcz71_2 : wc.cell? ⟨gb113, 2, none⟩ = some (.int .i64 ((rd_T41 l2 x11_2).f2)) := (blk_cell BK113.out 2).trans rfl
                                      have hfz71_0 := blk_frozen BK113.out 0
                                      have hfz71_1 := blk_frozen BK113.out 1
                                      have hfz71_2 := blk_frozen BK113.out 2
                                      go_wp2_with (first | ((with_reducible refine gate_callee (f := 27) rfl ?_); refine goesL_ (some 98) rfl rfl Try.func27 (by kernel_rfl) rfl #[.int .i64 a0, .agg #[.int .i64 x105000_37, .int .i64 x105001_37], .int .i64 ((rd_T41 l2 x11_2).f2)] rfl (by (try simp only [List.map_toArray, List.map_cons, List.map_nil]); first | done | rfl | (simp only [List.length_drop, List.length_take]; rfl)) ?_; (with_reducible refine (credit_Take.calls kj37 a0 x105000_37 x105001_37 ((rd_T41 l2 x11_2).f2) t120 t121 t122 _ A60.out).mono ?_); rintro e w72 ⟨rfl, hb⟩; refine ⟨_, rfl, ?_⟩; have n0_ := Aside0.mk (Kd.R_below (by (with_reducible repeat (first | apply Kd.R_alloc | apply Kd.R_drewN | apply Kd.R_drew)); exact HO_9.out) hb); have n1_ := Aside0.mk (Kd.R_below (by (with_reducible repeat (first | apply Kd.R_alloc | apply Kd.R_drewN | apply Kd.R_drew)); exact HO_10.out) hb); have n2_ := Aside0.mk (blk_below (g := gb104) (o := .cells #[.int .i64 x105000_37, .int .i64 x105001_37] 29 (0, 0)) (by (with_reducible repeat (first | refine blk_drewN ?_ _ | refine blk_drew ?_ | refine blk_alloc ?_ _)); exact BK104.out) hb); have n3_ := Aside0.mk (blk_below (g := gb113) (o := .cells #[.int .i64 ((rd_T41 l2 x11_2).f0), .int .i64 ((rd_T41 l2 x11_2).f1), .int .i64 ((rd_T41 l2 x11_2).f2)] 41 (0, 0)) (by (with_reducible repeat (first | refine blk_drewN ?_ _ | refine blk_drew ?_ | refine blk_alloc ?_ _)); exact BK113.out) hb); have n4_ := Aside0.mk (blk_below (g := gb118) (o := .cells #[.int .i64 t115, .int .i64 t116] 29 (0, 0)) (by (with_reducible repeat (first | refine blk_drewN ?_ _ | refine blk_drew ?_ | refine blk_alloc ?_ _)); exact BK118.out) hb); have n5_ := Aside0.mk (below_step (by repeat (first | (with_reducible first | exact HB.out | apply below_alloc | apply pw_below_drewN | apply below_drew1 | refine below_set ?_ GE104.out | refine below_set ?_ GE113.out | refine below_set ?_ GE118.out) | exact HB.out)) hb); clear HO_9; clear HO_10; clear BK104; clear BK113; clear BK118; clear HB; have HO_9 := n0_; have HO_10 := n1_; have BK104 := n2_; have BK113 := n3_; have BK118 := n4_; have HB := n5_; clear n0_ n1_ n2_ n3_ n4_ n5_; (try clear hb); (try clear hb2); (try clear hk); (try clear hi)) | ((with_reducible refine gate_dst (N := 15) rfl ?_); refine box_event ?hg (N := 15) ?hd (cs := #[.int .i64 0, .int .i64 0]) (t := 29) ?hr ?_; (case hd => rfl); (case hg => rfl); (case hr => first | (go_simp; done) | (go_simp; rfl)); intro gb123 hg w73 hbox hb; have n0_ := Aside0.mk (Kd.R_below (by (with_reducible repeat (first | apply Kd.R_alloc | apply Kd.R_drewN | apply Kd.R_drew)); exact HO_9.out) hb); have n1_ := Aside0.mk (Kd.R_below (by (with_reducible repeat (first | apply Kd.R_alloc | apply Kd.R_drewN | apply Kd.R_drew)); exact HO_10.out) hb); have n2_ := Aside0.mk (blk_below (g := gb104) (o := .cells #[.int .i64 x105000_37, .int .i64 x105001_37] 29 (0, 0)) (by (with_reducible repeat (first | refine blk_drewN ?_ _ | refine blk_drew ?_ | refine blk_alloc ?_ _)); exact BK104.out) hb); have n3_ := Aside0.mk (blk_below (g := gb113) (o := .cells #[.int .i64 ((rd_T41 l2 x11_2).f0), .int .i64 ((rd_T41 l2 x11_2).f1), .int .i64 ((rd_T41 l2 x11_2).f2)] 41 (0, 0)) (by (with_reducible repeat (first | refine blk_drewN ?_ _ | refine blk_drew ?_ | refine blk_alloc ?_ _)); exact BK113.out) hb); have n4_ := Aside0.mk (blk_below (g := gb118) (o := .cells #[.int .i64 t115, .int .i64 t116] 29 (0, 0)) (by (with_reducible repeat (first | refine blk_drewN ?_ _ | refine blk_drew ?_ | refine blk_alloc ?_ _)); exact BK118.out) hb); have n5_ := Aside0.mk (below_step (by repeat (first | (with_reducible first | exact HB.out | apply below_alloc | apply pw_below_drewN | apply below_drew1 | refine below_set ?_ GE104.out | refine below_set ?_ GE113.out | refine below_set ?_ GE118.out) | exact HB.out)) hb); have n6_ := Aside0.mk (hbox); have n7_ := Aside0.mk ((by rw [hg]; exact (below_size (by repeat (first | (with_reducible first | exact HB.out | apply below_alloc | apply pw_below_drewN | apply below_drew1 | refine below_set ?_ GE104.out | refine below_set ?_ GE113.out | refine below_set ?_ GE118.out) | exact HB.out))) : w.heap.size ≤ gb123)); have n8_ := Aside0.mk ((by rw [hg]; exact (below_size (by repeat (first | (with_reducible first | exact HB.out | apply below_alloc | apply pw_below_drewN | apply below_drew1 | refine below_set ?_ GE104.out | refine below_set ?_ GE113.out | refine below_set ?_ GE118.out) | exact HB.out))) : w.heap.size ≤ gb123)); have n9_ := Aside0.mk ((by rw [hg]; exact Nat.ne_of_lt (blk_lt (g := gb104) (o := .cells #[.int .i64 x105000_37, .int .i64 x105001_37] 29 (0, 0)) (by (with_reducible repeat (first | refine blk_drewN ?_ _ | refine blk_drew ?_ | refine blk_alloc ?_ _)); exact BK104.out)) : gb104 ≠ gb123)); have n10_ := Aside0.mk ((by rw [hg]; exact Nat.ne_of_gt (blk_lt (g := gb104) (o := .cells #[.int .i64 x105000_37, .int .i64 x105001_37] 29 (0, 0)) (by (with_reducible repeat (first | refine blk_drewN ?_ _ | refine blk_drew ?_ | refine blk_alloc ?_ _)); exact BK104.out)) : gb123 ≠ gb104)); have n11_ := Aside0.mk ((by rw [hg]; exact Nat.ne_of_lt (blk_lt (g := gb113) (o := .cells #[.int .i64 ((rd_T41 l2 x11_2).f0), .int .i64 ((rd_T41 l2 x11_2).f1), .int .i64 ((rd_T41 l2 x11_2).f2)] 41 (0, 0)) (by (with_reducible repeat (first | refine blk_drewN ?_ _ | refine blk_drew ?_ | refine blk_alloc ?_ _)); exact BK113.out)) : gb113 ≠ gb123)); have n12_ := Aside0.mk ((by rw [hg]; exact Nat.ne_of_gt (blk_lt (g := gb113) (o := .cells #[.int .i64 ((rd_T41 l2 x11_2).f0), .int .i64 ((rd_T41 l2 x11_2).f1), .int .i64 ((rd_T41 l2 x11_2).f2)] 41 (0, 0)) (by (with_reducible repeat (first | refine blk_drewN ?_ _ | refine blk_drew ?_ | refine blk_alloc ?_ _)); exact BK113.out)) : gb123 ≠ gb113)); have n13_ := Aside0.mk ((by rw [hg]; exact Nat.ne_of_lt (blk_lt (g := gb118) (o := .cells #[.int .i64 t115, .int .i64 t116] 29 (0, 0)) (by (with_reducible repeat (first | refine blk_drewN ?_ _ | refine blk_drew ?_ | refine blk_alloc ?_ _)); exact BK118.out)) : gb118 ≠ gb123)); have n14_ := Aside0.mk ((by rw [hg]; exact Nat.ne_of_gt (blk_lt (g := gb118) (o := .cells #[.int .i64 t115, .int .i64 t116] 29 (0, 0)) (by (with_reducible repeat (first | refine blk_drewN ?_ _ | refine blk_drew ?_ | refine blk_alloc ?_ _)); exact BK118.out)) : gb123 ≠ gb118)); clear HO_9; clear HO_10; clear BK104; clear BK113; clear BK118; clear HB; have HO_9 := n0_; have HO_10 := n1_; have BK104 := n2_; have BK113 := n3_; have BK118 := n4_; have HB := n5_; have BK123 := n6_; have GW123 := n7_; have GE123 := n8_; have NB104_123 := n9_; have NB123_104 := n10_; have NB113_123 := n11_; have NB123_113 := n12_; have NB118_123 := n13_; have NB123_118 := n14_; clear n0_ n1_ n2_ n3_ n4_ n5_ n6_ n7_ n8_ n9_ n10_ n11_ n12_ n13_ n14_; clear hb hbox hg; have hnb74 := NB123_104.out; have hnc74 := NB104_123.out; have hnb75 := NB123_113.out; have hnc75 := NB113_123.out; have hnb76 := NB123_118.out; have hnc76 := NB118_123.out; have hcz77_0 : w73.cell? ⟨gb123, 0, none⟩ = some (.int .i64 0) := (blk_cell BK123.out 0).trans rfl; have hcz77_1 : w73.cell? ⟨gb123, 1, none⟩ = some (.int .i64 0) := (blk_cell BK123.out 1).trans rfl; have hfz77_0 := blk_frozen BK123.out 0; have hfz77_1 := blk_frozen BK123.out 1) | ((with_reducible refine gate_store (t := 29) (p := 15) rfl ?_); refine store_event (t := 29) (p := 15) (v := ?vo_w78) (w1 := ((w73.setCell ⟨gb123, 0, none⟩ (.int .i64 t120)).setCell ⟨gb123, 1, none⟩ (.int .i64 t121))) ?hg ?ho ?hn ?hr ?_; (case ho => rfl); (case hg => rfl); (case hn => rfl); (case hr => first | (go_simp; done) | (go_simp; rfl)); intro w78 hw; have n0_ : Aside0 (Kd.R (Kd.int .i64) 3 w78 w.heap.size (fun k_ => some k_ ≠ (v110 : Value).ownBlock) v107 x9_37) := ⟨(by rw [hw]; exact (by (with_reducible repeat (first | apply Kd.R_alloc | apply Kd.R_drewN | apply Kd.R_drew)); exact Kd.R_mono (Kd.R_far (p := ⟨gb123, 1, none⟩) (Kd.R_far (p := ⟨gb123, 0, none⟩) (Kd.R_types HO_9.out BK123.out (by decide)) (fun _ hk => hk.2) (.int .i64 t120)) (fun _ hk => hk.2) (.int .i64 t121)) (fun _ hk => hk.1)))⟩; have n1_ : Aside0 (Kd.R (Kd.int .i64) 3 w78 w.heap.size (fun k_ => some k_ ≠ (v107 : Value).ownBlock) v110 x10_2) := ⟨(by rw [hw]; exact (by (with_reducible repeat (first | apply Kd.R_alloc | apply Kd.R_drewN | apply Kd.R_drew)); exact Kd.R_mono (Kd.R_far (p := ⟨gb123, 1, none⟩) (Kd.R_far (p := ⟨gb123, 0, none⟩) (Kd.R_types HO_10.out BK123.out (by decide)) (fun _ hk => hk.2) (.int .i64 t120)) (fun _ hk => hk.2) (.int .i64 t121)) (fun _ hk => hk.1)))⟩; have n2_ : Aside0 (w78.heap[gb104]? = some (.cells #[.int .i64 x105000_37, .int .i64 x105001_37] 29 (0, 0))) := ⟨(by rw [hw]; exact (by (with_reducible repeat (first | refine blk_drewN ?_ _ | refine blk_drew ?_ | refine blk_alloc ?_ _)); refine blk_far ?_ NB104_123.out _; (with_reducible repeat (first | refine blk_drewN ?_ _ | refine blk_drew ?_ | refine blk_alloc ?_ _)); refine blk_far ?_ NB104_123.out _; (with_reducible repeat (first | refine blk_drewN ?_ _ | refine blk_drew ?_ | refine blk_alloc ?_ _)); exact BK104.out))⟩; have n3_ : Aside0 (w78.heap[gb113]? = some (.cells #[.int .i64 ((rd_T41 l2 x11_2).f0), .int .i64 ((rd_T41 l2 x11_2).f1), .int .i64 ((rd_T41 l2 x11_2).f2)] 41 (0, 0))) := ⟨(by rw [hw]; exact (by (with_reducible repeat (first | refine blk_drewN ?_ _ | refine blk_drew ?_ | refine blk_alloc ?_ _)); refine blk_far ?_ NB113_123.out _; (with_reducible repeat (first | refine blk_drewN ?_ _ | refine blk_drew ?_ | refine blk_alloc ?_ _)); refine blk_far ?_ NB113_123.out _; (with_reducible repeat (first | refine blk_drewN ?_ _ | refine blk_drew ?_ | refine blk_alloc ?_ _)); exact BK113.out))⟩; have n4_ : Aside0 (w78.heap[gb118]? = some (.cells #[.int .i64 t115, .int .i64 t116] 29 (0, 0))) := ⟨(by rw [hw]; exact (by (with_reducible repeat (first | refine blk_drewN ?_ _ | refine blk_drew ?_ | refine blk_alloc ?_ _)); refine blk_far ?_ NB118_123.out _; (with_reducible repeat (first | refine blk_drewN ?_ _ | refine blk_drew ?_ | refine blk_alloc ?_ _)); refine blk_far ?_ NB118_123.out _; (with_reducible repeat (first | refine blk_drewN ?_ _ | refine blk_drew ?_ | refine blk_alloc ?_ _)); exact BK118.out))⟩; have n5_ : Aside0 (w78.heap[gb123]? = some (.cells #[.int .i64 t120, .int .i64 t121] 29 (0, 0))) := ⟨(by rw [hw]; exact (by (with_reducible repeat (first | refine blk_drewN ?_ _ | refine blk_drew ?_ | refine blk_alloc ?_ _)); refine blk_put (cs := #[.int .i64 t120, .int .i64 0]) ?_ 1 _ rfl; (with_reducible repeat (first | refine blk_drewN ?_ _ | refine blk_drew ?_ | refine blk_alloc ?_ _)); refine blk_put (cs := #[.int .i64 0, .int .i64 0]) ?_ 0 _ rfl; (with_reducible repeat (first | refine blk_drewN ?_ _ | refine blk_drew ?_ | refine blk_alloc ?_ _)); exact BK123.out))⟩; have n6_ : Aside0 (Below w.heap.size w w78) := ⟨(by rw [hw]; exact (by repeat (first | (with_reducible first | exact HB.out | apply below_alloc | apply pw_below_drewN | apply below_drew1 | refine below_set ?_ GE104.out | refine below_set ?_ GE113.out | refine below_set ?_ GE118.out | refine below_set ?_ GE123.out) | exact HB.out)))⟩; clear hw; clear HO_9; clear HO_10; clear BK104; clear BK113; clear BK118; clear BK123; clear HB; have HO_9 := n0_; have HO_10 := n1_; have BK104 := n2_; have BK113 := n3_; have BK118 := n4_; have BK123 := n5_; have HB := n6_; clear n0_ n1_ n2_ n3_ n4_ n5_ n6_; have hcz79_0 : w78.cell? ⟨gb123, 0, none⟩ = some (.int .i64 t120) := (blk_cell BK123.out 0).trans rfl; have hcz79_1 : w78.cell? ⟨gb123, 1, none⟩ = some (.int .i64 t121) := (blk_cell BK123.out 1).trans rfl; have hfz79_0 := blk_frozen BK123.out 0; have hfz79_1 := blk_frozen BK123.out 1; have hcz80_0 : w78.cell? ⟨gb104, 0, none⟩ = some (.int .i64 x105000_37) := (blk_cell BK104.out 0).trans rfl; have hcz80_1 : w78.cell? ⟨gb104, 1, none⟩ = some (.int .i64 x105001_37) := (blk_cell BK104.out 1).trans rfl; have hfz80_0 := blk_frozen BK104.out 0; have hfz80_1 := blk_frozen BK104.out 1) | ((with_reducible refine gate_store (t := 29) (p := 7) rfl ?_); refine store_event (t := 29) (p := 7) (v := ?vo_w81) (w1 := ((w78.setCell ⟨gb104, 0, none⟩ (.int .i64 t120)).setCell ⟨gb104, 1, none⟩ (.int .i64 t121))) ?hg ?ho ?hn ?hr ?_; (case ho => rfl); (case hg => rfl); (case hn => rfl); (case hr => first | (go_simp; done) | (go_simp; rfl)); intro w81 hw; have n0_ : Aside0 (Kd.R (Kd.int .i64) 3 w81 w.heap.size (fun k_ => some k_ ≠ (v110 : Value).ownBlock) v107 x9_37) := ⟨(by rw [hw]; exact (by (with_reducible repeat (first | apply Kd.R_alloc | apply Kd.R_drewN | apply Kd.R_drew)); exact Kd.R_mono (Kd.R_far (p := ⟨gb104, 1, none⟩) (Kd.R_far (p := ⟨gb104, 0, none⟩) (Kd.R_types HO_9.out BK104.out (by decide)) (fun _ hk => hk.2) (.int .i64 t120)) (fun _ hk => hk.2) (.int .i64 t121)) (fun _ hk => hk.1)))⟩; have n1_ : Aside0 (Kd.R (Kd.int .i64) 3 w81 w.heap.size (fun k_ => some k_ ≠ (v107 : Value).ownBlock) v110 x10_2) := ⟨(by rw [hw]; exact (by (with_reducible repeat (first | apply Kd.R_alloc | apply Kd.R_drewN | apply Kd.R_drew)); exact Kd.R_mono (Kd.R_far (p := ⟨gb104, 1, none⟩) (Kd.R_far (p := ⟨gb104, 0, none⟩) (Kd.R_types HO_10.out BK104.out (by decide)) (fun _ hk => hk.2) (.int .i64 t120)) (fun _ hk => hk.2) (.int .i64 t121)) (fun _ hk => hk.1)))⟩; have n2_ : Aside0 (w81.heap[gb104]? = some (.cells #[.int .i64 t120, .int .i64 t121] 29 (0, 0))) := ⟨(by rw [hw]; exact (by (with_reducible repeat (first | refine blk_drewN ?_ _ | refine blk_drew ?_ | refine blk_alloc ?_ _)); refine blk_put (cs := #[.int .i64 t120, .int .i64 x105001_37]) ?_ 1 _ rfl; (with_reducible repeat (first | refine blk_drewN ?_ _ | refine blk_drew ?_ | refine blk_alloc ?_ _)); refine blk_put (cs := #[.int .i64 x105000_37, .int .i64 x105001_37]) ?_ 0 _ rfl; (with_reducible repeat (first | refine blk_drewN ?_ _ | refine blk_drew ?_ | refine blk_alloc ?_ _)); exact BK104.out))⟩; have n3_ : Aside0 (w81.heap[gb113]? = some (.cells #[.int .i64 ((rd_T41 l2 x11_2).f0), .int .i64 ((rd_T41 l2 x11_2).f1), .int .i64 ((rd_T41 l2 x11_2).f2)] 41 (0, 0))) := ⟨(by rw [hw]; exact (by (with_reducible repeat (first | refine blk_drewN ?_ _ | refine blk_drew ?_ | refine blk_alloc ?_ _)); refine blk_far ?_ NB113_104.out _; (with_reducible repeat (first | refine blk_drewN ?_ _ | refine blk_drew ?_ | refine blk_alloc ?_ _)); refine blk_far ?_ NB113_104.out _; (with_reducible repeat (first | refine blk_drewN ?_ _ | refine blk_drew ?_ | refine blk_alloc ?_ _)); exact BK113.out))⟩; have n4_ : Aside0 (w81.heap[gb118]? = some (.cells #[.int .i64 t115, .int .i64 t116] 29 (0, 0))) := ⟨(by rw [hw]; exact (by (with_reducible repeat (first | refine blk_drewN ?_ _ | refine blk_drew ?_ | refine blk_alloc ?_ _)); refine blk_far ?_ NB118_104.out _; (with_reducible repeat (first | refine blk_drewN ?_ _ | refine blk_drew ?_ | refine blk_alloc ?_ _)); refine blk_far ?_ NB118_104.out _; (with_reducible repeat (first | refine blk_drewN ?_ _ | refine blk_drew ?_ | refine blk_alloc ?_ _)); exact BK118.out))⟩; have n5_ : Aside0 (w81.heap[gb123]? = some (.cells #[.int .i64 t120, .int .i64 t121] 29 (0, 0))) := ⟨(by rw [hw]; exact (by (with_reducible repeat (first | refine blk_drewN ?_ _ | refine blk_drew ?_ | refine blk_alloc ?_ _)); refine blk_far ?_ NB123_104.out _; (with_reducible repeat (first | refine blk_drewN ?_ _ | refine blk_drew ?_ | refine blk_alloc ?_ _)); refine blk_far ?_ NB123_104.out _; (with_reducible repeat (first | refine blk_drewN ?_ _ | refine blk_drew ?_ | refine blk_alloc ?_ _)); exact BK123.out))⟩; have n6_ : Aside0 (Below w.heap.size w w81) := ⟨(by rw [hw]; exact (by repeat (first | (with_reducible first | exact HB.out | apply below_alloc | apply pw_below_drewN | apply below_drew1 | refine below_set ?_ GE104.out | refine below_set ?_ GE113.out | refine below_set ?_ GE118.out | refine below_set ?_ GE123.out) | exact HB.out)))⟩; clear hw; clear HO_9; clear HO_10; clear BK104; clear BK113; clear BK118; clear BK123; clear HB; have HO_9 := n0_; have HO_10 := n1_; have BK104 := n2_; have BK113 := n3_; have BK118 := n4_; have BK123 := n5_; have HB := n6_; clear n0_ n1_ n2_ n3_ n4_ n5_ n6_; have hcz82_0 : w81.cell? ⟨gb113, 0, none⟩ = some (.int .i64 ((rd_T41 l2 x11_2).f0)) := (blk_cell BK113.out 0).trans rfl; have hcz82_1 : w81.cell? ⟨gb113, 1, none⟩ = some (.int .i64 ((rd_T41 l2 x11_2).f1)) := (blk_cell BK113.out 1).trans rfl; have hcz82_2 : w81.cell? ⟨gb113, 2, none⟩ = some (.int .i64 ((rd_T41 l2 x11_2).f2)) := (blk_cell BK113.out 2).trans rfl; have hfz82_0 := blk_frozen BK113.out 0; have hfz82_1 := blk_frozen BK113.out 1; have hfz82_2 := blk_frozen BK113.out 2; have p64 : 0 ≤ (x11_2 : Int) := of_decide_eq_true (by first | (with_reducible assumption) | assumption); have q64 : (x11_2 : Int) < ((x10_2.length : Int) : Int) := of_decide_eq_true (by first | (with_reducible assumption) | assumption); obtain ⟨go64, co64, eo64, gb64, gl64, cl64, HG64⟩ := Kd.R_form HO_10.out (by omega); (first | cases eo64 | (injection eo64 with ea_ en_ ec_; (first | subst ea_ | (injection ea_ with ea_; subst ea_)); subst ec_; clear en_)); have GB64 := Aside0.mk gb64; have GG64 := Aside0.mk HG64; clear gb64 gl64 HG64; obtain ⟨hx64_0, hf64_0⟩ := Kd.R_celln 0 HO_10.out (x11_2 : Int) p64 q64; replace p64 := eq_true p64; replace q64 := eq_true q64; obtain ⟨hy83_, hz83_⟩ := Kd.R_celln 0 HO_10.out (x11_2 : Int) (of_decide_eq_true (by first | (with_reducible assumption) | assumption)) (of_decide_eq_true (by first | (with_reducible assumption) | assumption)); have HP83 := Kd.R_putg HO_10.out (x11_2 : Int) (wrap64 (((rd_T41 l2 x11_2).f2) * 1000000))) | ((with_reducible refine gate_store (t := 3) (p := 109) rfl ?_); refine store_event (t := 3) (p := 109) (v := ?vo_w84) (w1 := (w81.setCell ⟨go64, (x11_2 : Int).toNat, none⟩ (.int .i64 (wrap64 (((rd_T41 l2 x11_2).f2) * 1000000))))) ?hg ?ho ?hn ?hr ?_; (case ho => rfl); (case hg => rfl); (case hn => rfl); (case hr => first | (go_simp; done) | (go_simp; rfl)); intro w84 hw; have hg : w81.grownBy w84 (some go64) := (by rw [hw]; exact HP83.2); have hp_ : Kd.R (Kd.int .i64) 3 w84 w.heap.size (fun k_ => some k_ ≠ (v107 : Value).ownBlock) (.slice (some ⟨go64, 0, none⟩) x10_2.length co64) y124 := (by rw [hw, Ny124.out]; exact HP83.1); clear HP83; have n0_ := Aside0.mk (Kd.R_after (v := (.slice (some ⟨go64, 0, none⟩) x10_2.length co64)) (v1 := (.slice (some ⟨go64, 0, none⟩) x10_2.length co64)) (ok := (fun _ => True)) (by (with_reducible repeat (first | apply Kd.R_alloc | apply Kd.R_drewN | apply Kd.R_drew)); exact Kd.R_mono HO_9.out (fun _ hk => ⟨trivial, hk⟩)) hg (.inl rfl)); have n1_ := Aside0.mk (hp_); have n2_ := Aside0.mk (blk_grown (g := gb104) (o := .cells #[.int .i64 t120, .int .i64 t121] 29 (0, 0)) (by (with_reducible repeat (first | refine blk_drewN ?_ _ | refine blk_drew ?_ | refine blk_alloc ?_ _)); exact BK104.out) hg (Kd.R_ne HO_10.out BK104.out (by decide))); have n3_ := Aside0.mk (blk_grown (g := gb113) (o := .cells #[.int .i64 ((rd_T41 l2 x11_2).f0), .int .i64 ((rd_T41 l2 x11_2).f1), .int .i64 ((rd_T41 l2 x11_2).f2)] 41 (0, 0)) (by (with_reducible repeat (first | refine blk_drewN ?_ _ | refine blk_drew ?_ | refine blk_alloc ?_ _)); exact BK113.out) hg (Kd.R_ne HO_10.out BK113.out (by decide))); have n4_ := Aside0.mk (blk_grown (g := gb118) (o := .cells #[.int .i64 t115, .int .i64 t116] 29 (0, 0)) (by (with_reducible repeat (first | refine blk_drewN ?_ _ | refine blk_drew ?_ | refine blk_alloc ?_ _)); exact BK118.out) hg (Kd.R_ne HO_10.out BK118.out (by decide))); have n5_ := Aside0.mk (blk_grown (g := gb123) (o := .cells #[.int .i64 t120, .int .i64 t121] 29 (0, 0)) (by (with_reducible repeat (first | refine blk_drewN ?_ _ | refine blk_drew ?_ | refine blk_alloc ?_ _)); exact BK123.out) hg (Kd.R_ne HO_10.out BK123.out (by decide))); have n6_ := Aside0.mk ((by rw [hw]; exact below_set (HB.out) GB64.out : Below w.heap.size w w84)); clear HO_9; clear HO_10; clear BK104; clear BK113; clear BK118; clear BK123; clear HB; have HO_9 := n0_; have HO_10 := n1_; have BK104 := n2_; have BK113 := n3_; have BK118 := n4_; have BK123 := n5_; have HB := n6_; clear n0_ n1_ n2_ n3_ n4_ n5_ n6_; clear hg hw hp_; have hcz85_0 : w84.cell? ⟨gb104, 0, none⟩ = some (.int .i64 t120) := (blk_cell BK104.out 0).trans rfl; have hcz85_1 : w84.cell? ⟨gb104, 1, none⟩ = some (.int .i64 t121) := (blk_cell BK104.out 1).trans rfl; have hfz85_0 := blk_frozen BK104.out 0; have hfz85_1 := blk_frozen BK104.out 1) | ((with_reducible refine gate_callee (f := 30) rfl ?_); refine goesL_ (some 112) rfl rfl Try.func30 (by kernel_rfl) rfl #[.int .i64 a0, .agg #[.int .i64 t120, .int .i64 t121]] rfl (by (try simp only [List.map_toArray, List.map_cons, List.map_nil]); first | done | rfl | (simp only [List.length_drop, List.length_take]; rfl)) ?_; (with_reducible refine (credit_Is.calls a0 t120 t121 true _ A65.out).mono ?_); rintro e w86 ⟨rfl, hb⟩; refine ⟨_, rfl, ?_⟩; have n0_ := Aside0.mk (Kd.R_below (by (with_reducible repeat (first | apply Kd.R_alloc | apply Kd.R_drewN | apply Kd.R_drew)); exact HO_9.out) hb); have n1_ := Aside0.mk (Kd.R_below (by (with_reducible repeat (first | apply Kd.R_alloc | apply Kd.R_drewN | apply Kd.R_drew)); exact HO_10.out) hb); have n2_ := Aside0.mk (blk_below (g := gb104) (o := .cells #[.int .i64 t120, .int .i64 t121] 29 (0, 0)) (by (with_reducible repeat (first | refine blk_drewN ?_ _ | refine blk_drew ?_ | refine blk_alloc ?_ _)); exact BK104.out) hb); have n3_ := Aside0.mk (blk_below (g := gb113) (o := .cells #[.int .i64 ((rd_T41 l2 x11_2).f0), .int .i64 ((rd_T41 l2 x11_2).f1), .int .i64 ((rd_T41 l2 x11_2).f2)] 41 (0, 0)) (by (with_reducible repeat (first | refine blk_drewN ?_ _ | refine blk_drew ?_ | refine blk_alloc ?_ _)); exact BK113.out) hb); have n4_ := Aside0.mk (blk_below (g := gb118) (o := .cells #[.int .i64 t115, .int .i64 t116] 29 (0, 0)) (by (with_reducible repeat (first | refine blk_drewN ?_ _ | refine blk_drew ?_ | refine blk_alloc ?_ _)); exact BK118.out) hb); have n5_ := Aside0.mk (blk_below (g := gb123) (o := .cells #[.int .i64 t120, .int .i64 t121] 29 (0, 0)) (by (with_reducible repeat (first | refine blk_drewN ?_ _ | refine blk_drew ?_ | refine blk_alloc ?_ _)); exact BK123.out) hb); have n6_ := Aside0.mk (below_step (by repeat (first | (with_reducible first | exact HB.out | apply below_alloc | apply pw_below_drewN | apply below_drew1 | refine below_set ?_ GE104.out | refine below_set ?_ GE113.out | refine below_set ?_ GE118.out | refine below_set ?_ GE123.out) | exact HB.out)) hb); clear HO_9; clear HO_10; clear BK104; clear BK113; clear BK118; clear BK123; clear HB; have HO_9 := n0_; have HO_10 := n1_; have BK104 := n2_; have BK113 := n3_; have BK118 := n4_; have BK123 := n5_; have HB := n6_; clear n0_ n1_ n2_ n3_ n4_ n5_ n6_; (try clear hb); (try clear hb2); (try clear hk); (try clear hi)))
                                      go_roundg kj37
                                      case measure => have := HJ4.out; have := HK2.out; have := HJ24.out; have := HJ37.out; omega
                                      case rel => exact ⟨(x9_37), (y124), (wrap64 (x11_2 + 1)), (t120), (t121), (by first | rfl | (simp; done) | (simp [*]; done)), H', ⟨by have := HJ4.out; have := HK2.out; have := HJ24.out; have := HJ37.out; omega⟩, ⟨by (with_reducible repeat (first | apply Kd.R_alloc | apply Kd.R_drewN | apply Kd.R_drew)); exact Kd.R_mono HO_9.out (fun _ hk => hk.2)⟩, ⟨by (with_reducible repeat (first | apply Kd.R_alloc | apply Kd.R_drewN | apply Kd.R_drew)); exact HO_10.out⟩, ⟨by (with_reducible repeat (first | refine blk_drewN ?_ _ | refine blk_drew ?_ | refine blk_alloc ?_ _)); exact BK104.out⟩, ⟨by repeat (first | (with_reducible first | exact HB.out | apply below_alloc | apply pw_below_drewN | apply below_drew1 | refine below_set ?_ GE104.out | refine below_set ?_ GE113.out | refine below_set ?_ GE118.out | refine below_set ?_ GE123.out) | exact HB.out)⟩⟩
                                    · replace c66 := Bool.eq_false_iff.mpr c66
                                      subst c66
                                      have H1 : (none) = some r := by rw [if_neg (show ¬ (false = true) by decide)] at H; exact H
                                      clear H
                                      have H := H1
                                      clear H1
                                      exact absurd H (by simp)
                                  · rw [if_neg c63] at H
                                    exact absurd H (by simp)
                                · rw [if_neg c62] at H
                                  exact absurd H (by simp)
                              · rw [if_neg c61] at H
                                have c61b0 : (t122 == 0) = false := beq_eq_false_iff_ne.mpr c61
                                have c61b1 : (t122 != 0) = true := bne_iff_ne.mpr c61
                                replace H := Option.bind_eq_some_iff.mp H
                                obtain ⟨t126, A870, H⟩ := H
                                replace H : (if t126 = true then (pacemakerlaw25_CreditHolds.l0 kj37 a0 l2 x9_37 x10_2 (wrap64 (x11_2 + 1)) x105000_37 x105001_37) else (none)) = some r := H
                                have A87 := Aside0.mk A870
                                clear A870
                                by_cases c88 : t126 = true
                                · subst c88
                                  have H1 : (pacemakerlaw25_CreditHolds.l0 kj37 a0 l2 x9_37 x10_2 (wrap64 (x11_2 + 1)) x105000_37 x105001_37) = some r := by rw [if_pos rfl] at H; exact H
                                  clear H
                                  have H := H1
                                  clear H1
                                  have H' := Aside0.mk H
                                  clear H
                                  have hnb89 := NB104_113.out
                                  have hnc89 := NB113_104.out
                                  have hnb90 := NB104_118.out
                                  have hnc90 := NB118_104.out
                                  have hcz91_0 : wc.cell? ⟨gb104, 0, none⟩ = some (.int .i64 x105000_37) := (blk_cell BK104.out 0).trans rfl
                                  have hcz91_1 : wc.cell? ⟨gb104, 1, none⟩ = some (.int .i64 x105001_37) := (blk_cell BK104.out 1).trans rfl
                                  have hfz91_0 := blk_frozen BK104.out 0
                                  have hfz91_1 := blk_frozen BK104.out 1
                                  have hnb92 := NB113_118.out
                                  have hnc92 := NB118_113.out
                                  have hcz93_0 : wc.cell? ⟨gb113, 0, none⟩ = some (.int .i64 ((rd_T41 l2 x11_2).f0)) := (blk_cell BK113.out 0).trans rfl
                                  have hcz93_1 : wc.cell? ⟨gb113, 1, none⟩ = some (.int .i64 ((rd_T41 l2 x11_2).f1)) := (blk_cell BK113.out 1).trans rfl
                                  have hcz93_2 : wc.cell? ⟨gb113, 2, none⟩ = some (.int .i64 ((rd_T41 l2 x11_2).f2)) := (blk_cell BK113.out 2).trans rfl
                                  have hfz93_0 := blk_frozen BK113.out 0
                                  have hfz93_1 := blk_frozen BK113.out 1
                                  have hfz93_2 := blk_frozen BK113.out 2
                                  go_wp2_with (first | ((with_reducible refine gate_callee (f := 27) rfl ?_); refine goesL_ (some 98) rfl rfl Try.func27 (by kernel_rfl) rfl #[.int .i64 a0, .agg #[.int .i64 x105000_37, .int .i64 x105001_37], .int .i64 ((rd_T41 l2 x11_2).f2)] rfl (by (try simp only [List.map_toArray, List.map_cons, List.map_nil]); first | done | rfl | (simp only [List.length_drop, List.length_take]; rfl)) ?_; (with_reducible refine (credit_Take.calls kj37 a0 x105000_37 x105001_37 ((rd_T41 l2 x11_2).f2) t120 t121 t122 _ A60.out).mono ?_); rintro e w94 ⟨rfl, hb⟩; refine ⟨_, rfl, ?_⟩; have n0_ := Aside0.mk (Kd.R_below (by (with_reducible repeat (first | apply Kd.R_alloc | apply Kd.R_drewN | apply Kd.R_drew)); exact HO_9.out) hb); have n1_ := Aside0.mk (Kd.R_below (by (with_reducible repeat (first | apply Kd.R_alloc | apply Kd.R_drewN | apply Kd.R_drew)); exact HO_10.out) hb); have n2_ := Aside0.mk (blk_below (g := gb104) (o := .cells #[.int .i64 x105000_37, .int .i64 x105001_37] 29 (0, 0)) (by (with_reducible repeat (first | refine blk_drewN ?_ _ | refine blk_drew ?_ | refine blk_alloc ?_ _)); exact BK104.out) hb); have n3_ := Aside0.mk (blk_below (g := gb113) (o := .cells #[.int .i64 ((rd_T41 l2 x11_2).f0), .int .i64 ((rd_T41 l2 x11_2).f1), .int .i64 ((rd_T41 l2 x11_2).f2)] 41 (0, 0)) (by (with_reducible repeat (first | refine blk_drewN ?_ _ | refine blk_drew ?_ | refine blk_alloc ?_ _)); exact BK113.out) hb); have n4_ := Aside0.mk (blk_below (g := gb118) (o := .cells #[.int .i64 t115, .int .i64 t116] 29 (0, 0)) (by (with_reducible repeat (first | refine blk_drewN ?_ _ | refine blk_drew ?_ | refine blk_alloc ?_ _)); exact BK118.out) hb); have n5_ := Aside0.mk (below_step (by repeat (first | (with_reducible first | exact HB.out | apply below_alloc | apply pw_below_drewN | apply below_drew1 | refine below_set ?_ GE104.out | refine below_set ?_ GE113.out | refine below_set ?_ GE118.out) | exact HB.out)) hb); clear HO_9; clear HO_10; clear BK104; clear BK113; clear BK118; clear HB; have HO_9 := n0_; have HO_10 := n1_; have BK104 := n2_; have BK113 := n3_; have BK118 := n4_; have HB := n5_; clear n0_ n1_ n2_ n3_ n4_ n5_; (try clear hb); (try clear hb2); (try clear hk); (try clear hi)) | ((with_reducible refine gate_dst (N := 15) rfl ?_); refine box_event ?hg (N := 15) ?hd (cs := #[.int .i64 0, .int .i64 0]) (t := 29) ?hr ?_; (case hd => rfl); (case hg => rfl); (case hr => first | (go_simp; done) | (go_simp; rfl)); intro gb123 hg w95 hbox hb; have n0_ := Aside0.mk (Kd.R_below (by (with_reducible repeat (first | apply Kd.R_alloc | apply Kd.R_drewN | apply Kd.R_drew)); exact HO_9.out) hb); have n1_ := Aside0.mk (Kd.R_below (by (with_reducible repeat (first | apply Kd.R_alloc | apply Kd.R_drewN | apply Kd.R_drew)); exact HO_10.out) hb); have n2_ := Aside0.mk (blk_below (g := gb104) (o := .cells #[.int .i64 x105000_37, .int .i64 x105001_37] 29 (0, 0)) (by (with_reducible repeat (first | refine blk_drewN ?_ _ | refine blk_drew ?_ | refine blk_alloc ?_ _)); exact BK104.out) hb); have n3_ := Aside0.mk (blk_below (g := gb113) (o := .cells #[.int .i64 ((rd_T41 l2 x11_2).f0), .int .i64 ((rd_T41 l2 x11_2).f1), .int .i64 ((rd_T41 l2 x11_2).f2)] 41 (0, 0)) (by (with_reducible repeat (first | refine blk_drewN ?_ _ | refine blk_drew ?_ | refine blk_alloc ?_ _)); exact BK113.out) hb); have n4_ := Aside0.mk (blk_below (g := gb118) (o := .cells #[.int .i64 t115, .int .i64 t116] 29 (0, 0)) (by (with_reducible repeat (first | refine blk_drewN ?_ _ | refine blk_drew ?_ | refine blk_alloc ?_ _)); exact BK118.out) hb); have n5_ := Aside0.mk (below_step (by repeat (first | (with_reducible first | exact HB.out | apply below_alloc | apply pw_below_drewN | apply below_drew1 | refine below_set ?_ GE104.out | refine below_set ?_ GE113.out | refine below_set ?_ GE118.out) | exact HB.out)) hb); have n6_ := Aside0.mk (hbox); have n7_ := Aside0.mk ((by rw [hg]; exact (below_size (by repeat (first | (with_reducible first | exact HB.out | apply below_alloc | apply pw_below_drewN | apply below_drew1 | refine below_set ?_ GE104.out | refine below_set ?_ GE113.out | refine below_set ?_ GE118.out) | exact HB.out))) : w.heap.size ≤ gb123)); have n8_ := Aside0.mk ((by rw [hg]; exact (below_size (by repeat (first | (with_reducible first | exact HB.out | apply below_alloc | apply pw_below_drewN | apply below_drew1 | refine below_set ?_ GE104.out | refine below_set ?_ GE113.out | refine below_set ?_ GE118.out) | exact HB.out))) : w.heap.size ≤ gb123)); have n9_ := Aside0.mk ((by rw [hg]; exact Nat.ne_of_lt (blk_lt (g := gb104) (o := .cells #[.int .i64 x105000_37, .int .i64 x105001_37] 29 (0, 0)) (by (with_reducible repeat (first | refine blk_drewN ?_ _ | refine blk_drew ?_ | refine blk_alloc ?_ _)); exact BK104.out)) : gb104 ≠ gb123)); have n10_ := Aside0.mk ((by rw [hg]; exact Nat.ne_of_gt (blk_lt (g := gb104) (o := .cells #[.int .i64 x105000_37, .int .i64 x105001_37] 29 (0, 0)) (by (with_reducible repeat (first | refine blk_drewN ?_ _ | refine blk_drew ?_ | refine blk_alloc ?_ _)); exact BK104.out)) : gb123 ≠ gb104)); have n11_ := Aside0.mk ((by rw [hg]; exact Nat.ne_of_lt (blk_lt (g := gb113) (o := .cells #[.int .i64 ((rd_T41 l2 x11_2).f0), .int .i64 ((rd_T41 l2 x11_2).f1), .int .i64 ((rd_T41 l2 x11_2).f2)] 41 (0, 0)) (by (with_reducible repeat (first | refine blk_drewN ?_ _ | refine blk_drew ?_ | refine blk_alloc ?_ _)); exact BK113.out)) : gb113 ≠ gb123)); have n12_ := Aside0.mk ((by rw [hg]; exact Nat.ne_of_gt (blk_lt (g := gb113) (o := .cells #[.int .i64 ((rd_T41 l2 x11_2).f0), .int .i64 ((rd_T41 l2 x11_2).f1), .int .i64 ((rd_T41 l2 x11_2).f2)] 41 (0, 0)) (by (with_reducible repeat (first | refine blk_drewN ?_ _ | refine blk_drew ?_ | refine blk_alloc ?_ _)); exact BK113.out)) : gb123 ≠ gb113)); have n13_ := Aside0.mk ((by rw [hg]; exact Nat.ne_of_lt (blk_lt (g := gb118) (o := .cells #[.int .i64 t115, .int .i64 t116] 29 (0, 0)) (by (with_reducible repeat (first | refine blk_drewN ?_ _ | refine blk_drew ?_ | refine blk_alloc ?_ _)); exact BK118.out)) : gb118 ≠ gb123)); have n14_ := Aside0.mk ((by rw [hg]; exact Nat.ne_of_gt (blk_lt (g := gb118) (o := .cells #[.int .i64 t115, .int .i64 t116] 29 (0, 0)) (by (with_reducible repeat (first | refine blk_drewN ?_ _ | refine blk_drew ?_ | refine blk_alloc ?_ _)); exact BK118.out)) : gb123 ≠ gb118)); clear HO_9; clear HO_10; clear BK104; clear BK113; clear BK118; clear HB; have HO_9 := n0_; have HO_10 := n1_; have BK104 := n2_; have BK113 := n3_; have BK118 := n4_; have HB := n5_; have BK123 := n6_; have GW123 := n7_; have GE123 := n8_; have NB104_123 := n9_; have NB123_104 := n10_; have NB113_123 := n11_; have NB123_113 := n12_; have NB118_123 := n13_; have NB123_118 := n14_; clear n0_ n1_ n2_ n3_ n4_ n5_ n6_ n7_ n8_ n9_ n10_ n11_ n12_ n13_ n14_; clear hb hbox hg; have hnb96 := NB123_104.out; have hnc96 := NB104_123.out; have hnb97 := NB123_113.out; have hnc97 := NB113_123.out; have hnb98 := NB123_118.out; have hnc98 := NB118_123.out; have hcz99_0 : w95.cell? ⟨gb123, 0, none⟩ = some (.int .i64 0) := (blk_cell BK123.out 0).trans rfl; have hcz99_1 : w95.cell? ⟨gb123, 1, none⟩ = some (.int .i64 0) := (blk_cell BK123.out 1).trans rfl; have hfz99_0 := blk_frozen BK123.out 0; have hfz99_1 := blk_frozen BK123.out 1; have hcz100_0 : w95.cell? ⟨gb104, 0, none⟩ = some (.int .i64 x105000_37) := (blk_cell BK104.out 0).trans rfl; have hcz100_1 : w95.cell? ⟨gb104, 1, none⟩ = some (.int .i64 x105001_37) := (blk_cell BK104.out 1).trans rfl; have hfz100_0 := blk_frozen BK104.out 0; have hfz100_1 := blk_frozen BK104.out 1) | ((with_reducible refine gate_callee (f := 30) rfl ?_); refine goesL_ (some 112) rfl rfl Try.func30 (by kernel_rfl) rfl #[.int .i64 a0, .agg #[.int .i64 x105000_37, .int .i64 x105001_37]] rfl (by (try simp only [List.map_toArray, List.map_cons, List.map_nil]); first | done | rfl | (simp only [List.length_drop, List.length_take]; rfl)) ?_; (with_reducible refine (credit_Is.calls a0 x105000_37 x105001_37 true _ A87.out).mono ?_); rintro e w101 ⟨rfl, hb⟩; refine ⟨_, rfl, ?_⟩; have n0_ := Aside0.mk (Kd.R_below (by (with_reducible repeat (first | apply Kd.R_alloc | apply Kd.R_drewN | apply Kd.R_drew)); exact (Kd.R_mono (Kd.R_far (p := ⟨gb123, 1, none⟩) (Kd.R_far (p := ⟨gb123, 0, none⟩) (Kd.R_types HO_9.out BK123.out (by decide)) (fun _ hk => hk.2) (.int .i64 t120)) (fun _ hk => hk.2) (.int .i64 t121)) (fun _ h_ => h_.1))) hb); have n1_ := Aside0.mk (Kd.R_below (by (with_reducible repeat (first | apply Kd.R_alloc | apply Kd.R_drewN | apply Kd.R_drew)); exact (Kd.R_mono (Kd.R_far (p := ⟨gb123, 1, none⟩) (Kd.R_far (p := ⟨gb123, 0, none⟩) (Kd.R_types HO_10.out BK123.out (by decide)) (fun _ hk => hk.2) (.int .i64 t120)) (fun _ hk => hk.2) (.int .i64 t121)) (fun _ h_ => h_.1))) hb); have n2_ := Aside0.mk (blk_below (g := gb104) (o := .cells #[.int .i64 x105000_37, .int .i64 x105001_37] 29 (0, 0)) (by (with_reducible repeat (first | refine blk_drewN ?_ _ | refine blk_drew ?_ | refine blk_alloc ?_ _)); refine blk_far ?_ NB104_123.out _; (with_reducible repeat (first | refine blk_drewN ?_ _ | refine blk_drew ?_ | refine blk_alloc ?_ _)); refine blk_far ?_ NB104_123.out _; (with_reducible repeat (first | refine blk_drewN ?_ _ | refine blk_drew ?_ | refine blk_alloc ?_ _)); exact BK104.out) hb); have n3_ := Aside0.mk (blk_below (g := gb113) (o := .cells #[.int .i64 ((rd_T41 l2 x11_2).f0), .int .i64 ((rd_T41 l2 x11_2).f1), .int .i64 ((rd_T41 l2 x11_2).f2)] 41 (0, 0)) (by (with_reducible repeat (first | refine blk_drewN ?_ _ | refine blk_drew ?_ | refine blk_alloc ?_ _)); refine blk_far ?_ NB113_123.out _; (with_reducible repeat (first | refine blk_drewN ?_ _ | refine blk_drew ?_ | refine blk_alloc ?_ _)); refine blk_far ?_ NB113_123.out _; (with_reducible repeat (first | refine blk_drewN ?_ _ | refine blk_drew ?_ | refine blk_alloc ?_ _)); exact BK113.out) hb); have n4_ := Aside0.mk (blk_below (g := gb118) (o := .cells #[.int .i64 t115, .int .i64 t116] 29 (0, 0)) (by (with_reducible repeat (first | refine blk_drewN ?_ _ | refine blk_drew ?_ | refine blk_alloc ?_ _)); refine blk_far ?_ NB118_123.out _; (with_reducible repeat (first | refine blk_drewN ?_ _ | refine blk_drew ?_ | refine blk_alloc ?_ _)); refine blk_far ?_ NB118_123.out _; (with_reducible repeat (first | refine blk_drewN ?_ _ | refine blk_drew ?_ | refine blk_alloc ?_ _)); exact BK118.out) hb); have n5_ := Aside0.mk (blk_below (g := gb123) (o := .cells #[.int .i64 t120, .int .i64 t121] 29 (0, 0)) (by (with_reducible repeat (first | refine blk_drewN ?_ _ | refine blk_drew ?_ | refine blk_alloc ?_ _)); refine blk_put (cs := #[.int .i64 t120, .int .i64 0]) ?_ 1 _ rfl; (with_reducible repeat (first | refine blk_drewN ?_ _ | refine blk_drew ?_ | refine blk_alloc ?_ _)); refine blk_put (cs := #[.int .i64 0, .int .i64 0]) ?_ 0 _ rfl; (with_reducible repeat (first | refine blk_drewN ?_ _ | refine blk_drew ?_ | refine blk_alloc ?_ _)); exact BK123.out) hb); have n6_ := Aside0.mk (below_step (by repeat (first | (with_reducible first | exact HB.out | apply below_alloc | apply pw_below_drewN | apply below_drew1 | refine below_set ?_ GE104.out | refine below_set ?_ GE113.out | refine below_set ?_ GE118.out | refine below_set ?_ GE123.out) | exact HB.out)) hb); clear HO_9; clear HO_10; clear BK104; clear BK113; clear BK118; clear BK123; clear HB; have HO_9 := n0_; have HO_10 := n1_; have BK104 := n2_; have BK113 := n3_; have BK118 := n4_; have BK123 := n5_; have HB := n6_; clear n0_ n1_ n2_ n3_ n4_ n5_ n6_; (try clear hb); (try clear hb2); (try clear hk); (try clear hi)))
                                  go_roundg kj37
                                  case measure => have := HJ4.out; have := HK2.out; have := HJ24.out; have := HJ37.out; omega
                                  case rel => exact ⟨(x9_37), (x10_2), (wrap64 (x11_2 + 1)), (x105000_37), (x105001_37), (by first | rfl | (simp; done) | (simp [*]; done)), H', ⟨by have := HJ4.out; have := HK2.out; have := HJ24.out; have := HJ37.out; omega⟩, ⟨by (with_reducible repeat (first | apply Kd.R_alloc | apply Kd.R_drewN | apply Kd.R_drew)); exact HO_9.out⟩, ⟨by (with_reducible repeat (first | apply Kd.R_alloc | apply Kd.R_drewN | apply Kd.R_drew)); exact HO_10.out⟩, ⟨by (with_reducible repeat (first | refine blk_drewN ?_ _ | refine blk_drew ?_ | refine blk_alloc ?_ _)); exact BK104.out⟩, ⟨by repeat (first | (with_reducible first | exact HB.out | apply below_alloc | apply pw_below_drewN | apply below_drew1 | refine below_set ?_ GE104.out | refine below_set ?_ GE113.out | refine below_set ?_ GE118.out | refine below_set ?_ GE123.out) | exact HB.out)⟩⟩
                                · replace c88 := Bool.eq_false_iff.mpr c88
                                  subst c88
                                  have H1 : (none) = some r := by rw [if_neg (show ¬ (false = true) by decide)] at H; exact H
                                  clear H
                                  have H := H1
                                  clear H1
                                  exact absurd H (by simp)
                  · rw [if_neg c24] at H
                    exact absurd H (by simp)
                · rw [if_neg c23] at H
                  have c23b0 : decide (x11_2 < (l2.length : Int)) = false := decide_eq_false c23
                  clear c23
                  have H' := Aside0.mk H
                  clear H
                  go_wp2
                  go_loopg [17] k2 (fun kq v17 w' => ∃ (x17_3 : Int), v17 = .int .i64 x17_3 ∧ Aside0 (pacemakerlaw25_CreditHolds.l1 kq a0 l2 x9_2 x10_2 x17_3 = some r) ∧ Aside0 (kq ≤ k2) ∧ Aside0 (Kd.R (Kd.int .i64) 3 w' w.heap.size (fun k_ => some k_ ≠ (v110 : Value).ownBlock) v107 x9_2) ∧ Aside0 (Kd.R (Kd.int .i64) 3 w' w.heap.size (fun k_ => some k_ ≠ (v107 : Value).ownBlock) v110 x10_2) ∧ Aside0 (w'.heap[gb104]? = some (.cells #[.int .i64 x105000_2, .int .i64 x105001_2] 29 (0, 0))) ∧ Aside0 (Below w.heap.size w w'))
                  case atStart => exact ⟨(0), (by first | rfl | (simp; done) | (simp [*]; done)), H', ⟨Nat.le_refl _⟩, ⟨by (with_reducible repeat (first | apply Kd.R_alloc | apply Kd.R_drewN | apply Kd.R_drew)); exact HO_9.out⟩, ⟨by (with_reducible repeat (first | apply Kd.R_alloc | apply Kd.R_drewN | apply Kd.R_drew)); exact HO_10.out⟩, ⟨by (with_reducible repeat (first | refine blk_drewN ?_ _ | refine blk_drew ?_ | refine blk_alloc ?_ _)); exact BK104.out⟩, ⟨by repeat (first | (with_reducible first | exact HB.out | apply below_alloc | apply pw_below_drewN | apply below_drew1 | refine below_set ?_ GE104.out) | exact HB.out)⟩⟩
                  case round =>
                    clear H'
                    try clear c1
                    try clear p1
                    try clear q1
                    try clear hx1
                    try clear c2
                    try clear p2
                    try clear c3
                    try clear c4
                    try clear c5
                    try clear p5
                    try clear q5
                    try clear hx5
                    try clear hf5
                    try clear c6
                    try clear p6
                    try clear q6
                    try clear hx6
                    try clear hf6
                    try clear c7
                    try clear c8
                    try clear c9
                    try clear c9b0
                    try clear c9b1
                    try clear c10
                    try clear p11
                    try clear q11
                    try clear hx11
                    try clear c12
                    try clear c13
                    try clear c13b0
                    try clear c13b1
                    try clear c17
                    try clear c17b0
                    try clear c17b1
                    try clear c18
                    try clear c18b0
                    try clear c18b1
                    try clear c23
                    try clear c23b0
                    try clear c24
                    try clear c24b0
                    try clear c25
                    try clear c27
                    try clear c29
                    try clear c29b0
                    try clear c30
                    try clear c32
                    try clear c34
                    try clear c39
                    try clear c44
                    try clear c45
                    try clear c47
                    try clear c47b0
                    try clear c47b1
                    try clear c48
                    try clear c48b0
                    try clear c49
                    try clear c49b0
                    try clear p50
                    try clear q50
                    try clear hx50
                    try clear hf50
                    try clear c51
                    try clear c52
                    try clear c54
                    try clear c61
                    try clear c61b0
                    try clear c61b1
                    try clear c62
                    try clear c62b0
                    try clear c63
                    try clear c63b0
                    try clear p64
                    try clear q64
                    try clear hx64
                    try clear hf64
                    try clear c66
                    try clear c67
                    try clear c68
                    try clear c70
                    try clear c74
                    try clear c75
                    try clear c76
                    try clear c88
                    try clear c89
                    try clear c90
                    try clear c92
                    try clear c96
                    try clear c97
                    try clear c98
                    try clear hcz100_0
                    try clear hcz100_1
                    try clear hcz16_0
                    try clear hcz16_1
                    try clear hcz28_0
                    try clear hcz28_1
                    try clear hcz28_2
                    try clear hcz31_0
                    try clear hcz31_1
                    try clear hcz31_2
                    try clear hcz33_0
                    try clear hcz33_1
                    try clear hcz33_2
                    try clear hcz40_0
                    try clear hcz40_1
                    try clear hcz41_0
                    try clear hcz41_1
                    try clear hcz41_2
                    try clear hcz46_0
                    try clear hcz46_1
                    try clear hcz53_0
                    try clear hcz53_1
                    try clear hcz55_0
                    try clear hcz55_1
                    try clear hcz57_0
                    try clear hcz57_1
                    try clear hcz57_2
                    try clear hcz69_0
                    try clear hcz69_1
                    try clear hcz71_0
                    try clear hcz71_1
                    try clear hcz71_2
                    try clear hcz77_0
                    try clear hcz77_1
                    try clear hcz79_0
                    try clear hcz79_1
                    try clear hcz80_0
                    try clear hcz80_1
                    try clear hcz82_0
                    try clear hcz82_1
                    try clear hcz82_2
                    try clear hcz85_0
                    try clear hcz85_1
                    try clear hcz8_0
                    try clear hcz8_1
                    try clear hcz91_0
                    try clear hcz91_1
                    try clear hcz93_0
                    try clear hcz93_1
                    try clear hcz93_2
                    try clear hcz99_0
                    try clear hcz99_1
                    try clear hfz100_0
                    try clear hfz100_1
                    try clear hfz16_0
                    try clear hfz16_1
                    try clear hfz28_0
                    try clear hfz28_1
                    try clear hfz28_2
                    try clear hfz31_0
                    try clear hfz31_1
                    try clear hfz31_2
                    try clear hfz33_0
                    try clear hfz33_1
                    try clear hfz33_2
                    try clear hfz40_0
                    try clear hfz40_1
                    try clear hfz41_0
                    try clear hfz41_1
                    try clear hfz41_2
                    try clear hfz46_0
                    try clear hfz46_1
                    try clear hfz53_0
                    try clear hfz53_1
                    try clear hfz55_0
                    try clear hfz55_1
                    try clear hfz57_0
                    try clear hfz57_1
                    try clear hfz57_2
                    try clear hfz69_0
                    try clear hfz69_1
                    try clear hfz71_0
                    try clear hfz71_1
                    try clear hfz71_2
                    try clear hfz77_0
                    try clear hfz77_1
                    try clear hfz79_0
                    try clear hfz79_1
                    try clear hfz80_0
                    try clear hfz80_1
                    try clear hfz82_0
                    try clear hfz82_1
                    try clear hfz82_2
                    try clear hfz85_0
                    try clear hfz85_1
                    try clear hfz8_0
                    try clear hfz8_1
                    try clear hfz91_0
                    try clear hfz91_1
                    try clear hfz93_0
                    try clear hfz93_1
                    try clear hfz93_2
                    try clear hfz99_0
                    try clear hfz99_1
                    try clear hx112_0
                    try clear hx112_1
                    try clear hx112_2
                    try clear hx50_0
                    try clear hx64_0
                    try clear p1
                    try clear p11
                    try clear p112
                    try clear p2
                    try clear p5
                    try clear p50
                    try clear p6
                    try clear p64
                    try clear q1
                    try clear q11
                    try clear q112
                    try clear q5
                    try clear q50
                    try clear q64
                    obtain ⟨x17_3, rfl, HA, HK3, HO_9, HO_10, BK104, HB⟩ := hrel
                    cases gk with
                    | zero => exact absurd HA.out (by simp [pacemakerlaw25_CreditHolds.l1])
                    | succ k3 =>
                      have H := HA.out
                      clear HA
                      simp only [pacemakerlaw25_CreditHolds.l1] at H
                      by_cases c102 : x17_3 < (l2.length : Int)
                      · rw [if_pos c102] at H
                        have c102b0 : decide (x17_3 < (l2.length : Int)) = true := decide_eq_true c102
                        clear c102
                        have H' := Aside0.mk H
                        clear H
                        go_wp2
                        go_loopg [18, 19, 20] k3 (fun kq v18 v19 v20 w' => ∃ (x18_4 : Int) (x19_4 : Int) (x20_4 : Int), v18 = .int .i64 x18_4 ∧ v19 = .int .i64 x19_4 ∧ v20 = .int .i64 x20_4 ∧ Aside0 (pacemakerlaw25_CreditHolds.l2 kq a0 l2 x9_2 x10_2 x17_3 x18_4 x19_4 x20_4 = some r) ∧ Aside0 (kq ≤ k3) ∧ Aside0 (Kd.R (Kd.int .i64) 3 w' w.heap.size (fun k_ => some k_ ≠ (v110 : Value).ownBlock) v107 x9_2) ∧ Aside0 (Kd.R (Kd.int .i64) 3 w' w.heap.size (fun k_ => some k_ ≠ (v107 : Value).ownBlock) v110 x10_2) ∧ Aside0 (w'.heap[gb104]? = some (.cells #[.int .i64 x105000_2, .int .i64 x105001_2] 29 (0, 0))) ∧ Aside0 (Below w.heap.size w w'))
                        case atStart => exact ⟨(0), (0), (x17_3), (by first | rfl | (simp; done) | (simp [*]; done)), (by first | rfl | (simp; done) | (simp [*]; done)), (by first | rfl | (simp; done) | (simp [*]; done)), H', ⟨Nat.le_refl _⟩, ⟨by (with_reducible repeat (first | apply Kd.R_alloc | apply Kd.R_drewN | apply Kd.R_drew)); exact HO_9.out⟩, ⟨by (with_reducible repeat (first | apply Kd.R_alloc | apply Kd.R_drewN | apply Kd.R_drew)); exact HO_10.out⟩, ⟨by (with_reducible repeat (first | refine blk_drewN ?_ _ | refine blk_drew ?_ | refine blk_alloc ?_ _)); exact BK104.out⟩, ⟨by repeat (first | (with_reducible first | exact HB.out | apply below_alloc | apply pw_below_drewN | apply below_drew1 | refine below_set ?_ GE104.out) | exact HB.out)⟩⟩
                        case round =>
                          clear H'
                          try clear c1
                          try clear p1
                          try clear q1
                          try clear hx1
                          try clear c2
                          try clear p2
                          try clear c3
                          try clear c4
                          try clear c5
                          try clear p5
                          try clear q5
                          try clear hx5
                          try clear hf5
                          try clear c6
                          try clear p6
                          try clear q6
                          try clear hx6
                          try clear hf6
                          try clear c7
                          try clear c8
                          try clear c9
                          try clear c9b0
                          try clear c9b1
                          try clear c10
                          try clear p11
                          try clear q11
                          try clear hx11
                          try clear c12
                          try clear c13
                          try clear c13b0
                          try clear c13b1
                          try clear c17
                          try clear c17b0
                          try clear c17b1
                          try clear c18
                          try clear c18b0
                          try clear c18b1
                          try clear c23
                          try clear c23b0
                          try clear c24
                          try clear c24b0
                          try clear c25
                          try clear c27
                          try clear c29
                          try clear c29b0
                          try clear c30
                          try clear c32
                          try clear c34
                          try clear c39
                          try clear c44
                          try clear c45
                          try clear c47
                          try clear c47b0
                          try clear c47b1
                          try clear c48
                          try clear c48b0
                          try clear c49
                          try clear c49b0
                          try clear p50
                          try clear q50
                          try clear hx50
                          try clear hf50
                          try clear c51
                          try clear c52
                          try clear c54
                          try clear c61
                          try clear c61b0
                          try clear c61b1
                          try clear c62
                          try clear c62b0
                          try clear c63
                          try clear c63b0
                          try clear p64
                          try clear q64
                          try clear hx64
                          try clear hf64
                          try clear c66
                          try clear c67
                          try clear c68
                          try clear c70
                          try clear c74
                          try clear c75
                          try clear c76
                          try clear c88
                          try clear c89
                          try clear c90
                          try clear c92
                          try clear c96
                          try clear c97
                          try clear c98
                          try clear c102
                          try clear c102b0
                          try clear hcz100_0
                          try clear hcz100_1
                          try clear hcz16_0
                          try clear hcz16_1
                          try clear hcz28_0
                          try clear hcz28_1
                          try clear hcz28_2
                          try clear hcz31_0
                          try clear hcz31_1
                          try clear hcz31_2
                          try clear hcz33_0
                          try clear hcz33_1
                          try clear hcz33_2
                          try clear hcz40_0
                          try clear hcz40_1
                          try clear hcz41_0
                          try clear hcz41_1
                          try clear hcz41_2
                          try clear hcz46_0
                          try clear hcz46_1
                          try clear hcz53_0
                          try clear hcz53_1
                          try clear hcz55_0
                          try clear hcz55_1
                          try clear hcz57_0
                          try clear hcz57_1
                          try clear hcz57_2
                          try clear hcz69_0
                          try clear hcz69_1
                          try clear hcz71_0
                          try clear hcz71_1
                          try clear hcz71_2
                          try clear hcz77_0
                          try clear hcz77_1
                          try clear hcz79_0
                          try clear hcz79_1
                          try clear hcz80_0
                          try clear hcz80_1
                          try clear hcz82_0
                          try clear hcz82_1
                          try clear hcz82_2
                          try clear hcz85_0
                          try clear hcz85_1
                          try clear hcz8_0
                          try clear hcz8_1
                          try clear hcz91_0
                          try clear hcz91_1
                          try clear hcz93_0
                          try clear hcz93_1
                          try clear hcz93_2
                          try clear hcz99_0
                          try clear hcz99_1
                          try clear hfz100_0
                          try clear hfz100_1
                          try clear hfz16_0
                          try clear hfz16_1
                          try clear hfz28_0
                          try clear hfz28_1
                          try clear hfz28_2
                          try clear hfz31_0
                          try clear hfz31_1
                          try clear hfz31_2
                          try clear hfz33_0
                          try clear hfz33_1
                          try clear hfz33_2
                          try clear hfz40_0
                          try clear hfz40_1
                          try clear hfz41_0
                          try clear hfz41_1
                          try clear hfz41_2
                          try clear hfz46_0
                          try clear hfz46_1
                          try clear hfz53_0
                          try clear hfz53_1
                          try clear hfz55_0
                          try clear hfz55_1
                          try clear hfz57_0
                          try clear hfz57_1
                          try clear hfz57_2
                          try clear hfz69_0
                          try clear hfz69_1
                          try clear hfz71_0
                          try clear hfz71_1
                          try clear hfz71_2
                          try clear hfz77_0
                          try clear hfz77_1
                          try clear hfz79_0
                          try clear hfz79_1
                          try clear hfz80_0
                          try clear hfz80_1
                          try clear hfz82_0
                          try clear hfz82_1
                          try clear hfz82_2
                          try clear hfz85_0
                          try clear hfz85_1
                          try clear hfz8_0
                          try clear hfz8_1
                          try clear hfz91_0
                          try clear hfz91_1
                          try clear hfz93_0
                          try clear hfz93_1
                          try clear hfz93_2
                          try clear hfz99_0
                          try clear hfz99_1
                          try clear hx112_0
                          try clear hx112_1
                          try clear hx112_2
                          try clear hx50_0
                          try clear hx64_0
                          try clear p1
                          try clear p11
                          try clear p112
                          try clear p2
                          try clear p5
                          try clear p50
                          try clear p6
                          try clear p64
                          try clear q1
                          try clear q11
                          try clear q112
                          try clear q5
                          try clear q50
                          try clear q6
                          try clear q64
                          obtain ⟨x18_4, x19_4, x20_4, rfl, rfl, rfl, HA, HK4, HO_9, HO_10, BK104, HB⟩ := hrel
                          cases gk with
                          | zero => exact absurd HA.out (by simp [pacemakerlaw25_CreditHolds.l2])
                          | succ k4 =>
                            have H := HA.out
                            clear HA
                            simp only [pacemakerlaw25_CreditHolds.l2] at H
                            by_cases c103 : x20_4 < (l2.length : Int)
                            · rw [if_pos c103] at H
                              have c103b0 : decide (x20_4 < (l2.length : Int)) = true := decide_eq_true c103
                              clear c103
                              by_cases c104 : x20_4 > x17_3
                              · rw [if_pos c104] at H
                                have c104b0 : decide (x17_3 < x20_4) = true := decide_eq_true c104
                                clear c104
                                by_cases c105 : 0 ≤ x20_4
                                · rw [if_pos c105] at H
                                  have c105b0 : decide (0 ≤ x20_4) = true := decide_eq_true c105
                                  clear c105
                                  by_cases c106 : x20_4 < (x9_2.length : Int)
                                  · rw [if_pos c106] at H
                                    have c106b0 : decide (x20_4 < (x9_2.length : Int)) = true := decide_eq_true c106
                                    clear c106
                                    by_cases c107 : x20_4 < (x10_2.length : Int)
                                    · rw [if_pos c107] at H
                                      have c107b0 : decide (x20_4 < (x10_2.length : Int)) = true := decide_eq_true c107
                                      clear c107
                                      by_cases c108 : (wrap64 (x19_4 + (rd x10_2 x20_4))) > (wrap64 ((wrap64 (x18_4 + (rd x9_2 x20_4))) + (wrap64 (a0 * 1000000))))
                                      · rw [if_pos c108] at H
                                        exact absurd H (by simp)
                                      · rw [if_neg c108] at H
                                        have c108b0 : decide ((wrap64 ((wrap64 (x18_4 + (rd x9_2 x20_4))) + (wrap64 (a0 * 1000000)))) < (wrap64 (x19_4 + (rd x10_2 x20_4)))) = false := decide_eq_false c108
                                        clear c108
                                        have H' := Aside0.mk H
                                        clear H
                                        obtain ⟨Ao109, co109, eo109⟩ := Kd.R_slice HO_9.out
                                        subst eo109
                                        have p128 : 0 ≤ (x20_4 : Int) := of_decide_eq_true (by first | (with_reducible assumption) | assumption)
                                        have q128 : x20_4 < (x9_2.length : Int) := of_decide_eq_true (by first | (with_reducible assumption) | assumption)
                                        obtain ⟨ad128, e128, hx128_0⟩ := Kd.at_int (Kd.R_reads' HO_9.out).2.2 x20_4 p128 q128
                                        cases e128
                                        replace p128 := eq_true p128
                                        replace q128 := eq_true q128
                                        obtain ⟨Ao110, co110, eo110⟩ := Kd.R_slice HO_10.out
                                        subst eo110
                                        have p129 : 0 ≤ (x20_4 : Int) := of_decide_eq_true (by first | (with_reducible assumption) | assumption)
                                        have q129 : x20_4 < (x10_2.length : Int) := of_decide_eq_true (by first | (with_reducible assumption) | assumption)
                                        obtain ⟨ad129, e129, hx129_0⟩ := Kd.at_int (Kd.R_reads' HO_10.out).2.2 x20_4 p129 q129
                                        cases e129
                                        replace p129 := eq_true p129
                                        replace q129 := eq_true q129
                                        go_wp2
                                        go_roundg k4
                                        case measure => have := HJ4.out; have := HK2.out; have := HK3.out; have := HK4.out; omega
                                        case rel => exact ⟨(wrap64 (x18_4 + (rd x9_2 x20_4))), (wrap64 (x19_4 + (rd x10_2 x20_4))), (wrap64 (x20_4 + 1)), (by first | rfl | (simp; done) | (simp [*]; done)), (by first | rfl | (simp; done) | (simp [*]; done)), (by first | rfl | (simp; done) | (simp [*]; done)), H', ⟨by have := HJ4.out; have := HK2.out; have := HK3.out; have := HK4.out; omega⟩, ⟨by (with_reducible repeat (first | apply Kd.R_alloc | apply Kd.R_drewN | apply Kd.R_drew)); exact HO_9.out⟩, ⟨by (with_reducible repeat (first | apply Kd.R_alloc | apply Kd.R_drewN | apply Kd.R_drew)); exact HO_10.out⟩, ⟨by (with_reducible repeat (first | refine blk_drewN ?_ _ | refine blk_drew ?_ | refine blk_alloc ?_ _)); exact BK104.out⟩, ⟨by repeat (first | (with_reducible first | exact HB.out | apply below_alloc | apply pw_below_drewN | apply below_drew1 | refine below_set ?_ GE104.out) | exact HB.out)⟩⟩
                                    · rw [if_neg c107] at H
                                      exact absurd H (by simp)
                                  · rw [if_neg c106] at H
                                    exact absurd H (by simp)
                                · rw [if_neg c105] at H
                                  exact absurd H (by simp)
                              · rw [if_neg c104] at H
                                have c104b0 : decide (x17_3 < x20_4) = false := decide_eq_false c104
                                clear c104
                                by_cases c111 : 0 ≤ x20_4
                                · rw [if_pos c111] at H
                                  have c111b0 : decide (0 ≤ x20_4) = true := decide_eq_true c111
                                  clear c111
                                  by_cases c112 : x20_4 < (x10_2.length : Int)
                                  · rw [if_pos c112] at H
                                    have c112b0 : decide (x20_4 < (x10_2.length : Int)) = true := decide_eq_true c112
                                    clear c112
                                    by_cases c113 : (wrap64 (x19_4 + (rd x10_2 x20_4))) > (wrap64 (x18_4 + (wrap64 (a0 * 1000000))))
                                    · rw [if_pos c113] at H
                                      exact absurd H (by simp)
                                    · rw [if_neg c113] at H
                                      have c113b0 : decide ((wrap64 (x18_4 + (wrap64 (a0 * 1000000)))) < (wrap64 (x19_4 + (rd x10_2 x20_4)))) = false := decide_eq_false c113
                                      clear c113
                                      have H' := Aside0.mk H
                                      clear H
                                      obtain ⟨Ao114, co114, eo114⟩ := Kd.R_slice HO_10.out
                                      subst eo114
                                      have p130 : 0 ≤ (x20_4 : Int) := of_decide_eq_true (by first | (with_reducible assumption) | assumption)
                                      have q130 : x20_4 < (x10_2.length : Int) := of_decide_eq_true (by first | (with_reducible assumption) | assumption)
                                      obtain ⟨ad130, e130, hx130_0⟩ := Kd.at_int (Kd.R_reads' HO_10.out).2.2 x20_4 p130 q130
                                      cases e130
                                      replace p130 := eq_true p130
                                      replace q130 := eq_true q130
                                      go_wp2
                                      go_roundg k4
                                      case measure => have := HJ4.out; have := HK2.out; have := HK3.out; have := HK4.out; omega
                                      case rel => exact ⟨(x18_4), (wrap64 (x19_4 + (rd x10_2 x20_4))), (wrap64 (x20_4 + 1)), (by first | rfl | (simp; done) | (simp [*]; done)), (by first | rfl | (simp; done) | (simp [*]; done)), (by first | rfl | (simp; done) | (simp [*]; done)), H', ⟨by have := HJ4.out; have := HK2.out; have := HK3.out; have := HK4.out; omega⟩, ⟨by (with_reducible repeat (first | apply Kd.R_alloc | apply Kd.R_drewN | apply Kd.R_drew)); exact HO_9.out⟩, ⟨by (with_reducible repeat (first | apply Kd.R_alloc | apply Kd.R_drewN | apply Kd.R_drew)); exact HO_10.out⟩, ⟨by (with_reducible repeat (first | refine blk_drewN ?_ _ | refine blk_drew ?_ | refine blk_alloc ?_ _)); exact BK104.out⟩, ⟨by repeat (first | (with_reducible first | exact HB.out | apply below_alloc | apply pw_below_drewN | apply below_drew1 | refine below_set ?_ GE104.out) | exact HB.out)⟩⟩
                                  · rw [if_neg c112] at H
                                    exact absurd H (by simp)
                                · rw [if_neg c111] at H
                                  exact absurd H (by simp)
                            · rw [if_neg c103] at H
                              have c103b0 : decide (x20_4 < (l2.length : Int)) = false := decide_eq_false c103
                              clear c103
                              have H' := Aside0.mk H
                              clear H
                              go_wp2
                              go_roundg k4
                              case measure => have := HJ4.out; have := HK2.out; have := HK3.out; have := HK4.out; omega
                              case rel => exact ⟨(wrap64 (x17_3 + 1)), (by first | rfl | (simp; done) | (simp [*]; done)), H', ⟨by have := HJ4.out; have := HK2.out; have := HK3.out; have := HK4.out; omega⟩, ⟨by (with_reducible repeat (first | apply Kd.R_alloc | apply Kd.R_drewN | apply Kd.R_drew)); exact HO_9.out⟩, ⟨by (with_reducible repeat (first | apply Kd.R_alloc | apply Kd.R_drewN | apply Kd.R_drew)); exact HO_10.out⟩, ⟨by (with_reducible repeat (first | refine blk_drewN ?_ _ | refine blk_drew ?_ | refine blk_alloc ?_ _)); exact BK104.out⟩, ⟨by repeat (first | (with_reducible first | exact HB.out | apply below_alloc | apply pw_below_drewN | apply below_drew1 | refine below_set ?_ GE104.out) | exact HB.out)⟩⟩
                      · rw [if_neg c102] at H
                        have c102b0 : decide (x17_3 < (l2.length : Int)) = false := decide_eq_false c102
                        clear c102
                        replace H := Option.bind_eq_some_iff.mp H
                        obtain ⟨t127, A1150, H⟩ := H
                        replace H : (some t127) = some r := H
                        have A115 := Aside0.mk A1150
                        clear A1150
                        obtain rfl := Option.some.inj H
                        go_wp2_with (first | ((with_reducible refine gate_callee (f := 29) rfl ?_); refine goesL_ (some 148) rfl rfl Try.func29 (by kernel_rfl) rfl #[] rfl (by (try simp only [List.map_toArray, List.map_cons, List.map_nil]); first | done | rfl | (simp only [List.length_drop, List.length_take]; rfl)) ?_; (with_reducible refine (pacemakerlaw25_credited.calls k3  t127 _ A115.out).mono ?_); rintro e w116 ⟨rfl, hb⟩; refine ⟨_, rfl, ?_⟩; have n0_ := Aside0.mk (Kd.R_below (by (with_reducible repeat (first | apply Kd.R_alloc | apply Kd.R_drewN | apply Kd.R_drew)); exact HO_9.out) hb); have n1_ := Aside0.mk (Kd.R_below (by (with_reducible repeat (first | apply Kd.R_alloc | apply Kd.R_drewN | apply Kd.R_drew)); exact HO_10.out) hb); have n2_ := Aside0.mk (blk_below (g := gb104) (o := .cells #[.int .i64 x105000_2, .int .i64 x105001_2] 29 (0, 0)) (by (with_reducible repeat (first | refine blk_drewN ?_ _ | refine blk_drew ?_ | refine blk_alloc ?_ _)); exact BK104.out) hb); have n3_ := Aside0.mk (below_step (by repeat (first | (with_reducible first | exact HB.out | apply below_alloc | apply pw_below_drewN | apply below_drew1 | refine below_set ?_ GE104.out) | exact HB.out)) hb); clear HO_9; clear HO_10; clear BK104; clear HB; have HO_9 := n0_; have HO_10 := n1_; have BK104 := n2_; have HB := n3_; clear n0_ n1_ n2_ n3_; (try clear hb); (try clear hb2); (try clear hk); (try clear hi)))
                        go_ret
                        exact ⟨by first | rfl | (simp [errW_none, errW_some] <;> rfl) | (simp [*, errW_none, errW_some] <;> rfl), by repeat (first | (with_reducible first | exact HB.out | apply below_alloc | apply pw_below_drewN | apply below_drew1 | refine below_set ?_ GE104.out) | exact HB.out)⟩
          · rw [if_neg c18] at H
            exact absurd H (by simp)
        · rw [if_neg c17] at H
          exact absurd H (by simp)

end Go.Proofs.Ytpfhlimcemkneaa.P
