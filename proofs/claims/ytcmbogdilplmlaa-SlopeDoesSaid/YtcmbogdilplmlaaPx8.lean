-- Printed by a program of this session (wip/pp.py): functions, contracts, rows. Not trusted: Lean checks it.
import Derived.Test.YtcmbogdilplmlaaPx0
import Derived.Test.YtcmbogdilplmlaaPx7
namespace Go.Proofs.Ytcmbogdilplmlaa.P
open Go.RowKit Go.Proofs.YtcmbogdilplmlaaW.PrintWords Go.Proofs.YtcmbogdilplmlaaW.PrintLast Go.Proofs.YtcmbogdilplmlaaW.PrintMore Go.Proofs.YtcmbogdilplmlaaX
attribute [local go_sem] max2_int min2_int max_two min_two max_three min_three max_four min_four   -- for this text's walks alone
set_option linter.unusedVariables false
set_option linter.unusedSimpArgs false

/-! ### pacemakerref10_Ratio: function 11 -/
mutual
def pacemakerref10_Ratio.j0 : Nat → Bool → Int → Int → Int → Int → Option (Int)
 | 0, _, _, _, _, _ => none
 | k + 1, x17, x102000, x102001, x103000, x103001 => if x17 = true then (some 0) else (pacemakerref10_Ratio.l0 k 0 147 x102000 x102001 x103000 x103001 0 0)
def pacemakerref10_Ratio.l0 : Nat → Int → Int → Int → Int → Int → Int → Int → Int → Option (Int)
 | 0, _, _, _, _, _, _, _, _ => none
 | k + 1, x5, x7, x102000, x102001, x103000, x103001, x104000, x104001 => if x7 ≥ 0 then (if x7 ≥ 84 then (if 0 ≤ (wrap64 (x7 - 84)) then (pacemakerref10_Ratio.j2 k x5 x7 ((x104000 / 9223372036854775808) == 1) (Int.tmod (shr .u64 x102000 (wrap64 (x7 - 84))) 2) x102000 x102001 x103000 x103001 x104000 x104001) else (none)) else (if x7 ≥ 20 then (if 0 ≤ (wrap64 (x7 - 20)) then (pacemakerref10_Ratio.j2 k x5 x7 ((x104000 / 9223372036854775808) == 1) (Int.tmod (shr .u64 x102001 (wrap64 (x7 - 20))) 2) x102000 x102001 x103000 x103001 x104000 x104001) else (none)) else (pacemakerref10_Ratio.j2 k x5 x7 ((x104000 / 9223372036854775808) == 1) 0 x102000 x102001 x103000 x103001 x104000 x104001))) else (if x5 < 4611686018427387904 then ((pacemakerref10_minus.f x103000 x103001 x104000 x104001).bind fun bt109 => ((pacemakerref10_less.f x104000 x104001 bt109.1 bt109.2).bind fun t111 => (if t111 = true then (some (mn x5 4611686018427387904)) else (some (mn (wrap64 (x5 + 1)) 4611686018427387904))))) else (some (mn x5 4611686018427387904)))
def pacemakerref10_Ratio.j2 : Nat → Int → Int → Bool → Int → Int → Int → Int → Int → Int → Int → Option (Int)
 | 0, _, _, _, _, _, _, _, _, _, _ => none
 | k + 1, x5, x7, x8, x9, x102000, x102001, x103000, x103001, x104000, x104001 => if x5 ≥ 4611686018427387904 then (some 4611686018427387904) else (if x8 = true then ((pacemakerref10_minus.f (Go.bits .or .u64 (IntKind.u64.wrap (x104000 * 2)) (x104001 / 9223372036854775808)) (Go.bits .or .u64 (IntKind.u64.wrap (x104001 * 2)) x9) x103000 x103001).bind fun bt104 => (pacemakerref10_Ratio.l0 k (wrap64 ((wrap64 (2 * x5)) + 1)) (wrap64 (x7 - 1)) x102000 x102001 x103000 x103001 bt104.1 bt104.2)) else ((pacemakerref10_less.f (Go.bits .or .u64 (IntKind.u64.wrap (x104000 * 2)) (x104001 / 9223372036854775808)) (Go.bits .or .u64 (IntKind.u64.wrap (x104001 * 2)) x9) x103000 x103001).bind fun t106 => (if t106 = true then (pacemakerref10_Ratio.l0 k (wrap64 (2 * x5)) (wrap64 (x7 - 1)) x102000 x102001 x103000 x103001 (Go.bits .or .u64 (IntKind.u64.wrap (x104000 * 2)) (x104001 / 9223372036854775808)) (Go.bits .or .u64 (IntKind.u64.wrap (x104001 * 2)) x9)) else ((pacemakerref10_minus.f (Go.bits .or .u64 (IntKind.u64.wrap (x104000 * 2)) (x104001 / 9223372036854775808)) (Go.bits .or .u64 (IntKind.u64.wrap (x104001 * 2)) x9) x103000 x103001).bind fun bt107 => (pacemakerref10_Ratio.l0 k (wrap64 ((wrap64 (2 * x5)) + 1)) (wrap64 (x7 - 1)) x102000 x102001 x103000 x103001 bt107.1 bt107.2)))))
end
def pacemakerref10_Ratio.f (k : Nat) (a0_0 : Int) (a0_1 : Int) (a1_0 : Int) (a1_1 : Int) : Option (Int) := if a0_0 = 0 then (pacemakerref10_Ratio.j0 k (a0_1 == 0) a0_0 a0_1 a1_0 a1_1) else (pacemakerref10_Ratio.j0 k false a0_0 a0_1 a1_0 a1_1)
def pacemakerref10_Ratio.T21 : Bool × List (List Nat × List Nat) := (true, [([], []), ([0], [0]), ([1], [1]), ([2], [2]), ([2], [2]), ([2], [2]), ([4, 5, 2, 2], [2, 4, 5]), ([3, 6, 6, 2], [2, 3, 6]), ([7, 2], [2, 7]), ([2, 8], [2, 8])])
def pacemakerref10_Ratio.B21 : List Nat := [0, 1, 3, 7, 7, 7, 55, 127, 255, 511]
theorem pacemakerref10_Ratio.tab21 : rtab .any (opsOf Try.f11 21) = pacemakerref10_Ratio.T21 := by kernel_rfl
theorem pacemakerref10_Ratio.bits21 : waitsOk pacemakerref10_Ratio.T21.2 pacemakerref10_Ratio.B21 = true := by kernel_rfl
set_option maxHeartbeats 8000000 in
set_option maxRecDepth 100000 in
theorem pacemakerref10_Ratio.calls (k : Nat) (a0_0 : Int) (a0_1 : Int) (a1_0 : Int) (a1_1 : Int) (r : Int) (w : World) (h : pacemakerref10_Ratio.f k a0_0 a0_1 a1_0 a1_1 = some r) :
  Calls Try.prog 11 #[.agg #[.int .u64 a0_0, .int .u64 a0_1], .agg #[.int .u64 a1_0, .int .u64 a1_1]] w fun e w' => e = .returned (.int .i64 r) ∧ Below w.heap.size w w' := by
 have hu24 := Try.underlying24
 have HB := Aside0.mk (Below.refl w.heap.size w)
 have H : (if a0_0 = 0 then (pacemakerref10_Ratio.j0 k (a0_1 == 0) a0_0 a0_1 a1_0 a1_1) else (pacemakerref10_Ratio.j0 k false a0_0 a0_1 a1_0 a1_1)) = some r := h
 clear h
 have HC3 := Aside0.mk H
 clear H
 go_enter Try.func11, Try.ntmps11
 go_upto_region 1 with (first | ((with_reducible refine gate_dst (N := 2) rfl ?_); refine box_event ?hg (N := 2) ?hd (cs := #[.int .u64 a0_0, .int .u64 a0_1]) (t := 24) ?hr ?_; (case hd => rfl); (case hg => rfl); (case hr => first | (go_simp; done) | (go_simp; rfl)); intro gb101 hg w4 hbox hb; have n0_ := Aside0.mk (below_step (by repeat (first | (with_reducible first | exact HB.out | apply below_alloc | apply pw_below_drewN | apply below_drew1) | exact HB.out)) hb); have n1_ := Aside0.mk (hbox); have n2_ := Aside0.mk ((by rw [hg]; exact (below_size (by repeat (first | (with_reducible first | exact HB.out | apply below_alloc | apply pw_below_drewN | apply below_drew1) | exact HB.out))) : w.heap.size ≤ gb101)); have n3_ := Aside0.mk ((by rw [hg]; exact (below_size (by repeat (first | (with_reducible first | exact HB.out | apply below_alloc | apply pw_below_drewN | apply below_drew1) | exact HB.out))) : w.heap.size ≤ gb101)); clear HB; have HB := n0_; have BK101 := n1_; have GW101 := n2_; have GE101 := n3_; clear n0_ n1_ n2_ n3_; clear hb hbox hg) | ((with_reducible refine gate_dst (N := 3) rfl ?_); refine box_event ?hg (N := 3) ?hd (cs := #[.int .u64 a1_0, .int .u64 a1_1]) (t := 24) ?hr ?_; (case hd => rfl); (case hg => rfl); (case hr => first | (go_simp; done) | (go_simp; rfl)); intro gb102 hg w5 hbox hb; have n0_ := Aside0.mk (blk_below (g := gb101) (o := .cells #[.int .u64 a0_0, .int .u64 a0_1] 24 (0, 0)) (by (with_reducible repeat (first | refine blk_drewN ?_ _ | refine blk_drew ?_ | refine blk_alloc ?_ _)); exact BK101.out) hb); have n1_ := Aside0.mk (below_step (by repeat (first | (with_reducible first | exact HB.out | apply below_alloc | apply pw_below_drewN | apply below_drew1 | refine below_set ?_ GE101.out) | exact HB.out)) hb); have n2_ := Aside0.mk (hbox); have n3_ := Aside0.mk ((by rw [hg]; exact (below_size (by repeat (first | (with_reducible first | exact HB.out | apply below_alloc | apply pw_below_drewN | apply below_drew1 | refine below_set ?_ GE101.out) | exact HB.out))) : w.heap.size ≤ gb102)); have n4_ := Aside0.mk ((by rw [hg]; exact (below_size (by repeat (first | (with_reducible first | exact HB.out | apply below_alloc | apply pw_below_drewN | apply below_drew1 | refine below_set ?_ GE101.out) | exact HB.out))) : w.heap.size ≤ gb102)); have n5_ := Aside0.mk ((by rw [hg]; exact Nat.ne_of_lt (blk_lt (g := gb101) (o := .cells #[.int .u64 a0_0, .int .u64 a0_1] 24 (0, 0)) (by (with_reducible repeat (first | refine blk_drewN ?_ _ | refine blk_drew ?_ | refine blk_alloc ?_ _)); exact BK101.out)) : gb101 ≠ gb102)); have n6_ := Aside0.mk ((by rw [hg]; exact Nat.ne_of_gt (blk_lt (g := gb101) (o := .cells #[.int .u64 a0_0, .int .u64 a0_1] 24 (0, 0)) (by (with_reducible repeat (first | refine blk_drewN ?_ _ | refine blk_drew ?_ | refine blk_alloc ?_ _)); exact BK101.out)) : gb102 ≠ gb101)); clear BK101; clear HB; have BK101 := n0_; have HB := n1_; have BK102 := n2_; have GW102 := n3_; have GE102 := n4_; have NB101_102 := n5_; have NB102_101 := n6_; clear n0_ n1_ n2_ n3_ n4_ n5_ n6_; clear hb hbox hg))
 (try simp only [Act.put, List.setIfInBounds_toArray, List.set_cons_zero, List.set_cons_succ])
 go_cut [17] (fun v17 wc => ∃ (kq : Nat) (x17_2 : Bool), v17 = .bool x17_2 ∧ Aside0 (pacemakerref10_Ratio.j0 kq x17_2 a0_0 a0_1 a1_0 a1_1 = some r) ∧ Aside0 (kq ≤ k) ∧ Aside0 (wc.heap[gb101]? = some (.cells #[.int .u64 a0_0, .int .u64 a0_1] 24 (0, 0))) ∧ Aside0 (wc.heap[gb102]? = some (.cells #[.int .u64 a1_0, .int .u64 a1_1] 24 (0, 0))) ∧ Aside0 (Below w.heap.size w wc))
 case first =>
  have H := HC3.out
  clear HC3
  by_cases c6 : a0_0 = 0
  ·rw [if_pos c6] at H
   have c6b0 : (a0_0 == 0) = true := beq_iff_eq.mpr c6
   have c6b1 : (a0_0 != 0) = false := bne_eq_false_iff_eq.mpr c6
   clear c6
   (first | rw [c6b0] | (simp only [i64_w, i32_w]; rw [c6b0]) | skip)
   have H' := Aside0.mk H
   clear H
   have hnb7 := NB101_102.out
   have hnc7 := NB102_101.out
   have hcz8_0 : w5.cell? ⟨gb101, 0, none⟩ = some (.int .u64 a0_0) := (blk_cell BK101.out 0).trans rfl
   have hcz8_1 : w5.cell? ⟨gb101, 1, none⟩ = some (.int .u64 a0_1) := (blk_cell BK101.out 1).trans rfl
   have hfz8_0 := blk_frozen BK101.out 0
   have hfz8_1 := blk_frozen BK101.out 1
   go_wp2
   go_meet
   case rel => exact ⟨_, ((a0_1 == 0)), (by first | rfl | (simp; done) | (simp [*]; done)), H', ⟨by first | omega | exact Nat.le_refl _⟩, ⟨by (with_reducible repeat (first | refine blk_drewN ?_ _ | refine blk_drew ?_ | refine blk_alloc ?_ _)); exact BK101.out⟩, ⟨by (with_reducible repeat (first | refine blk_drewN ?_ _ | refine blk_drew ?_ | refine blk_alloc ?_ _)); exact BK102.out⟩, ⟨by repeat (first | (with_reducible first | exact HB.out | apply below_alloc | apply pw_below_drewN | apply below_drew1 | refine below_set ?_ GE101.out | refine below_set ?_ GE102.out) | exact HB.out)⟩⟩
  ·rw [if_neg c6] at H
   have c6b0 : (a0_0 == 0) = false := beq_eq_false_iff_ne.mpr c6
   have c6b1 : (a0_0 != 0) = true := bne_iff_ne.mpr c6
   (first | rw [c6b0] | (simp only [i64_w, i32_w]; rw [c6b0]) | skip)
   have H' := Aside0.mk H
   clear H
   have hnb9 := NB101_102.out
   have hnc9 := NB102_101.out
   have hcz10_0 : w5.cell? ⟨gb101, 0, none⟩ = some (.int .u64 a0_0) := (blk_cell BK101.out 0).trans rfl
   have hcz10_1 : w5.cell? ⟨gb101, 1, none⟩ = some (.int .u64 a0_1) := (blk_cell BK101.out 1).trans rfl
   have hfz10_0 := blk_frozen BK101.out 0
   have hfz10_1 := blk_frozen BK101.out 1
   go_wp2
   go_meet
   case rel => exact ⟨_, (false), (by first | rfl | (simp; done) | (simp [*]; done)), H', ⟨by first | omega | exact Nat.le_refl _⟩, ⟨by (with_reducible repeat (first | refine blk_drewN ?_ _ | refine blk_drew ?_ | refine blk_alloc ?_ _)); exact BK101.out⟩, ⟨by (with_reducible repeat (first | refine blk_drewN ?_ _ | refine blk_drew ?_ | refine blk_alloc ?_ _)); exact BK102.out⟩, ⟨by repeat (first | (with_reducible first | exact HB.out | apply below_alloc | apply pw_below_drewN | apply below_drew1 | refine below_set ?_ GE101.out | refine below_set ?_ GE102.out) | exact HB.out)⟩⟩
 case rest =>
  clear HC3
  try clear c1
  try clear p2
  try clear c6
  try clear c6b0
  try clear c6b1
  try clear c7
  try clear c9
  try clear hcz10_0
  try clear hcz10_1
  try clear hcz8_0
  try clear hcz8_1
  try clear hfz10_0
  try clear hfz10_1
  try clear hfz8_0
  try clear hfz8_1
  obtain ⟨kq, x17_2, rfl, HA, HJ2, BK101, BK102, HB⟩ := hcut
  cases kq with
  | zero => exact absurd HA.out (by simp [pacemakerref10_Ratio.j0])
  | succ kj2 =>
   have H := HA.out
   clear HA
   simp only [pacemakerref10_Ratio.j0] at H
   by_cases c11 : x17_2 = true
   ·subst c11
    have H1 : (some 0) = some r := by rw [if_pos rfl] at H; exact H
    clear H
    have H := H1
    clear H1
    obtain rfl := Option.some.inj H
    go_wp2
    go_ret
    exact ⟨by first | rfl | (simp [errW_none, errW_some] <;> rfl) | (simp [*, errW_none, errW_some] <;> rfl), by repeat (first | (with_reducible first | exact HB.out | apply below_alloc | apply pw_below_drewN | apply below_drew1 | refine below_set ?_ GE101.out | refine below_set ?_ GE102.out) | exact HB.out)⟩
   ·replace c11 := Bool.eq_false_iff.mpr c11
    subst c11
    have H1 : (pacemakerref10_Ratio.l0 kj2 0 147 a0_0 a0_1 a1_0 a1_1 0 0) = some r := by rw [if_neg (show ¬ (false = true) by decide)] at H; exact H
    clear H
    have H := H1
    clear H1
    have H' := Aside0.mk H
    clear H
    go_wp2_with (first | ((with_reducible refine gate_dst (N := 6) rfl ?_); refine box_event ?hg (N := 6) ?hd (cs := #[.int .u64 0, .int .u64 0]) (t := 24) ?hr ?_; (case hd => rfl); (case hg => rfl); (case hr => first | (go_simp; done) | (go_simp; rfl)); intro gb103 hg w12 hbox hb; have n0_ := Aside0.mk (blk_below (g := gb101) (o := .cells #[.int .u64 a0_0, .int .u64 a0_1] 24 (0, 0)) (by (with_reducible repeat (first | refine blk_drewN ?_ _ | refine blk_drew ?_ | refine blk_alloc ?_ _)); exact BK101.out) hb); have n1_ := Aside0.mk (blk_below (g := gb102) (o := .cells #[.int .u64 a1_0, .int .u64 a1_1] 24 (0, 0)) (by (with_reducible repeat (first | refine blk_drewN ?_ _ | refine blk_drew ?_ | refine blk_alloc ?_ _)); exact BK102.out) hb); have n2_ := Aside0.mk (below_step (by repeat (first | (with_reducible first | exact HB.out | apply below_alloc | apply pw_below_drewN | apply below_drew1 | refine below_set ?_ GE101.out | refine below_set ?_ GE102.out) | exact HB.out)) hb); have n3_ := Aside0.mk (hbox); have n4_ := Aside0.mk ((by rw [hg]; exact (below_size (by repeat (first | (with_reducible first | exact HB.out | apply below_alloc | apply pw_below_drewN | apply below_drew1 | refine below_set ?_ GE101.out | refine below_set ?_ GE102.out) | exact HB.out))) : w.heap.size ≤ gb103)); have n5_ := Aside0.mk ((by rw [hg]; exact (below_size (by repeat (first | (with_reducible first | exact HB.out | apply below_alloc | apply pw_below_drewN | apply below_drew1 | refine below_set ?_ GE101.out | refine below_set ?_ GE102.out) | exact HB.out))) : w.heap.size ≤ gb103)); have n6_ := Aside0.mk ((by rw [hg]; exact Nat.ne_of_lt (blk_lt (g := gb101) (o := .cells #[.int .u64 a0_0, .int .u64 a0_1] 24 (0, 0)) (by (with_reducible repeat (first | refine blk_drewN ?_ _ | refine blk_drew ?_ | refine blk_alloc ?_ _)); exact BK101.out)) : gb101 ≠ gb103)); have n7_ := Aside0.mk ((by rw [hg]; exact Nat.ne_of_gt (blk_lt (g := gb101) (o := .cells #[.int .u64 a0_0, .int .u64 a0_1] 24 (0, 0)) (by (with_reducible repeat (first | refine blk_drewN ?_ _ | refine blk_drew ?_ | refine blk_alloc ?_ _)); exact BK101.out)) : gb103 ≠ gb101)); have n8_ := Aside0.mk ((by rw [hg]; exact Nat.ne_of_lt (blk_lt (g := gb102) (o := .cells #[.int .u64 a1_0, .int .u64 a1_1] 24 (0, 0)) (by (with_reducible repeat (first | refine blk_drewN ?_ _ | refine blk_drew ?_ | refine blk_alloc ?_ _)); exact BK102.out)) : gb102 ≠ gb103)); have n9_ := Aside0.mk ((by rw [hg]; exact Nat.ne_of_gt (blk_lt (g := gb102) (o := .cells #[.int .u64 a1_0, .int .u64 a1_1] 24 (0, 0)) (by (with_reducible repeat (first | refine blk_drewN ?_ _ | refine blk_drew ?_ | refine blk_alloc ?_ _)); exact BK102.out)) : gb103 ≠ gb102)); clear BK101; clear BK102; clear HB; have BK101 := n0_; have BK102 := n1_; have HB := n2_; have BK103 := n3_; have GW103 := n4_; have GE103 := n5_; have NB101_103 := n6_; have NB103_101 := n7_; have NB102_103 := n8_; have NB103_102 := n9_; clear n0_ n1_ n2_ n3_ n4_ n5_ n6_ n7_ n8_ n9_; clear hb hbox hg))
    go_loopg [5, 7] kj2 (fun kq v5 v7 w' => ∃ (x5_2 : Int) (x7_2 : Int) (x104000_2 : Int) (x104001_2 : Int), v5 = .int .i64 x5_2 ∧ v7 = .int .i64 x7_2 ∧ Aside0 (pacemakerref10_Ratio.l0 kq x5_2 x7_2 a0_0 a0_1 a1_0 a1_1 x104000_2 x104001_2 = some r) ∧ Aside0 (kq ≤ kj2) ∧ Aside0 (w'.heap[gb101]? = some (.cells #[.int .u64 a0_0, .int .u64 a0_1] 24 (0, 0))) ∧ Aside0 (w'.heap[gb102]? = some (.cells #[.int .u64 a1_0, .int .u64 a1_1] 24 (0, 0))) ∧ Aside0 (w'.heap[gb103]? = some (.cells #[.int .u64 x104000_2, .int .u64 x104001_2] 24 (0, 0))) ∧ Aside0 (Below w.heap.size w w'))
    case atStart => exact ⟨(0), (147), (0), (0), (by first | rfl | (simp; done) | (simp [*]; done)), (by first | rfl | (simp; done) | (simp [*]; done)), H', ⟨Nat.le_refl _⟩, ⟨by (with_reducible repeat (first | refine blk_drewN ?_ _ | refine blk_drew ?_ | refine blk_alloc ?_ _)); exact BK101.out⟩, ⟨by (with_reducible repeat (first | refine blk_drewN ?_ _ | refine blk_drew ?_ | refine blk_alloc ?_ _)); exact BK102.out⟩, ⟨by (with_reducible repeat (first | refine blk_drewN ?_ _ | refine blk_drew ?_ | refine blk_alloc ?_ _)); exact BK103.out⟩, ⟨by repeat (first | (with_reducible first | exact HB.out | apply below_alloc | apply pw_below_drewN | apply below_drew1 | refine below_set ?_ GE101.out | refine below_set ?_ GE102.out | refine below_set ?_ GE103.out) | exact HB.out)⟩⟩
    case round =>
     clear H'
     try clear c1
     try clear p2
     try clear c6
     try clear c6b0
     try clear c6b1
     try clear c7
     try clear c9
     try clear c11
     try clear hcz10_0
     try clear hcz10_1
     try clear hcz8_0
     try clear hcz8_1
     try clear hfz10_0
     try clear hfz10_1
     try clear hfz8_0
     try clear hfz8_1
     try clear p2
     obtain ⟨x5_2, x7_2, x104000_2, x104001_2, rfl, rfl, HA, HK2, BK101, BK102, BK103, HB⟩ := hrel
     cases gk with
     | zero => exact absurd HA.out (by simp [pacemakerref10_Ratio.l0])
     | succ k2 =>
      have H := HA.out
      clear HA
      simp only [pacemakerref10_Ratio.l0] at H
      by_cases c13 : x7_2 ≥ 0
      ·rw [if_pos c13] at H
       have c13b0 : decide (0 ≤ x7_2) = true := decide_eq_true c13
       clear c13
       have HC14 := Aside0.mk H
       clear H
       have hnb15 := NB103_101.out
       have hnc15 := NB101_103.out
       have hnb16 := NB103_102.out
       have hnc16 := NB102_103.out
       have hcz17_0 : wr.cell? ⟨gb103, 0, none⟩ = some (.int .u64 x104000_2) := (blk_cell BK103.out 0).trans rfl
       have hcz17_1 : wr.cell? ⟨gb103, 1, none⟩ = some (.int .u64 x104001_2) := (blk_cell BK103.out 1).trans rfl
       have hfz17_0 := blk_frozen BK103.out 0
       have hfz17_1 := blk_frozen BK103.out 1
       go_upto_if 27 with (fail)
       go_cut [9] (fun v9 wc => ∃ (kq : Nat) (x9_13 : Int), v9 = .int .u64 x9_13 ∧ Aside0 (pacemakerref10_Ratio.j2 kq x5_2 x7_2 ((x104000_2 / 9223372036854775808) == 1) x9_13 a0_0 a0_1 a1_0 a1_1 x104000_2 x104001_2 = some r) ∧ Aside0 (kq ≤ k2) ∧ Aside0 (wc.heap[gb101]? = some (.cells #[.int .u64 a0_0, .int .u64 a0_1] 24 (0, 0))) ∧ Aside0 (wc.heap[gb102]? = some (.cells #[.int .u64 a1_0, .int .u64 a1_1] 24 (0, 0))) ∧ Aside0 (wc.heap[gb103]? = some (.cells #[.int .u64 x104000_2, .int .u64 x104001_2] 24 (0, 0))) ∧ Aside0 (Below w.heap.size w wc))
       case first =>
        have H := HC14.out
        clear HC14
        by_cases c18 : x7_2 ≥ 84
        ·rw [if_pos c18] at H
         have c18b0 : decide (84 ≤ x7_2) = true := decide_eq_true c18
         clear c18
         (first | rw [c18b0] | (simp only [i64_w, i32_w]; rw [c18b0]) | skip)
         obtain ⟨ji19, hji19⟩ : ∃ j_ : Int, (wrap64 (x7_2 - 84)) = j_ := ⟨_, rfl⟩
         replace H : (if 0 ≤ (ji19) then (pacemakerref10_Ratio.j2 k2 x5_2 x7_2 ((x104000_2 / 9223372036854775808) == 1) (Int.tmod (shr .u64 a0_0 (ji19)) 2) a0_0 a0_1 a1_0 a1_1 x104000_2 x104001_2) else (none)) = some r := by first | (rw [hji19] at H; exact H) | (simp only [hji19] at H ⊢; exact H)
         have hji19w : (IntKind.i64.wrap (x7_2 - 84)) = ji19 := (i64_w _).trans hji19
         by_cases c20 : 0 ≤ (ji19)
         ·rw [if_pos c20] at H
          have c20b0 := eq_true c20
          have c20b1 : decide (0 ≤ (ji19)) = true := decide_eq_true c20
          clear c20
          obtain ⟨ji21, hji21⟩ : ∃ j_ : Int, (shr .u64 a0_0 (ji19)) = j_ := ⟨_, rfl⟩
          replace H : (pacemakerref10_Ratio.j2 k2 x5_2 x7_2 ((x104000_2 / 9223372036854775808) == 1) (Int.tmod (ji21) 2) a0_0 a0_1 a1_0 a1_1 x104000_2 x104001_2) = some r := by first | (rw [hji21] at H; exact H) | (simp only [hji21] at H ⊢; exact H)
          have hji21_ : (a0_0 / 2 ^ min (ji19).toNat 64) = ji21 := hji21
          have hji21z : (ji19) ≤ 64 → (a0_0 / 2 ^ (ji19).toNat) = ji21 := shr_small hji21
          have H' := Aside0.mk H
          clear H
          have hnb22 := NB101_102.out
          have hnc22 := NB102_101.out
          have hnb23 := NB101_103.out
          have hnc23 := NB103_101.out
          have hcz24_0 : wr.cell? ⟨gb101, 0, none⟩ = some (.int .u64 a0_0) := (blk_cell BK101.out 0).trans rfl
          have hcz24_1 : wr.cell? ⟨gb101, 1, none⟩ = some (.int .u64 a0_1) := (blk_cell BK101.out 1).trans rfl
          have hfz24_0 := blk_frozen BK101.out 0
          have hfz24_1 := blk_frozen BK101.out 1
          go_wp2
          go_meet
          case rel => exact ⟨_, (Int.tmod (ji21) 2), (by first | rfl | (simp; done) | (simp only [← hji21] <;> (first | rfl | simp)) | (simp [*]; done)), H', ⟨by have := HJ2.out; have := HK2.out; first | omega | exact Nat.le_refl _⟩, ⟨by (with_reducible repeat (first | refine blk_drewN ?_ _ | refine blk_drew ?_ | refine blk_alloc ?_ _)); exact BK101.out⟩, ⟨by (with_reducible repeat (first | refine blk_drewN ?_ _ | refine blk_drew ?_ | refine blk_alloc ?_ _)); exact BK102.out⟩, ⟨by (with_reducible repeat (first | refine blk_drewN ?_ _ | refine blk_drew ?_ | refine blk_alloc ?_ _)); exact BK103.out⟩, ⟨by repeat (first | (with_reducible first | exact HB.out | apply below_alloc | apply pw_below_drewN | apply below_drew1 | refine below_set ?_ GE101.out | refine below_set ?_ GE102.out | refine below_set ?_ GE103.out) | exact HB.out)⟩⟩
         ·rw [if_neg c20] at H
          exact absurd H (by simp)
        ·rw [if_neg c18] at H
         have c18b0 : decide (84 ≤ x7_2) = false := decide_eq_false c18
         clear c18
         (first | rw [c18b0] | (simp only [i64_w, i32_w]; rw [c18b0]) | skip)
         by_cases c25 : x7_2 ≥ 20
         ·rw [if_pos c25] at H
          have c25b0 : decide (20 ≤ x7_2) = true := decide_eq_true c25
          clear c25
          obtain ⟨ji26, hji26⟩ : ∃ j_ : Int, (wrap64 (x7_2 - 20)) = j_ := ⟨_, rfl⟩
          replace H : (if 0 ≤ (ji26) then (pacemakerref10_Ratio.j2 k2 x5_2 x7_2 ((x104000_2 / 9223372036854775808) == 1) (Int.tmod (shr .u64 a0_1 (ji26)) 2) a0_0 a0_1 a1_0 a1_1 x104000_2 x104001_2) else (none)) = some r := by first | (rw [hji26] at H; exact H) | (simp only [hji26] at H ⊢; exact H)
          have hji26w : (IntKind.i64.wrap (x7_2 - 20)) = ji26 := (i64_w _).trans hji26
          by_cases c27 : 0 ≤ (ji26)
          ·rw [if_pos c27] at H
           have c27b0 := eq_true c27
           have c27b1 : decide (0 ≤ (ji26)) = true := decide_eq_true c27
           clear c27
           obtain ⟨ji28, hji28⟩ : ∃ j_ : Int, (shr .u64 a0_1 (ji26)) = j_ := ⟨_, rfl⟩
           replace H : (pacemakerref10_Ratio.j2 k2 x5_2 x7_2 ((x104000_2 / 9223372036854775808) == 1) (Int.tmod (ji28) 2) a0_0 a0_1 a1_0 a1_1 x104000_2 x104001_2) = some r := by first | (rw [hji28] at H; exact H) | (simp only [hji28] at H ⊢; exact H)
           have hji28_ : (a0_1 / 2 ^ min (ji26).toNat 64) = ji28 := hji28
           have hji28z : (ji26) ≤ 64 → (a0_1 / 2 ^ (ji26).toNat) = ji28 := shr_small hji28
           have H' := Aside0.mk H
           clear H
           have hnb29 := NB101_102.out
           have hnc29 := NB102_101.out
           have hnb30 := NB101_103.out
           have hnc30 := NB103_101.out
           have hcz31_0 : wr.cell? ⟨gb101, 0, none⟩ = some (.int .u64 a0_0) := (blk_cell BK101.out 0).trans rfl
           have hcz31_1 : wr.cell? ⟨gb101, 1, none⟩ = some (.int .u64 a0_1) := (blk_cell BK101.out 1).trans rfl
           have hfz31_0 := blk_frozen BK101.out 0
           have hfz31_1 := blk_frozen BK101.out 1
           go_wp2
           go_meet
           case rel => exact ⟨_, (Int.tmod (ji28) 2), (by first | rfl | (simp; done) | (simp only [← hji28] <;> (first | rfl | simp)) | (simp [*]; done)), H', ⟨by have := HJ2.out; have := HK2.out; first | omega | exact Nat.le_refl _⟩, ⟨by (with_reducible repeat (first | refine blk_drewN ?_ _ | refine blk_drew ?_ | refine blk_alloc ?_ _)); exact BK101.out⟩, ⟨by (with_reducible repeat (first | refine blk_drewN ?_ _ | refine blk_drew ?_ | refine blk_alloc ?_ _)); exact BK102.out⟩, ⟨by (with_reducible repeat (first | refine blk_drewN ?_ _ | refine blk_drew ?_ | refine blk_alloc ?_ _)); exact BK103.out⟩, ⟨by repeat (first | (with_reducible first | exact HB.out | apply below_alloc | apply pw_below_drewN | apply below_drew1 | refine below_set ?_ GE101.out | refine below_set ?_ GE102.out | refine below_set ?_ GE103.out) | exact HB.out)⟩⟩
          ·rw [if_neg c27] at H
           exact absurd H (by simp)
         ·rw [if_neg c25] at H
          have c25b0 : decide (20 ≤ x7_2) = false := decide_eq_false c25
          clear c25
          have H' := Aside0.mk H
          clear H
          go_wp2
          go_meet
          case rel => exact ⟨_, (0), (by first | rfl | (simp; done) | (simp [*]; done)), H', ⟨by have := HJ2.out; have := HK2.out; first | omega | exact Nat.le_refl _⟩, ⟨by (with_reducible repeat (first | refine blk_drewN ?_ _ | refine blk_drew ?_ | refine blk_alloc ?_ _)); exact BK101.out⟩, ⟨by (with_reducible repeat (first | refine blk_drewN ?_ _ | refine blk_drew ?_ | refine blk_alloc ?_ _)); exact BK102.out⟩, ⟨by (with_reducible repeat (first | refine blk_drewN ?_ _ | refine blk_drew ?_ | refine blk_alloc ?_ _)); exact BK103.out⟩, ⟨by repeat (first | (with_reducible first | exact HB.out | apply below_alloc | apply pw_below_drewN | apply below_drew1 | refine below_set ?_ GE101.out | refine below_set ?_ GE102.out | refine below_set ?_ GE103.out) | exact HB.out)⟩⟩
       case rest =>
        clear HC14
        try clear c1
        try clear c2
        try clear p2
        try clear c3
        try clear c6
        try clear c6b0
        try clear c6b1
        try clear p6
        try clear c7
        try clear c9
        try clear c11
        try clear c13
        try clear c13b0
        try clear c15
        try clear c16
        try clear c18
        try clear c18b0
        try clear c20
        try clear c20b0
        try clear c20b1
        try clear c22
        try clear c23
        try clear c25
        try clear c25b0
        try clear c27
        try clear c27b0
        try clear c27b1
        try clear c29
        try clear c30
        try clear hcz10_0
        try clear hcz10_1
        try clear hcz17_0
        try clear hcz17_1
        try clear hcz24_0
        try clear hcz24_1
        try clear hcz31_0
        try clear hcz31_1
        try clear hcz8_0
        try clear hcz8_1
        try clear hfz10_0
        try clear hfz10_1
        try clear hfz17_0
        try clear hfz17_1
        try clear hfz24_0
        try clear hfz24_1
        try clear hfz31_0
        try clear hfz31_1
        try clear hfz8_0
        try clear hfz8_1
        try clear p2
        obtain ⟨kq, x9_13, rfl, HA, HJ13, BK101, BK102, BK103, HB⟩ := hcut
        cases kq with
        | zero => exact absurd HA.out (by simp [pacemakerref10_Ratio.j2])
        | succ kj13 =>
         have H := HA.out
         clear HA
         simp only [pacemakerref10_Ratio.j2] at H
         by_cases c32 : x5_2 ≥ 4611686018427387904
         ·rw [if_pos c32] at H
          have c32b0 : decide (4611686018427387904 ≤ x5_2) = true := decide_eq_true c32
          clear c32
          obtain rfl := Option.some.inj H
          have hnb33 := NB103_101.out
          have hnc33 := NB101_103.out
          have hnb34 := NB103_102.out
          have hnc34 := NB102_103.out
          have hcz35_0 : wc.cell? ⟨gb103, 0, none⟩ = some (.int .u64 x104000_2) := (blk_cell BK103.out 0).trans rfl
          have hcz35_1 : wc.cell? ⟨gb103, 1, none⟩ = some (.int .u64 x104001_2) := (blk_cell BK103.out 1).trans rfl
          have hfz35_0 := blk_frozen BK103.out 0
          have hfz35_1 := blk_frozen BK103.out 1
          go_wp2
          go_ret
          exact ⟨by first | rfl | (simp [errW_none, errW_some] <;> rfl) | (simp [*, errW_none, errW_some] <;> rfl), by repeat (first | (with_reducible first | exact HB.out | apply below_alloc | apply pw_below_drewN | apply below_drew1 | refine below_set ?_ GE101.out | refine below_set ?_ GE102.out | refine below_set ?_ GE103.out) | exact HB.out)⟩
         ·rw [if_neg c32] at H
          have c32b0 : decide (4611686018427387904 ≤ x5_2) = false := decide_eq_false c32
          clear c32
          by_cases c36 : ((x104000_2 / 9223372036854775808) == 1) = true
          ·rw [if_pos c36] at H
           have c36b0 : ((x104000_2 / 9223372036854775808) == 1) = true := c36
           (try (have c36b1 : decide ((x104000_2 / 9223372036854775808) = 1) = true := by simpa using c36))
           (try (have c36b2 : ((x104000_2 / 9223372036854775808) == 1) = true := by simpa using c36))
           clear c36
           replace H := Option.bind_eq_some_iff.mp H
           obtain ⟨⟨t104, t105⟩, A370, H⟩ := H
           replace H : (pacemakerref10_Ratio.l0 kj13 (wrap64 ((wrap64 (2 * x5_2)) + 1)) (wrap64 (x7_2 - 1)) a0_0 a0_1 a1_0 a1_1 t104 t105) = some r := H
           have A37 := Aside0.mk A370
           clear A370
           have H' := Aside0.mk H
           clear H
           have hnb38 := NB103_101.out
           have hnc38 := NB101_103.out
           have hnb39 := NB103_102.out
           have hnc39 := NB102_103.out
           have hcz40_0 : wc.cell? ⟨gb103, 0, none⟩ = some (.int .u64 x104000_2) := (blk_cell BK103.out 0).trans rfl
           have hcz40_1 : wc.cell? ⟨gb103, 1, none⟩ = some (.int .u64 x104001_2) := (blk_cell BK103.out 1).trans rfl
           have hfz40_0 := blk_frozen BK103.out 0
           have hfz40_1 := blk_frozen BK103.out 1
           have hnb41 := NB102_101.out
           have hnc41 := NB101_102.out
           have hcz42_0 : wc.cell? ⟨gb102, 0, none⟩ = some (.int .u64 a1_0) := (blk_cell BK102.out 0).trans rfl
           have hcz42_1 : wc.cell? ⟨gb102, 1, none⟩ = some (.int .u64 a1_1) := (blk_cell BK102.out 1).trans rfl
           have hfz42_0 := blk_frozen BK102.out 0
           have hfz42_1 := blk_frozen BK102.out 1
           go_wp2_with (first | ((with_reducible refine gate_callee (f := 26) rfl ?_); refine goesL_ (some 68) rfl rfl Try.func26 (by kernel_rfl) rfl #[.agg #[.int .u64 (Go.bits .or .u64 (IntKind.u64.wrap (x104000_2 * 2)) (x104001_2 / 9223372036854775808)), .int .u64 (Go.bits .or .u64 (IntKind.u64.wrap (x104001_2 * 2)) x9_13)], .agg #[.int .u64 a1_0, .int .u64 a1_1]] rfl (by (try simp only [List.map_toArray, List.map_cons, List.map_nil]); first | done | rfl | (simp only [List.length_drop, List.length_take]; rfl)) ?_; (with_reducible refine (pacemakerref10_minus.calls (Go.bits .or .u64 (IntKind.u64.wrap (x104000_2 * 2)) (x104001_2 / 9223372036854775808)) (Go.bits .or .u64 (IntKind.u64.wrap (x104001_2 * 2)) x9_13) a1_0 a1_1 t104 t105 _ A37.out).mono ?_); rintro e w43 ⟨rfl, hb⟩; refine ⟨_, rfl, ?_⟩; have n0_ := Aside0.mk (blk_below (g := gb101) (o := .cells #[.int .u64 a0_0, .int .u64 a0_1] 24 (0, 0)) (by (with_reducible repeat (first | refine blk_drewN ?_ _ | refine blk_drew ?_ | refine blk_alloc ?_ _)); refine blk_far ?_ NB101_103.out _; (with_reducible repeat (first | refine blk_drewN ?_ _ | refine blk_drew ?_ | refine blk_alloc ?_ _)); refine blk_far ?_ NB101_103.out _; (with_reducible repeat (first | refine blk_drewN ?_ _ | refine blk_drew ?_ | refine blk_alloc ?_ _)); exact BK101.out) hb); have n1_ := Aside0.mk (blk_below (g := gb102) (o := .cells #[.int .u64 a1_0, .int .u64 a1_1] 24 (0, 0)) (by (with_reducible repeat (first | refine blk_drewN ?_ _ | refine blk_drew ?_ | refine blk_alloc ?_ _)); refine blk_far ?_ NB102_103.out _; (with_reducible repeat (first | refine blk_drewN ?_ _ | refine blk_drew ?_ | refine blk_alloc ?_ _)); refine blk_far ?_ NB102_103.out _; (with_reducible repeat (first | refine blk_drewN ?_ _ | refine blk_drew ?_ | refine blk_alloc ?_ _)); exact BK102.out) hb); have n2_ := Aside0.mk (blk_below (g := gb103) (o := .cells #[.int .u64 (Go.bits .or .u64 (IntKind.u64.wrap (x104000_2 * 2)) (x104001_2 / 9223372036854775808)), .int .u64 (Go.bits .or .u64 (IntKind.u64.wrap (x104001_2 * 2)) x9_13)] 24 (0, 0)) (by (with_reducible repeat (first | refine blk_drewN ?_ _ | refine blk_drew ?_ | refine blk_alloc ?_ _)); refine blk_put (cs := #[.int .u64 (Go.bits .or .u64 (IntKind.u64.wrap (x104000_2 * 2)) (x104001_2 / 9223372036854775808)), .int .u64 x104001_2]) ?_ 1 _ rfl; (with_reducible repeat (first | refine blk_drewN ?_ _ | refine blk_drew ?_ | refine blk_alloc ?_ _)); refine blk_put (cs := #[.int .u64 x104000_2, .int .u64 x104001_2]) ?_ 0 _ rfl; (with_reducible repeat (first | refine blk_drewN ?_ _ | refine blk_drew ?_ | refine blk_alloc ?_ _)); exact BK103.out) hb); have n3_ := Aside0.mk (below_step (by repeat (first | (with_reducible first | exact HB.out | apply below_alloc | apply pw_below_drewN | apply below_drew1 | refine below_set ?_ GE101.out | refine below_set ?_ GE102.out | refine below_set ?_ GE103.out) | exact HB.out)) hb); clear BK101; clear BK102; clear BK103; clear HB; have BK101 := n0_; have BK102 := n1_; have BK103 := n2_; have HB := n3_; clear n0_ n1_ n2_ n3_; (try clear hb); (try clear hb2); (try clear hk); (try clear hi); have hcz44_0 : w43.cell? ⟨gb103, 0, none⟩ = some (.int .u64 (Go.bits .or .u64 (IntKind.u64.wrap (x104000_2 * 2)) (x104001_2 / 9223372036854775808))) := (blk_cell BK103.out 0).trans rfl; have hcz44_1 : w43.cell? ⟨gb103, 1, none⟩ = some (.int .u64 (Go.bits .or .u64 (IntKind.u64.wrap (x104001_2 * 2)) x9_13)) := (blk_cell BK103.out 1).trans rfl; have hfz44_0 := blk_frozen BK103.out 0; have hfz44_1 := blk_frozen BK103.out 1))
           go_roundg kj13
           case measure => have := HJ2.out; have := HK2.out; have := HJ13.out; omega
           case rel => exact ⟨(wrap64 ((wrap64 (2 * x5_2)) + 1)), (wrap64 (x7_2 - 1)), (t104), (t105), (by first | rfl | (simp; done) | (simp [*]; done)), (by first | rfl | (simp; done) | (simp [*]; done)), H', ⟨by have := HJ2.out; have := HK2.out; have := HJ13.out; omega⟩, ⟨by (with_reducible repeat (first | refine blk_drewN ?_ _ | refine blk_drew ?_ | refine blk_alloc ?_ _)); refine blk_far ?_ NB101_103.out _; (with_reducible repeat (first | refine blk_drewN ?_ _ | refine blk_drew ?_ | refine blk_alloc ?_ _)); refine blk_far ?_ NB101_103.out _; (with_reducible repeat (first | refine blk_drewN ?_ _ | refine blk_drew ?_ | refine blk_alloc ?_ _)); exact BK101.out⟩, ⟨by (with_reducible repeat (first | refine blk_drewN ?_ _ | refine blk_drew ?_ | refine blk_alloc ?_ _)); refine blk_far ?_ NB102_103.out _; (with_reducible repeat (first | refine blk_drewN ?_ _ | refine blk_drew ?_ | refine blk_alloc ?_ _)); refine blk_far ?_ NB102_103.out _; (with_reducible repeat (first | refine blk_drewN ?_ _ | refine blk_drew ?_ | refine blk_alloc ?_ _)); exact BK102.out⟩, ⟨by (with_reducible repeat (first | refine blk_drewN ?_ _ | refine blk_drew ?_ | refine blk_alloc ?_ _)); refine blk_put (cs := #[.int .u64 t104, .int .u64 (Go.bits .or .u64 (IntKind.u64.wrap (x104001_2 * 2)) x9_13)]) ?_ 1 _ rfl; (with_reducible repeat (first | refine blk_drewN ?_ _ | refine blk_drew ?_ | refine blk_alloc ?_ _)); refine blk_put (cs := #[.int .u64 (Go.bits .or .u64 (IntKind.u64.wrap (x104000_2 * 2)) (x104001_2 / 9223372036854775808)), .int .u64 (Go.bits .or .u64 (IntKind.u64.wrap (x104001_2 * 2)) x9_13)]) ?_ 0 _ rfl; (with_reducible repeat (first | refine blk_drewN ?_ _ | refine blk_drew ?_ | refine blk_alloc ?_ _)); exact BK103.out⟩, ⟨by repeat (first | (with_reducible first | exact HB.out | apply below_alloc | apply pw_below_drewN | apply below_drew1 | refine below_set ?_ GE101.out | refine below_set ?_ GE102.out | refine below_set ?_ GE103.out) | exact HB.out)⟩⟩
          ·rw [if_neg c36] at H
           have c36b0 : ((x104000_2 / 9223372036854775808) == 1) = false := by simpa using c36
           (try (have c36b1 : decide ((x104000_2 / 9223372036854775808) = 1) = false := by simpa using c36))
           (try (have c36b2 : ((x104000_2 / 9223372036854775808) == 1) = false := by simpa using c36))
           (try (have c36b3 : ¬ ((x104000_2 / 9223372036854775808) = 1) := by simpa using c36))
           clear c36
           replace H := Option.bind_eq_some_iff.mp H
           obtain ⟨t106, A450, H⟩ := H
           replace H : (if t106 = true then (pacemakerref10_Ratio.l0 kj13 (wrap64 (2 * x5_2)) (wrap64 (x7_2 - 1)) a0_0 a0_1 a1_0 a1_1 (Go.bits .or .u64 (IntKind.u64.wrap (x104000_2 * 2)) (x104001_2 / 9223372036854775808)) (Go.bits .or .u64 (IntKind.u64.wrap (x104001_2 * 2)) x9_13)) else ((pacemakerref10_minus.f (Go.bits .or .u64 (IntKind.u64.wrap (x104000_2 * 2)) (x104001_2 / 9223372036854775808)) (Go.bits .or .u64 (IntKind.u64.wrap (x104001_2 * 2)) x9_13) a1_0 a1_1).bind fun bt107 => (pacemakerref10_Ratio.l0 kj13 (wrap64 ((wrap64 (2 * x5_2)) + 1)) (wrap64 (x7_2 - 1)) a0_0 a0_1 a1_0 a1_1 bt107.1 bt107.2))) = some r := H
           have A45 := Aside0.mk A450
           clear A450
           by_cases c46 : t106 = true
           ·subst c46
            have H1 : (pacemakerref10_Ratio.l0 kj13 (wrap64 (2 * x5_2)) (wrap64 (x7_2 - 1)) a0_0 a0_1 a1_0 a1_1 (Go.bits .or .u64 (IntKind.u64.wrap (x104000_2 * 2)) (x104001_2 / 9223372036854775808)) (Go.bits .or .u64 (IntKind.u64.wrap (x104001_2 * 2)) x9_13)) = some r := by rw [if_pos rfl] at H; exact H
            clear H
            have H := H1
            clear H1
            have H' := Aside0.mk H
            clear H
            have hnb47 := NB103_101.out
            have hnc47 := NB101_103.out
            have hnb48 := NB103_102.out
            have hnc48 := NB102_103.out
            have hcz49_0 : wc.cell? ⟨gb103, 0, none⟩ = some (.int .u64 x104000_2) := (blk_cell BK103.out 0).trans rfl
            have hcz49_1 : wc.cell? ⟨gb103, 1, none⟩ = some (.int .u64 x104001_2) := (blk_cell BK103.out 1).trans rfl
            have hfz49_0 := blk_frozen BK103.out 0
            have hfz49_1 := blk_frozen BK103.out 1
            have hnb50 := NB102_101.out
            have hnc50 := NB101_102.out
            have hcz51_0 : wc.cell? ⟨gb102, 0, none⟩ = some (.int .u64 a1_0) := (blk_cell BK102.out 0).trans rfl
            have hcz51_1 : wc.cell? ⟨gb102, 1, none⟩ = some (.int .u64 a1_1) := (blk_cell BK102.out 1).trans rfl
            have hfz51_0 := blk_frozen BK102.out 0
            have hfz51_1 := blk_frozen BK102.out 1
            go_wp2_with (first | (go_at_call 25; (with_reducible refine (pacemakerref10_less.calls (Go.bits .or .u64 (IntKind.u64.wrap (x104000_2 * 2)) (x104001_2 / 9223372036854775808)) (Go.bits .or .u64 (IntKind.u64.wrap (x104001_2 * 2)) x9_13) a1_0 a1_1 true _ A45.out).mono ?_); rintro e w52 ⟨rfl, hb⟩; have n0_ := Aside0.mk (blk_below (g := gb101) (o := .cells #[.int .u64 a0_0, .int .u64 a0_1] 24 (0, 0)) (by (with_reducible repeat (first | refine blk_drewN ?_ _ | refine blk_drew ?_ | refine blk_alloc ?_ _)); refine blk_far ?_ NB101_103.out _; (with_reducible repeat (first | refine blk_drewN ?_ _ | refine blk_drew ?_ | refine blk_alloc ?_ _)); refine blk_far ?_ NB101_103.out _; (with_reducible repeat (first | refine blk_drewN ?_ _ | refine blk_drew ?_ | refine blk_alloc ?_ _)); exact BK101.out) hb); have n1_ := Aside0.mk (blk_below (g := gb102) (o := .cells #[.int .u64 a1_0, .int .u64 a1_1] 24 (0, 0)) (by (with_reducible repeat (first | refine blk_drewN ?_ _ | refine blk_drew ?_ | refine blk_alloc ?_ _)); refine blk_far ?_ NB102_103.out _; (with_reducible repeat (first | refine blk_drewN ?_ _ | refine blk_drew ?_ | refine blk_alloc ?_ _)); refine blk_far ?_ NB102_103.out _; (with_reducible repeat (first | refine blk_drewN ?_ _ | refine blk_drew ?_ | refine blk_alloc ?_ _)); exact BK102.out) hb); have n2_ := Aside0.mk (blk_below (g := gb103) (o := .cells #[.int .u64 (Go.bits .or .u64 (IntKind.u64.wrap (x104000_2 * 2)) (x104001_2 / 9223372036854775808)), .int .u64 (Go.bits .or .u64 (IntKind.u64.wrap (x104001_2 * 2)) x9_13)] 24 (0, 0)) (by (with_reducible repeat (first | refine blk_drewN ?_ _ | refine blk_drew ?_ | refine blk_alloc ?_ _)); refine blk_put (cs := #[.int .u64 (Go.bits .or .u64 (IntKind.u64.wrap (x104000_2 * 2)) (x104001_2 / 9223372036854775808)), .int .u64 x104001_2]) ?_ 1 _ rfl; (with_reducible repeat (first | refine blk_drewN ?_ _ | refine blk_drew ?_ | refine blk_alloc ?_ _)); refine blk_put (cs := #[.int .u64 x104000_2, .int .u64 x104001_2]) ?_ 0 _ rfl; (with_reducible repeat (first | refine blk_drewN ?_ _ | refine blk_drew ?_ | refine blk_alloc ?_ _)); exact BK103.out) hb); have n3_ := Aside0.mk (below_step (by repeat (first | (with_reducible first | exact HB.out | apply below_alloc | apply pw_below_drewN | apply below_drew1 | refine below_set ?_ GE101.out | refine below_set ?_ GE102.out | refine below_set ?_ GE103.out) | exact HB.out)) hb); clear BK101; clear BK102; clear BK103; clear HB; have BK101 := n0_; have BK102 := n1_; have BK103 := n2_; have HB := n3_; clear n0_ n1_ n2_ n3_; (try clear hb); (try clear hb2); (try clear hk); (try clear hi)))
            go_roundg kj13
            case measure => have := HJ2.out; have := HK2.out; have := HJ13.out; omega
            case rel => exact ⟨(wrap64 (2 * x5_2)), (wrap64 (x7_2 - 1)), (Go.bits .or .u64 (IntKind.u64.wrap (x104000_2 * 2)) (x104001_2 / 9223372036854775808)), (Go.bits .or .u64 (IntKind.u64.wrap (x104001_2 * 2)) x9_13), (by first | rfl | (simp; done) | (simp [*]; done)), (by first | rfl | (simp; done) | (simp [*]; done)), H', ⟨by have := HJ2.out; have := HK2.out; have := HJ13.out; omega⟩, ⟨by (with_reducible repeat (first | refine blk_drewN ?_ _ | refine blk_drew ?_ | refine blk_alloc ?_ _)); exact BK101.out⟩, ⟨by (with_reducible repeat (first | refine blk_drewN ?_ _ | refine blk_drew ?_ | refine blk_alloc ?_ _)); exact BK102.out⟩, ⟨by (with_reducible repeat (first | refine blk_drewN ?_ _ | refine blk_drew ?_ | refine blk_alloc ?_ _)); exact BK103.out⟩, ⟨by repeat (first | (with_reducible first | exact HB.out | apply below_alloc | apply pw_below_drewN | apply below_drew1 | refine below_set ?_ GE101.out | refine below_set ?_ GE102.out | refine below_set ?_ GE103.out) | exact HB.out)⟩⟩
           ·replace c46 := Bool.eq_false_iff.mpr c46
            subst c46
            have H1 : ((pacemakerref10_minus.f (Go.bits .or .u64 (IntKind.u64.wrap (x104000_2 * 2)) (x104001_2 / 9223372036854775808)) (Go.bits .or .u64 (IntKind.u64.wrap (x104001_2 * 2)) x9_13) a1_0 a1_1).bind fun bt107 => (pacemakerref10_Ratio.l0 kj13 (wrap64 ((wrap64 (2 * x5_2)) + 1)) (wrap64 (x7_2 - 1)) a0_0 a0_1 a1_0 a1_1 bt107.1 bt107.2)) = some r := by rw [if_neg (show ¬ (false = true) by decide)] at H; exact H
            clear H
            have H := H1
            clear H1
            replace H := Option.bind_eq_some_iff.mp H
            obtain ⟨⟨t107, t108⟩, A530, H⟩ := H
            replace H : (pacemakerref10_Ratio.l0 kj13 (wrap64 ((wrap64 (2 * x5_2)) + 1)) (wrap64 (x7_2 - 1)) a0_0 a0_1 a1_0 a1_1 t107 t108) = some r := H
            have A53 := Aside0.mk A530
            clear A530
            have H' := Aside0.mk H
            clear H
            have hnb54 := NB103_101.out
            have hnc54 := NB101_103.out
            have hnb55 := NB103_102.out
            have hnc55 := NB102_103.out
            have hcz56_0 : wc.cell? ⟨gb103, 0, none⟩ = some (.int .u64 x104000_2) := (blk_cell BK103.out 0).trans rfl
            have hcz56_1 : wc.cell? ⟨gb103, 1, none⟩ = some (.int .u64 x104001_2) := (blk_cell BK103.out 1).trans rfl
            have hfz56_0 := blk_frozen BK103.out 0
            have hfz56_1 := blk_frozen BK103.out 1
            have hnb57 := NB102_101.out
            have hnc57 := NB101_102.out
            have hcz58_0 : wc.cell? ⟨gb102, 0, none⟩ = some (.int .u64 a1_0) := (blk_cell BK102.out 0).trans rfl
            have hcz58_1 : wc.cell? ⟨gb102, 1, none⟩ = some (.int .u64 a1_1) := (blk_cell BK102.out 1).trans rfl
            have hfz58_0 := blk_frozen BK102.out 0
            have hfz58_1 := blk_frozen BK102.out 1
            go_wp2_with (first | (go_at_call 25; (with_reducible refine (pacemakerref10_less.calls (Go.bits .or .u64 (IntKind.u64.wrap (x104000_2 * 2)) (x104001_2 / 9223372036854775808)) (Go.bits .or .u64 (IntKind.u64.wrap (x104001_2 * 2)) x9_13) a1_0 a1_1 false _ A45.out).mono ?_); rintro e w59 ⟨rfl, hb⟩; have n0_ := Aside0.mk (blk_below (g := gb101) (o := .cells #[.int .u64 a0_0, .int .u64 a0_1] 24 (0, 0)) (by (with_reducible repeat (first | refine blk_drewN ?_ _ | refine blk_drew ?_ | refine blk_alloc ?_ _)); refine blk_far ?_ NB101_103.out _; (with_reducible repeat (first | refine blk_drewN ?_ _ | refine blk_drew ?_ | refine blk_alloc ?_ _)); refine blk_far ?_ NB101_103.out _; (with_reducible repeat (first | refine blk_drewN ?_ _ | refine blk_drew ?_ | refine blk_alloc ?_ _)); exact BK101.out) hb); have n1_ := Aside0.mk (blk_below (g := gb102) (o := .cells #[.int .u64 a1_0, .int .u64 a1_1] 24 (0, 0)) (by (with_reducible repeat (first | refine blk_drewN ?_ _ | refine blk_drew ?_ | refine blk_alloc ?_ _)); refine blk_far ?_ NB102_103.out _; (with_reducible repeat (first | refine blk_drewN ?_ _ | refine blk_drew ?_ | refine blk_alloc ?_ _)); refine blk_far ?_ NB102_103.out _; (with_reducible repeat (first | refine blk_drewN ?_ _ | refine blk_drew ?_ | refine blk_alloc ?_ _)); exact BK102.out) hb); have n2_ := Aside0.mk (blk_below (g := gb103) (o := .cells #[.int .u64 (Go.bits .or .u64 (IntKind.u64.wrap (x104000_2 * 2)) (x104001_2 / 9223372036854775808)), .int .u64 (Go.bits .or .u64 (IntKind.u64.wrap (x104001_2 * 2)) x9_13)] 24 (0, 0)) (by (with_reducible repeat (first | refine blk_drewN ?_ _ | refine blk_drew ?_ | refine blk_alloc ?_ _)); refine blk_put (cs := #[.int .u64 (Go.bits .or .u64 (IntKind.u64.wrap (x104000_2 * 2)) (x104001_2 / 9223372036854775808)), .int .u64 x104001_2]) ?_ 1 _ rfl; (with_reducible repeat (first | refine blk_drewN ?_ _ | refine blk_drew ?_ | refine blk_alloc ?_ _)); refine blk_put (cs := #[.int .u64 x104000_2, .int .u64 x104001_2]) ?_ 0 _ rfl; (with_reducible repeat (first | refine blk_drewN ?_ _ | refine blk_drew ?_ | refine blk_alloc ?_ _)); exact BK103.out) hb); have n3_ := Aside0.mk (below_step (by repeat (first | (with_reducible first | exact HB.out | apply below_alloc | apply pw_below_drewN | apply below_drew1 | refine below_set ?_ GE101.out | refine below_set ?_ GE102.out | refine below_set ?_ GE103.out) | exact HB.out)) hb); clear BK101; clear BK102; clear BK103; clear HB; have BK101 := n0_; have BK102 := n1_; have BK103 := n2_; have HB := n3_; clear n0_ n1_ n2_ n3_; (try clear hb); (try clear hb2); (try clear hk); (try clear hi); have hcz60_0 : w59.cell? ⟨gb103, 0, none⟩ = some (.int .u64 (Go.bits .or .u64 (IntKind.u64.wrap (x104000_2 * 2)) (x104001_2 / 9223372036854775808))) := (blk_cell BK103.out 0).trans rfl; have hcz60_1 : w59.cell? ⟨gb103, 1, none⟩ = some (.int .u64 (Go.bits .or .u64 (IntKind.u64.wrap (x104001_2 * 2)) x9_13)) := (blk_cell BK103.out 1).trans rfl; have hfz60_0 := blk_frozen BK103.out 0; have hfz60_1 := blk_frozen BK103.out 1; have hcz61_0 : w59.cell? ⟨gb102, 0, none⟩ = some (.int .u64 a1_0) := (blk_cell BK102.out 0).trans rfl; have hcz61_1 : w59.cell? ⟨gb102, 1, none⟩ = some (.int .u64 a1_1) := (blk_cell BK102.out 1).trans rfl; have hfz61_0 := blk_frozen BK102.out 0; have hfz61_1 := blk_frozen BK102.out 1) | ((with_reducible refine gate_callee (f := 26) rfl ?_); refine goesL_ (some 68) rfl rfl Try.func26 (by kernel_rfl) rfl #[.agg #[.int .u64 (Go.bits .or .u64 (IntKind.u64.wrap (x104000_2 * 2)) (x104001_2 / 9223372036854775808)), .int .u64 (Go.bits .or .u64 (IntKind.u64.wrap (x104001_2 * 2)) x9_13)], .agg #[.int .u64 a1_0, .int .u64 a1_1]] rfl (by (try simp only [List.map_toArray, List.map_cons, List.map_nil]); first | done | rfl | (simp only [List.length_drop, List.length_take]; rfl)) ?_; (with_reducible refine (pacemakerref10_minus.calls (Go.bits .or .u64 (IntKind.u64.wrap (x104000_2 * 2)) (x104001_2 / 9223372036854775808)) (Go.bits .or .u64 (IntKind.u64.wrap (x104001_2 * 2)) x9_13) a1_0 a1_1 t107 t108 _ A53.out).mono ?_); rintro e w62 ⟨rfl, hb⟩; refine ⟨_, rfl, ?_⟩; have n0_ := Aside0.mk (blk_below (g := gb101) (o := .cells #[.int .u64 a0_0, .int .u64 a0_1] 24 (0, 0)) (by (with_reducible repeat (first | refine blk_drewN ?_ _ | refine blk_drew ?_ | refine blk_alloc ?_ _)); exact BK101.out) hb); have n1_ := Aside0.mk (blk_below (g := gb102) (o := .cells #[.int .u64 a1_0, .int .u64 a1_1] 24 (0, 0)) (by (with_reducible repeat (first | refine blk_drewN ?_ _ | refine blk_drew ?_ | refine blk_alloc ?_ _)); exact BK102.out) hb); have n2_ := Aside0.mk (blk_below (g := gb103) (o := .cells #[.int .u64 (Go.bits .or .u64 (IntKind.u64.wrap (x104000_2 * 2)) (x104001_2 / 9223372036854775808)), .int .u64 (Go.bits .or .u64 (IntKind.u64.wrap (x104001_2 * 2)) x9_13)] 24 (0, 0)) (by (with_reducible repeat (first | refine blk_drewN ?_ _ | refine blk_drew ?_ | refine blk_alloc ?_ _)); exact BK103.out) hb); have n3_ := Aside0.mk (below_step (by repeat (first | (with_reducible first | exact HB.out | apply below_alloc | apply pw_below_drewN | apply below_drew1 | refine below_set ?_ GE101.out | refine below_set ?_ GE102.out | refine below_set ?_ GE103.out) | exact HB.out)) hb); clear BK101; clear BK102; clear BK103; clear HB; have BK101 := n0_; have BK102 := n1_; have BK103 := n2_; have HB := n3_; clear n0_ n1_ n2_ n3_; (try clear hb); (try clear hb2); (try clear hk); (try clear hi); have hcz63_0 : w62.cell? ⟨gb103, 0, none⟩ = some (.int .u64 (Go.bits .or .u64 (IntKind.u64.wrap (x104000_2 * 2)) (x104001_2 / 9223372036854775808))) := (blk_cell BK103.out 0).trans rfl; have hcz63_1 : w62.cell? ⟨gb103, 1, none⟩ = some (.int .u64 (Go.bits .or .u64 (IntKind.u64.wrap (x104001_2 * 2)) x9_13)) := (blk_cell BK103.out 1).trans rfl; have hfz63_0 := blk_frozen BK103.out 0; have hfz63_1 := blk_frozen BK103.out 1))
            go_roundg kj13
            case measure => have := HJ2.out; have := HK2.out; have := HJ13.out; omega
            case rel => exact ⟨(wrap64 ((wrap64 (2 * x5_2)) + 1)), (wrap64 (x7_2 - 1)), (t107), (t108), (by first | rfl | (simp; done) | (simp [*]; done)), (by first | rfl | (simp; done) | (simp [*]; done)), H', ⟨by have := HJ2.out; have := HK2.out; have := HJ13.out; omega⟩, ⟨by (with_reducible repeat (first | refine blk_drewN ?_ _ | refine blk_drew ?_ | refine blk_alloc ?_ _)); refine blk_far ?_ NB101_103.out _; (with_reducible repeat (first | refine blk_drewN ?_ _ | refine blk_drew ?_ | refine blk_alloc ?_ _)); refine blk_far ?_ NB101_103.out _; (with_reducible repeat (first | refine blk_drewN ?_ _ | refine blk_drew ?_ | refine blk_alloc ?_ _)); exact BK101.out⟩, ⟨by (with_reducible repeat (first | refine blk_drewN ?_ _ | refine blk_drew ?_ | refine blk_alloc ?_ _)); refine blk_far ?_ NB102_103.out _; (with_reducible repeat (first | refine blk_drewN ?_ _ | refine blk_drew ?_ | refine blk_alloc ?_ _)); refine blk_far ?_ NB102_103.out _; (with_reducible repeat (first | refine blk_drewN ?_ _ | refine blk_drew ?_ | refine blk_alloc ?_ _)); exact BK102.out⟩, ⟨by (with_reducible repeat (first | refine blk_drewN ?_ _ | refine blk_drew ?_ | refine blk_alloc ?_ _)); refine blk_put (cs := #[.int .u64 t107, .int .u64 (Go.bits .or .u64 (IntKind.u64.wrap (x104001_2 * 2)) x9_13)]) ?_ 1 _ rfl; (with_reducible repeat (first | refine blk_drewN ?_ _ | refine blk_drew ?_ | refine blk_alloc ?_ _)); refine blk_put (cs := #[.int .u64 (Go.bits .or .u64 (IntKind.u64.wrap (x104000_2 * 2)) (x104001_2 / 9223372036854775808)), .int .u64 (Go.bits .or .u64 (IntKind.u64.wrap (x104001_2 * 2)) x9_13)]) ?_ 0 _ rfl; (with_reducible repeat (first | refine blk_drewN ?_ _ | refine blk_drew ?_ | refine blk_alloc ?_ _)); exact BK103.out⟩, ⟨by repeat (first | (with_reducible first | exact HB.out | apply below_alloc | apply pw_below_drewN | apply below_drew1 | refine below_set ?_ GE101.out | refine below_set ?_ GE102.out | refine below_set ?_ GE103.out) | exact HB.out)⟩⟩
      ·rw [if_neg c13] at H
       have c13b0 : decide (0 ≤ x7_2) = false := decide_eq_false c13
       clear c13
       by_cases c64 : x5_2 < 4611686018427387904
       ·rw [if_pos c64] at H
        have c64b0 : decide (x5_2 < 4611686018427387904) = true := decide_eq_true c64
        clear c64
        replace H := Option.bind_eq_some_iff.mp H
        obtain ⟨⟨t109, t110⟩, A650, H⟩ := H
        replace H : ((pacemakerref10_less.f x104000_2 x104001_2 t109 t110).bind fun t111 => (if t111 = true then (some (mn x5_2 4611686018427387904)) else (some (mn (wrap64 (x5_2 + 1)) 4611686018427387904)))) = some r := H
        have A65 := Aside0.mk A650
        clear A650
        replace H := Option.bind_eq_some_iff.mp H
        obtain ⟨t111, A660, H⟩ := H
        replace H : (if t111 = true then (some (mn x5_2 4611686018427387904)) else (some (mn (wrap64 (x5_2 + 1)) 4611686018427387904))) = some r := H
        have A66 := Aside0.mk A660
        clear A660
        by_cases c67 : t111 = true
        ·subst c67
         have H1 : (some (mn x5_2 4611686018427387904)) = some r := by rw [if_pos rfl] at H; exact H
         clear H
         have H := H1
         clear H1
         obtain ⟨ji68, hji68⟩ : ∃ j_ : Int, (mn x5_2 4611686018427387904) = j_ := ⟨_, rfl⟩
         replace H : (some ji68) = some r := by first | (rw [hji68] at H; exact H) | (simp only [hji68] at H ⊢; exact H)
         (try rw [hji68] at A65)
         (try rw [hji68] at A66)
         have hji68_ : (if 4611686018427387904 < x5_2 then 4611686018427387904 else x5_2) = ji68 := hji68
         obtain rfl := Option.some.inj H
         try go_wp2
         have n0_ := Aside0.mk (blk_drew BK101.out)
         have n1_ := Aside0.mk (blk_drew BK102.out)
         have n2_ := Aside0.mk (blk_drew BK103.out)
         have n3_ := Aside0.mk (below_drew1 HB.out)
         clear BK101
         clear BK102
         clear BK103
         clear HB
         have BK101 := n0_
         have BK102 := n1_
         have BK103 := n2_
         have HB := n3_
         clear n0_ n1_ n2_ n3_
         refine start_ (n := 10) (S := fun w' => w'.cell? ⟨gb103, 0, none⟩ = some (.int .u64 x104000_2) ∧ w'.cell? ⟨gb103, 1, none⟩ = some (.int .u64 x104001_2) ∧ w'.cell? ⟨gb102, 0, none⟩ = some (.int .u64 a1_0) ∧ w'.cell? ⟨gb102, 1, none⟩ = some (.int .u64 a1_1)) (ds := []) #[false, false, false, false, false, false, false, false, false, false] (by kernel_rfl) rfl rfl ⟨(blk_cell BK103.out 0).trans rfl, (blk_cell BK103.out 1).trans rfl, (blk_cell BK102.out 0).trans rfl, (blk_cell BK102.out 1).trans rfl⟩ (fun hHeld => ?_); refine with_tabW pacemakerref10_Ratio.tab21 pacemakerref10_Ratio.bits21 (fun HT_ HW_ => ?_)
         generalize wr.drew = w69 at BK101 BK102 BK103 HB hHeld ⊢
         refine pure_ (i := 0) (N := some 71) (v := ?_) (a' := ?_) #[true, false, false, false, false, false, false, false, false, false] rfl rfl (any_of HT_.out (by kernel_rfl)) (fun _ _ _ h => h) (Or.inl ⟨by rfl, ?_⟩) ?_ ?_
         rotate_left
         ·intro w'
          go_simp
          with_reducible rfl
         rotate_left
         ·simp only [Act.put, List.setIfInBounds_toArray, List.set_cons_zero, List.set_cons_succ, i64_w, i32_w]
          rfl
         refine pure_ (i := 1) (N := some 72) (v := ?_) (a' := ?_) #[true, true, false, false, false, false, false, false, false, false] rfl rfl (any_of HT_.out (by kernel_rfl)) (fun _ _ _ h => h) (Or.inl ⟨by rfl, ?_⟩) ?_ ?_
         rotate_left
         ·intro w'
          go_simp
          with_reducible rfl
         rotate_left
         ·simp only [Act.put, List.setIfInBounds_toArray, List.set_cons_zero, List.set_cons_succ, i64_w, i32_w]
          rfl
         refine pure_ (i := 2) (N := some 73) (v := ?_) (a' := ?_) #[true, true, true, false, false, false, false, false, false, false] rfl rfl (any_of HT_.out (by kernel_rfl)) (fun _ _ _ h => h) (Or.inl ⟨by rfl, ?_⟩) ?_ ?_
         rotate_left
         ·intro w'
          go_simp
          with_reducible rfl
         rotate_left
         ·simp only [Act.put, List.setIfInBounds_toArray, List.set_cons_zero, List.set_cons_succ, i64_w, i32_w]
          rfl
         refine take_ (i := 3) (N := some 74) (v := ?_) (a' := ?_) #[true, true, true, true, false, false, false, false, false, false] rfl rfl (take_ofW HT_.out HW_.out (by kernel_rfl)) (fun _ _ _ h => h) (Or.inl ⟨by rfl, ?_⟩) hHeld ?_ ?_
         rotate_left
         ·rintro w' ⟨s0, s1, s2, s3⟩
          go_simp
          with_reducible rfl
         rotate_left
         ·simp only [Act.put, List.setIfInBounds_toArray, List.set_cons_zero, List.set_cons_succ, i64_w, i32_w]
          rfl
         refine take_ (i := 4) (N := some 75) (v := ?_) (a' := ?_) #[true, true, true, true, true, false, false, false, false, false] rfl rfl (take_ofW HT_.out HW_.out (by kernel_rfl)) (fun _ _ _ h => h) (Or.inl ⟨by rfl, ?_⟩) hHeld ?_ ?_
         rotate_left
         ·rintro w' ⟨s0, s1, s2, s3⟩
          go_simp
          with_reducible rfl
         rotate_left
         ·simp only [Act.put, List.setIfInBounds_toArray, List.set_cons_zero, List.set_cons_succ, i64_w, i32_w]
          rfl
         refine take_ (i := 5) (N := some 76) (v := ?_) (a' := ?_) #[true, true, true, true, true, true, false, false, false, false] rfl rfl (take_ofW HT_.out HW_.out (by kernel_rfl)) (fun _ _ _ h => h) (Or.inl ⟨by rfl, ?_⟩) hHeld ?_ ?_
         rotate_left
         ·rintro w' ⟨s0, s1, s2, s3⟩
          go_simp
          with_reducible rfl
         rotate_left
         ·simp only [Act.put, List.setIfInBounds_toArray, List.set_cons_zero, List.set_cons_succ, i64_w, i32_w]
          rfl
         refine one_ (i := 6) (N := some 77) #[true, true, true, true, true, true, true, false, false, false] rfl rfl (one_of HT_.out (by kernel_rfl)) (by decide) (fun K hK => ?_)
         refine goes_ Try.func26 (by kernel_rfl) rfl #[.agg #[.int .u64 a1_0, .int .u64 a1_1], .agg #[.int .u64 x104000_2, .int .u64 x104001_2]] (by rfl) rfl rfl (by (try simp only [List.map_toArray, List.map_cons, List.map_nil]); first | done | rfl | (simp only [List.length_drop, List.length_take]; rfl)) ?_
         with_reducible refine (pacemakerref10_minus.calls a1_0 a1_1 x104000_2 x104001_2 t109 t110 _ A65.out).mono ?_
         rintro e w70 ⟨rfl, hb⟩
         refine ⟨_, rfl, ?_⟩
         have n0_ := Aside0.mk (blk_below (g := gb101) (o := .cells #[.int .u64 a0_0, .int .u64 a0_1] 24 (0, 0)) (by (with_reducible repeat (first | refine blk_drewN ?_ _ | refine blk_drew ?_ | refine blk_alloc ?_ _)); exact BK101.out) hb)
         have n1_ := Aside0.mk (blk_below (g := gb102) (o := .cells #[.int .u64 a1_0, .int .u64 a1_1] 24 (0, 0)) (by (with_reducible repeat (first | refine blk_drewN ?_ _ | refine blk_drew ?_ | refine blk_alloc ?_ _)); exact BK102.out) hb)
         have n2_ := Aside0.mk (blk_below (g := gb103) (o := .cells #[.int .u64 x104000_2, .int .u64 x104001_2] 24 (0, 0)) (by (with_reducible repeat (first | refine blk_drewN ?_ _ | refine blk_drew ?_ | refine blk_alloc ?_ _)); exact BK103.out) hb)
         have n3_ := Aside0.mk (below_step (by repeat (first | (with_reducible first | exact HB.out | apply below_alloc | apply pw_below_drewN | apply below_drew1 | refine below_set ?_ GE101.out | refine below_set ?_ GE102.out | refine below_set ?_ GE103.out) | exact HB.out)) hb)
         clear BK101
         clear BK102
         clear BK103
         clear HB
         have BK101 := n0_
         have BK102 := n1_
         have BK103 := n2_
         have HB := n3_
         clear n0_ n1_ n2_ n3_
         (try clear hb)
         (try clear hb2)
         (try clear hk)
         (try clear hi)
         refine hK.out _ _ ⟨(blk_cell BK103.out 0).trans rfl, (blk_cell BK103.out 1).trans rfl, (blk_cell BK102.out 0).trans rfl, (blk_cell BK102.out 1).trans rfl⟩ (fun hHeld => ?_)
         clear hK K
         refine norm_ (a' := ?_) ?_ ?_
         rotate_left
         ·show Act.put _ (some 77) _ = _
          simp only [Act.put, List.setIfInBounds_toArray, List.set_cons_zero, List.set_cons_succ, i64_w, i32_w]
          rfl
         refine one_ (i := 7) (N := some 78) #[true, true, true, true, true, true, true, true, false, false] rfl rfl (one_of HT_.out (by kernel_rfl)) (by decide) (fun K hK => ?_)
         refine goes_ Try.func25 (by kernel_rfl) rfl #[.agg #[.int .u64 x104000_2, .int .u64 x104001_2], .agg #[.int .u64 t109, .int .u64 t110]] (by rfl) rfl rfl (by (try simp only [List.map_toArray, List.map_cons, List.map_nil]); first | done | rfl | (simp only [List.length_drop, List.length_take]; rfl)) ?_
         with_reducible refine (pacemakerref10_less.calls x104000_2 x104001_2 t109 t110 true _ A66.out).mono ?_
         rintro e w71 ⟨rfl, hb⟩
         refine ⟨_, rfl, ?_⟩
         have n0_ := Aside0.mk (blk_below (g := gb101) (o := .cells #[.int .u64 a0_0, .int .u64 a0_1] 24 (0, 0)) (by (with_reducible repeat (first | refine blk_drewN ?_ _ | refine blk_drew ?_ | refine blk_alloc ?_ _)); exact BK101.out) hb)
         have n1_ := Aside0.mk (blk_below (g := gb102) (o := .cells #[.int .u64 a1_0, .int .u64 a1_1] 24 (0, 0)) (by (with_reducible repeat (first | refine blk_drewN ?_ _ | refine blk_drew ?_ | refine blk_alloc ?_ _)); exact BK102.out) hb)
         have n2_ := Aside0.mk (blk_below (g := gb103) (o := .cells #[.int .u64 x104000_2, .int .u64 x104001_2] 24 (0, 0)) (by (with_reducible repeat (first | refine blk_drewN ?_ _ | refine blk_drew ?_ | refine blk_alloc ?_ _)); exact BK103.out) hb)
         have n3_ := Aside0.mk (below_step (by repeat (first | (with_reducible first | exact HB.out | apply below_alloc | apply pw_below_drewN | apply below_drew1 | refine below_set ?_ GE101.out | refine below_set ?_ GE102.out | refine below_set ?_ GE103.out) | exact HB.out)) hb)
         clear BK101
         clear BK102
         clear BK103
         clear HB
         have BK101 := n0_
         have BK102 := n1_
         have BK103 := n2_
         have HB := n3_
         clear n0_ n1_ n2_ n3_
         (try clear hb)
         (try clear hb2)
         (try clear hk)
         (try clear hi)
         refine hK.out _ _ ⟨(blk_cell BK103.out 0).trans rfl, (blk_cell BK103.out 1).trans rfl, (blk_cell BK102.out 0).trans rfl, (blk_cell BK102.out 1).trans rfl⟩ (fun hHeld => ?_)
         clear hK K
         refine norm_ (a' := ?_) ?_ ?_
         rotate_left
         ·show Act.put _ (some 78) _ = _
          simp only [Act.put, List.setIfInBounds_toArray, List.set_cons_zero, List.set_cons_succ, i64_w, i32_w]
          rfl
         refine pure_ (i := 8) (N := some 79) (v := ?_) (a' := ?_) #[true, true, true, true, true, true, true, true, true, false] rfl rfl (any_of HT_.out (by kernel_rfl)) (fun _ _ _ h => h) (Or.inl ⟨by rfl, ?_⟩) ?_ ?_
         rotate_left
         ·intro w'
          go_simp
          with_reducible rfl
         rotate_left
         ·simp only [Act.put, List.setIfInBounds_toArray, List.set_cons_zero, List.set_cons_succ, i64_w, i32_w]
          rfl
         refine pure_ (i := 9) (N := some 80) (v := ?_) (a' := ?_) #[true, true, true, true, true, true, true, true, true, true] rfl rfl (any_of HT_.out (by kernel_rfl)) (fun _ _ _ h => h) (Or.inl ⟨by rfl, ?_⟩) ?_ ?_
         rotate_left
         ·intro w'
          go_simp
          with_reducible rfl
         rotate_left
         ·simp only [Act.put, List.setIfInBounds_toArray, List.set_cons_zero, List.set_cons_succ, i64_w, i32_w]
          rfl
         refine done_ (done_of HT_.out (by kernel_rfl)) ?_
         try go_wp2
         go_ret
         exact ⟨by first | rfl | (simp [errW_none, errW_some] <;> rfl) | (simp only [← hji68]; first | rfl | (simp [errW_none, errW_some] <;> rfl)) | (simp [*, errW_none, errW_some] <;> rfl), by repeat (first | (with_reducible first | exact HB.out | apply below_alloc | apply pw_below_drewN | apply below_drew1 | refine below_set ?_ GE101.out | refine below_set ?_ GE102.out | refine below_set ?_ GE103.out) | exact HB.out)⟩
        ·replace c67 := Bool.eq_false_iff.mpr c67
         subst c67
         have H1 : (some (mn (wrap64 (x5_2 + 1)) 4611686018427387904)) = some r := by rw [if_neg (show ¬ (false = true) by decide)] at H; exact H
         clear H
         have H := H1
         clear H1
         obtain ⟨ji72, hji72⟩ : ∃ j_ : Int, (mn (wrap64 (x5_2 + 1)) 4611686018427387904) = j_ := ⟨_, rfl⟩
         replace H : (some ji72) = some r := by first | (rw [hji72] at H; exact H) | (simp only [hji72] at H ⊢; exact H)
         (try rw [hji72] at A65)
         (try rw [hji72] at A66)
         have hji72_ : (if 4611686018427387904 < (wrap64 (x5_2 + 1)) then 4611686018427387904 else (wrap64 (x5_2 + 1))) = ji72 := hji72
         obtain rfl := Option.some.inj H
         try go_wp2
         have n0_ := Aside0.mk (blk_drew BK101.out)
         have n1_ := Aside0.mk (blk_drew BK102.out)
         have n2_ := Aside0.mk (blk_drew BK103.out)
         have n3_ := Aside0.mk (below_drew1 HB.out)
         clear BK101
         clear BK102
         clear BK103
         clear HB
         have BK101 := n0_
         have BK102 := n1_
         have BK103 := n2_
         have HB := n3_
         clear n0_ n1_ n2_ n3_
         refine start_ (n := 10) (S := fun w' => w'.cell? ⟨gb103, 0, none⟩ = some (.int .u64 x104000_2) ∧ w'.cell? ⟨gb103, 1, none⟩ = some (.int .u64 x104001_2) ∧ w'.cell? ⟨gb102, 0, none⟩ = some (.int .u64 a1_0) ∧ w'.cell? ⟨gb102, 1, none⟩ = some (.int .u64 a1_1)) (ds := []) #[false, false, false, false, false, false, false, false, false, false] (by kernel_rfl) rfl rfl ⟨(blk_cell BK103.out 0).trans rfl, (blk_cell BK103.out 1).trans rfl, (blk_cell BK102.out 0).trans rfl, (blk_cell BK102.out 1).trans rfl⟩ (fun hHeld => ?_); refine with_tabW pacemakerref10_Ratio.tab21 pacemakerref10_Ratio.bits21 (fun HT_ HW_ => ?_)
         generalize wr.drew = w73 at BK101 BK102 BK103 HB hHeld ⊢
         refine pure_ (i := 0) (N := some 71) (v := ?_) (a' := ?_) #[true, false, false, false, false, false, false, false, false, false] rfl rfl (any_of HT_.out (by kernel_rfl)) (fun _ _ _ h => h) (Or.inl ⟨by rfl, ?_⟩) ?_ ?_
         rotate_left
         ·intro w'
          go_simp
          with_reducible rfl
         rotate_left
         ·simp only [Act.put, List.setIfInBounds_toArray, List.set_cons_zero, List.set_cons_succ, i64_w, i32_w]
          rfl
         refine pure_ (i := 1) (N := some 72) (v := ?_) (a' := ?_) #[true, true, false, false, false, false, false, false, false, false] rfl rfl (any_of HT_.out (by kernel_rfl)) (fun _ _ _ h => h) (Or.inl ⟨by rfl, ?_⟩) ?_ ?_
         rotate_left
         ·intro w'
          go_simp
          with_reducible rfl
         rotate_left
         ·simp only [Act.put, List.setIfInBounds_toArray, List.set_cons_zero, List.set_cons_succ, i64_w, i32_w]
          rfl
         refine pure_ (i := 2) (N := some 73) (v := ?_) (a' := ?_) #[true, true, true, false, false, false, false, false, false, false] rfl rfl (any_of HT_.out (by kernel_rfl)) (fun _ _ _ h => h) (Or.inl ⟨by rfl, ?_⟩) ?_ ?_
         rotate_left
         ·intro w'
          go_simp
          with_reducible rfl
         rotate_left
         ·simp only [Act.put, List.setIfInBounds_toArray, List.set_cons_zero, List.set_cons_succ, i64_w, i32_w]
          rfl
         refine take_ (i := 3) (N := some 74) (v := ?_) (a' := ?_) #[true, true, true, true, false, false, false, false, false, false] rfl rfl (take_ofW HT_.out HW_.out (by kernel_rfl)) (fun _ _ _ h => h) (Or.inl ⟨by rfl, ?_⟩) hHeld ?_ ?_
         rotate_left
         ·rintro w' ⟨s0, s1, s2, s3⟩
          go_simp
          with_reducible rfl
         rotate_left
         ·simp only [Act.put, List.setIfInBounds_toArray, List.set_cons_zero, List.set_cons_succ, i64_w, i32_w]
          rfl
         refine take_ (i := 4) (N := some 75) (v := ?_) (a' := ?_) #[true, true, true, true, true, false, false, false, false, false] rfl rfl (take_ofW HT_.out HW_.out (by kernel_rfl)) (fun _ _ _ h => h) (Or.inl ⟨by rfl, ?_⟩) hHeld ?_ ?_
         rotate_left
         ·rintro w' ⟨s0, s1, s2, s3⟩
          go_simp
          with_reducible rfl
         rotate_left
         ·simp only [Act.put, List.setIfInBounds_toArray, List.set_cons_zero, List.set_cons_succ, i64_w, i32_w]
          rfl
         refine take_ (i := 5) (N := some 76) (v := ?_) (a' := ?_) #[true, true, true, true, true, true, false, false, false, false] rfl rfl (take_ofW HT_.out HW_.out (by kernel_rfl)) (fun _ _ _ h => h) (Or.inl ⟨by rfl, ?_⟩) hHeld ?_ ?_
         rotate_left
         ·rintro w' ⟨s0, s1, s2, s3⟩
          go_simp
          with_reducible rfl
         rotate_left
         ·simp only [Act.put, List.setIfInBounds_toArray, List.set_cons_zero, List.set_cons_succ, i64_w, i32_w]
          rfl
         refine one_ (i := 6) (N := some 77) #[true, true, true, true, true, true, true, false, false, false] rfl rfl (one_of HT_.out (by kernel_rfl)) (by decide) (fun K hK => ?_)
         refine goes_ Try.func26 (by kernel_rfl) rfl #[.agg #[.int .u64 a1_0, .int .u64 a1_1], .agg #[.int .u64 x104000_2, .int .u64 x104001_2]] (by rfl) rfl rfl (by (try simp only [List.map_toArray, List.map_cons, List.map_nil]); first | done | rfl | (simp only [List.length_drop, List.length_take]; rfl)) ?_
         with_reducible refine (pacemakerref10_minus.calls a1_0 a1_1 x104000_2 x104001_2 t109 t110 _ A65.out).mono ?_
         rintro e w74 ⟨rfl, hb⟩
         refine ⟨_, rfl, ?_⟩
         have n0_ := Aside0.mk (blk_below (g := gb101) (o := .cells #[.int .u64 a0_0, .int .u64 a0_1] 24 (0, 0)) (by (with_reducible repeat (first | refine blk_drewN ?_ _ | refine blk_drew ?_ | refine blk_alloc ?_ _)); exact BK101.out) hb)
         have n1_ := Aside0.mk (blk_below (g := gb102) (o := .cells #[.int .u64 a1_0, .int .u64 a1_1] 24 (0, 0)) (by (with_reducible repeat (first | refine blk_drewN ?_ _ | refine blk_drew ?_ | refine blk_alloc ?_ _)); exact BK102.out) hb)
         have n2_ := Aside0.mk (blk_below (g := gb103) (o := .cells #[.int .u64 x104000_2, .int .u64 x104001_2] 24 (0, 0)) (by (with_reducible repeat (first | refine blk_drewN ?_ _ | refine blk_drew ?_ | refine blk_alloc ?_ _)); exact BK103.out) hb)
         have n3_ := Aside0.mk (below_step (by repeat (first | (with_reducible first | exact HB.out | apply below_alloc | apply pw_below_drewN | apply below_drew1 | refine below_set ?_ GE101.out | refine below_set ?_ GE102.out | refine below_set ?_ GE103.out) | exact HB.out)) hb)
         clear BK101
         clear BK102
         clear BK103
         clear HB
         have BK101 := n0_
         have BK102 := n1_
         have BK103 := n2_
         have HB := n3_
         clear n0_ n1_ n2_ n3_
         (try clear hb)
         (try clear hb2)
         (try clear hk)
         (try clear hi)
         refine hK.out _ _ ⟨(blk_cell BK103.out 0).trans rfl, (blk_cell BK103.out 1).trans rfl, (blk_cell BK102.out 0).trans rfl, (blk_cell BK102.out 1).trans rfl⟩ (fun hHeld => ?_)
         clear hK K
         refine norm_ (a' := ?_) ?_ ?_
         rotate_left
         ·show Act.put _ (some 77) _ = _
          simp only [Act.put, List.setIfInBounds_toArray, List.set_cons_zero, List.set_cons_succ, i64_w, i32_w]
          rfl
         refine one_ (i := 7) (N := some 78) #[true, true, true, true, true, true, true, true, false, false] rfl rfl (one_of HT_.out (by kernel_rfl)) (by decide) (fun K hK => ?_)
         refine goes_ Try.func25 (by kernel_rfl) rfl #[.agg #[.int .u64 x104000_2, .int .u64 x104001_2], .agg #[.int .u64 t109, .int .u64 t110]] (by rfl) rfl rfl (by (try simp only [List.map_toArray, List.map_cons, List.map_nil]); first | done | rfl | (simp only [List.length_drop, List.length_take]; rfl)) ?_
         with_reducible refine (pacemakerref10_less.calls x104000_2 x104001_2 t109 t110 false _ A66.out).mono ?_
         rintro e w75 ⟨rfl, hb⟩
         refine ⟨_, rfl, ?_⟩
         have n0_ := Aside0.mk (blk_below (g := gb101) (o := .cells #[.int .u64 a0_0, .int .u64 a0_1] 24 (0, 0)) (by (with_reducible repeat (first | refine blk_drewN ?_ _ | refine blk_drew ?_ | refine blk_alloc ?_ _)); exact BK101.out) hb)
         have n1_ := Aside0.mk (blk_below (g := gb102) (o := .cells #[.int .u64 a1_0, .int .u64 a1_1] 24 (0, 0)) (by (with_reducible repeat (first | refine blk_drewN ?_ _ | refine blk_drew ?_ | refine blk_alloc ?_ _)); exact BK102.out) hb)
         have n2_ := Aside0.mk (blk_below (g := gb103) (o := .cells #[.int .u64 x104000_2, .int .u64 x104001_2] 24 (0, 0)) (by (with_reducible repeat (first | refine blk_drewN ?_ _ | refine blk_drew ?_ | refine blk_alloc ?_ _)); exact BK103.out) hb)
         have n3_ := Aside0.mk (below_step (by repeat (first | (with_reducible first | exact HB.out | apply below_alloc | apply pw_below_drewN | apply below_drew1 | refine below_set ?_ GE101.out | refine below_set ?_ GE102.out | refine below_set ?_ GE103.out) | exact HB.out)) hb)
         clear BK101
         clear BK102
         clear BK103
         clear HB
         have BK101 := n0_
         have BK102 := n1_
         have BK103 := n2_
         have HB := n3_
         clear n0_ n1_ n2_ n3_
         (try clear hb)
         (try clear hb2)
         (try clear hk)
         (try clear hi)
         refine hK.out _ _ ⟨(blk_cell BK103.out 0).trans rfl, (blk_cell BK103.out 1).trans rfl, (blk_cell BK102.out 0).trans rfl, (blk_cell BK102.out 1).trans rfl⟩ (fun hHeld => ?_)
         clear hK K
         refine norm_ (a' := ?_) ?_ ?_
         rotate_left
         ·show Act.put _ (some 78) _ = _
          simp only [Act.put, List.setIfInBounds_toArray, List.set_cons_zero, List.set_cons_succ, i64_w, i32_w]
          rfl
         refine pure_ (i := 8) (N := some 79) (v := ?_) (a' := ?_) #[true, true, true, true, true, true, true, true, true, false] rfl rfl (any_of HT_.out (by kernel_rfl)) (fun _ _ _ h => h) (Or.inl ⟨by rfl, ?_⟩) ?_ ?_
         rotate_left
         ·intro w'
          go_simp
          with_reducible rfl
         rotate_left
         ·simp only [Act.put, List.setIfInBounds_toArray, List.set_cons_zero, List.set_cons_succ, i64_w, i32_w]
          rfl
         refine pure_ (i := 9) (N := some 80) (v := ?_) (a' := ?_) #[true, true, true, true, true, true, true, true, true, true] rfl rfl (any_of HT_.out (by kernel_rfl)) (fun _ _ _ h => h) (Or.inl ⟨by rfl, ?_⟩) ?_ ?_
         rotate_left
         ·intro w'
          go_simp
          with_reducible rfl
         rotate_left
         ·simp only [Act.put, List.setIfInBounds_toArray, List.set_cons_zero, List.set_cons_succ, i64_w, i32_w]
          rfl
         refine done_ (done_of HT_.out (by kernel_rfl)) ?_
         try go_wp2
         go_ret
         exact ⟨by first | rfl | (simp [errW_none, errW_some] <;> rfl) | (simp only [← hji72]; first | rfl | (simp [errW_none, errW_some] <;> rfl)) | (simp [*, errW_none, errW_some] <;> rfl), by repeat (first | (with_reducible first | exact HB.out | apply below_alloc | apply pw_below_drewN | apply below_drew1 | refine below_set ?_ GE101.out | refine below_set ?_ GE102.out | refine below_set ?_ GE103.out) | exact HB.out)⟩
       ·rw [if_neg c64] at H
        have c64b0 : decide (x5_2 < 4611686018427387904) = false := decide_eq_false c64
        clear c64
        obtain ⟨ji76, hji76⟩ : ∃ j_ : Int, (mn x5_2 4611686018427387904) = j_ := ⟨_, rfl⟩
        replace H : (some ji76) = some r := by first | (rw [hji76] at H; exact H) | (simp only [hji76] at H ⊢; exact H)
        have hji76_ : (if 4611686018427387904 < x5_2 then 4611686018427387904 else x5_2) = ji76 := hji76
        obtain rfl := Option.some.inj H
        try go_wp2
        have n0_ := Aside0.mk (blk_drew BK101.out)
        have n1_ := Aside0.mk (blk_drew BK102.out)
        have n2_ := Aside0.mk (blk_drew BK103.out)
        have n3_ := Aside0.mk (below_drew1 HB.out)
        clear BK101
        clear BK102
        clear BK103
        clear HB
        have BK101 := n0_
        have BK102 := n1_
        have BK103 := n2_
        have HB := n3_
        clear n0_ n1_ n2_ n3_
        refine start_ (n := 10) (S := fun w' => True) (ds := []) #[false, false, false, false, false, false, false, false, false, false] (by kernel_rfl) rfl rfl trivial (fun hHeld => ?_); refine with_tabW pacemakerref10_Ratio.tab21 pacemakerref10_Ratio.bits21 (fun HT_ HW_ => ?_)
        generalize wr.drew = w77 at BK101 BK102 BK103 HB hHeld ⊢
        refine pure_ (i := 0) (N := some 71) (v := ?_) (a' := ?_) #[true, false, false, false, false, false, false, false, false, false] rfl rfl (any_of HT_.out (by kernel_rfl)) (fun _ _ _ h => h) (Or.inl ⟨by rfl, ?_⟩) ?_ ?_
        rotate_left
        ·intro w'
         go_simp
         with_reducible rfl
        rotate_left
        ·simp only [Act.put, List.setIfInBounds_toArray, List.set_cons_zero, List.set_cons_succ, i64_w, i32_w]
         rfl
        refine pure_ (i := 1) (N := some 72) (v := ?_) (a' := ?_) #[true, true, false, false, false, false, false, false, false, false] rfl rfl (any_of HT_.out (by kernel_rfl)) (fun _ _ _ h => h) (Or.inl ⟨by rfl, ?_⟩) ?_ ?_
        rotate_left
        ·intro w'
         go_simp
         with_reducible rfl
        rotate_left
        ·simp only [Act.put, List.setIfInBounds_toArray, List.set_cons_zero, List.set_cons_succ, i64_w, i32_w]
         rfl
        refine pure_ (i := 2) (N := some 73) (v := ?_) (a' := ?_) #[true, true, true, false, false, false, false, false, false, false] rfl rfl (any_of HT_.out (by kernel_rfl)) (fun _ _ _ h => h) (Or.inl ⟨by rfl, ?_⟩) ?_ ?_
        rotate_left
        ·intro w'
         go_simp
         with_reducible rfl
        rotate_left
        ·simp only [Act.put, List.setIfInBounds_toArray, List.set_cons_zero, List.set_cons_succ, i64_w, i32_w]
         rfl
        refine pure_ (i := 3) (N := some 74) (v := undef) (a' := ?_) #[true, true, true, true, false, false, false, false, false, false] rfl rfl (any_of HT_.out (by kernel_rfl)) (fun _ _ _ h => h) (Or.inr ⟨by rfl, rfl⟩) ?_ ?_
        rotate_left
        ·simp only [Act.put, List.setIfInBounds_toArray, List.set_cons_zero, List.set_cons_succ, i64_w, i32_w]
         rfl
        refine pure_ (i := 4) (N := some 75) (v := undef) (a' := ?_) #[true, true, true, true, true, false, false, false, false, false] rfl rfl (any_of HT_.out (by kernel_rfl)) (fun _ _ _ h => h) (Or.inr ⟨by rfl, rfl⟩) ?_ ?_
        rotate_left
        ·simp only [Act.put, List.setIfInBounds_toArray, List.set_cons_zero, List.set_cons_succ, i64_w, i32_w]
         rfl
        refine pure_ (i := 5) (N := some 76) (v := undef) (a' := ?_) #[true, true, true, true, true, true, false, false, false, false] rfl rfl (any_of HT_.out (by kernel_rfl)) (fun _ _ _ h => h) (Or.inr ⟨by rfl, rfl⟩) ?_ ?_
        rotate_left
        ·simp only [Act.put, List.setIfInBounds_toArray, List.set_cons_zero, List.set_cons_succ, i64_w, i32_w]
         rfl
        refine pure_ (i := 6) (N := some 77) (v := undef) (a' := ?_) #[true, true, true, true, true, true, true, false, false, false] rfl rfl (any_of HT_.out (by kernel_rfl)) (fun _ _ _ h => h) (Or.inr ⟨by rfl, rfl⟩) ?_ ?_
        rotate_left
        ·simp only [Act.put, List.setIfInBounds_toArray, List.set_cons_zero, List.set_cons_succ, i64_w, i32_w]
         rfl
        refine pure_ (i := 7) (N := some 78) (v := undef) (a' := ?_) #[true, true, true, true, true, true, true, true, false, false] rfl rfl (any_of HT_.out (by kernel_rfl)) (fun _ _ _ h => h) (Or.inr ⟨by rfl, rfl⟩) ?_ ?_
        rotate_left
        ·simp only [Act.put, List.setIfInBounds_toArray, List.set_cons_zero, List.set_cons_succ, i64_w, i32_w]
         rfl
        refine pure_ (i := 8) (N := some 79) (v := undef) (a' := ?_) #[true, true, true, true, true, true, true, true, true, false] rfl rfl (any_of HT_.out (by kernel_rfl)) (fun _ _ _ h => h) (Or.inr ⟨by rfl, rfl⟩) ?_ ?_
        rotate_left
        ·simp only [Act.put, List.setIfInBounds_toArray, List.set_cons_zero, List.set_cons_succ, i64_w, i32_w]
         rfl
        refine pure_ (i := 9) (N := some 80) (v := ?_) (a' := ?_) #[true, true, true, true, true, true, true, true, true, true] rfl rfl (any_of HT_.out (by kernel_rfl)) (fun _ _ _ h => h) (Or.inl ⟨by rfl, ?_⟩) ?_ ?_
        rotate_left
        ·intro w'
         go_simp
         with_reducible rfl
        rotate_left
        ·simp only [Act.put, List.setIfInBounds_toArray, List.set_cons_zero, List.set_cons_succ, i64_w, i32_w]
         rfl
        refine done_ (done_of HT_.out (by kernel_rfl)) ?_
        try go_wp2
        go_ret
        exact ⟨by first | rfl | (simp [errW_none, errW_some] <;> rfl) | (simp only [← hji76]; first | rfl | (simp [errW_none, errW_some] <;> rfl)) | (simp [*, errW_none, errW_some] <;> rfl), by repeat (first | (with_reducible first | exact HB.out | apply below_alloc | apply pw_below_drewN | apply below_drew1 | refine below_set ?_ GE101.out | refine below_set ?_ GE102.out | refine below_set ?_ GE103.out) | exact HB.out)⟩

end Go.Proofs.Ytcmbogdilplmlaa.P
