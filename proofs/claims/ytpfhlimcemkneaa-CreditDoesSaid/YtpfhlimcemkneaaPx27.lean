-- Printed by a program of this session (wip/pp.py): functions, contracts, rows. Not trusted: Lean checks it.
import Derived.Test.YtpfhlimcemkneaaPx0
import Derived.Test.YtpfhlimcemkneaaPx23
import Derived.Test.YtpfhlimcemkneaaPx24
import Derived.Test.YtpfhlimcemkneaaPx25
import Derived.Test.YtpfhlimcemkneaaPx26
namespace Go.Proofs.Ytpfhlimcemkneaa.P
open Go.RowKit Go.Proofs.YtpfhlimcemkneaaW.PrintWords Go.Proofs.YtpfhlimcemkneaaW.PrintLast Go.Proofs.YtpfhlimcemkneaaW.PrintMore Go.Proofs.YtpfhlimcemkneaaX
attribute [local go_sem] max2_int min2_int max_two min_two max_three min_three max_four min_four   -- for this text's walks alone
set_option linter.unusedVariables false
set_option linter.unusedSimpArgs false

/-! ### pacemakerref01_Div: function 59 -/
mutual
def pacemakerref01_Div.l0 : Nat → Int → Int → Int → Int → Int → Int → Int → Int → Int → Option (Int × Int × Int × Int)
  | 0, _, _, _, _, _, _, _, _, _ => none
  | k + 1, x10, x102000, x102001, x104000, x104001, x105000, x105001, x106000, x106001 => if x10 ≥ 0 then ((pacemakerref01_Left.f k x105000 x105001 1).bind fun bt106 => ((pacemakerref01_bit.f x102000 x102001 x10).bind fun t108 => (if t108 = 1 then ((pacemakerref01_set.f bt106.1 bt106.2 0).bind fun bt109 => (pacemakerref01_Div.j1 k x10 x102000 x102001 x104000 x104001 bt109.1 bt109.2 x106000 x106001)) else (pacemakerref01_Div.j1 k x10 x102000 x102001 x104000 x104001 bt106.1 bt106.2 x106000 x106001)))) else (some (x104000, x104001, x105001, 0))
def pacemakerref01_Div.j1 : Nat → Int → Int → Int → Int → Int → Int → Int → Int → Int → Option (Int × Int × Int × Int)
  | 0, _, _, _, _, _, _, _, _, _ => none
  | k + 1, x10, x102000, x102001, x104000, x104001, x105000, x105001, x106000, x106001 => (pacemakerref01_Cmp.f k x105000 x105001 x106000 x106001).bind fun t111 => (if t111 ≥ 0 then ((pacemakerref01_Sub.f k x105000 x105001 x106000 x106001).bind fun bt112 => ((pacemakerref01_set.f x104000 x104001 x10).bind fun bt116 => (pacemakerref01_Div.l0 k (wrap64 (x10 - 1)) x102000 x102001 bt116.1 bt116.2 bt112.1 bt112.2.1 x106000 x106001))) else (pacemakerref01_Div.l0 k (wrap64 (x10 - 1)) x102000 x102001 x104000 x104001 x105000 x105001 x106000 x106001))
end
def pacemakerref01_Div.f (k : Nat) (a0_0 : Int) (a0_1 : Int) (a1 : Int) : Option (Int × Int × Int × Int) := if a1 = 0 then (some (0, 0, 0, 1)) else (pacemakerref01_Div.l0 k 127 a0_0 a0_1 0 0 0 0 0 a1)
theorem pacemakerref01_Div.mono_l : ∀ k, (∀ y0 y1 y2 y3 y4 y5 y6 y7 y8, LeO (pacemakerref01_Div.l0 k y0 y1 y2 y3 y4 y5 y6 y7 y8) (pacemakerref01_Div.l0 (k + 1) y0 y1 y2 y3 y4 y5 y6 y7 y8)) ∧ (∀ y0 y1 y2 y3 y4 y5 y6 y7 y8, LeO (pacemakerref01_Div.j1 k y0 y1 y2 y3 y4 y5 y6 y7 y8) (pacemakerref01_Div.j1 (k + 1) y0 y1 y2 y3 y4 y5 y6 y7 y8))
  | 0 => ⟨fun _ _ _ _ _ _ _ _ _ r h => by simp [pacemakerref01_Div.l0] at h, fun _ _ _ _ _ _ _ _ _ r h => by simp [pacemakerref01_Div.j1] at h⟩
  | k + 1 => by
    obtain ⟨ih0, ih1⟩ := pacemakerref01_Div.mono_l k
    refine ⟨?_, ?_⟩
    · intro y0 y1 y2 y3 y4 y5 y6 y7 y8
      unfold pacemakerref01_Div.l0
      repeat' first
      | (with_reducible exact ih0 _ _ _ _ _ _ _ _ _)
      | (with_reducible exact ih1 _ _ _ _ _ _ _ _ _)
      | (with_reducible exact pacemakerref01_Cmp.mono _ _ _ _ _)
      | (with_reducible exact pacemakerref01_Left.mono _ _ _ _)
      | (with_reducible exact pacemakerref01_Sub.mono _ _ _ _ _)
      | (with_reducible exact LeO.refl _)
      | (with_reducible exact LeO.none _)
      | (with_reducible refine LeO.ite ?_ ?_)
      | (with_reducible refine LeO.bind ?_ (fun _ => ?_))
      | exact ih0 _ _ _ _ _ _ _ _ _
      | exact ih1 _ _ _ _ _ _ _ _ _
      | exact pacemakerref01_Cmp.mono _ _ _ _ _
      | exact pacemakerref01_Left.mono _ _ _ _
      | exact pacemakerref01_Sub.mono _ _ _ _ _
      | exact LeO.none _
      | refine LeO.ite ?_ ?_
      | refine LeO.bind ?_ (fun _ => ?_)
    · intro y0 y1 y2 y3 y4 y5 y6 y7 y8
      unfold pacemakerref01_Div.j1
      repeat' first
      | (with_reducible exact ih0 _ _ _ _ _ _ _ _ _)
      | (with_reducible exact ih1 _ _ _ _ _ _ _ _ _)
      | (with_reducible exact pacemakerref01_Cmp.mono _ _ _ _ _)
      | (with_reducible exact pacemakerref01_Left.mono _ _ _ _)
      | (with_reducible exact pacemakerref01_Sub.mono _ _ _ _ _)
      | (with_reducible exact LeO.refl _)
      | (with_reducible exact LeO.none _)
      | (with_reducible refine LeO.ite ?_ ?_)
      | (with_reducible refine LeO.bind ?_ (fun _ => ?_))
      | exact ih0 _ _ _ _ _ _ _ _ _
      | exact ih1 _ _ _ _ _ _ _ _ _
      | exact pacemakerref01_Cmp.mono _ _ _ _ _
      | exact pacemakerref01_Left.mono _ _ _ _
      | exact pacemakerref01_Sub.mono _ _ _ _ _
      | exact LeO.none _
      | refine LeO.ite ?_ ?_
      | refine LeO.bind ?_ (fun _ => ?_)
theorem pacemakerref01_Div.mono : ∀ a0 a1 a2 k, LeO (pacemakerref01_Div.f k a0 a1 a2) (pacemakerref01_Div.f (k + 1) a0 a1 a2) := by
  intro a0 a1 a2 k
  obtain ⟨ih0, ih1⟩ := pacemakerref01_Div.mono_l k
  unfold pacemakerref01_Div.f
  repeat' first
      | (with_reducible exact ih0 _ _ _ _ _ _ _ _ _)
      | (with_reducible exact ih1 _ _ _ _ _ _ _ _ _)
      | (with_reducible exact pacemakerref01_Cmp.mono _ _ _ _ _)
      | (with_reducible exact pacemakerref01_Left.mono _ _ _ _)
      | (with_reducible exact pacemakerref01_Sub.mono _ _ _ _ _)
      | (with_reducible exact LeO.refl _)
      | (with_reducible exact LeO.none _)
      | (with_reducible refine LeO.ite ?_ ?_)
      | (with_reducible refine LeO.bind ?_ (fun _ => ?_))
      | exact ih0 _ _ _ _ _ _ _ _ _
      | exact ih1 _ _ _ _ _ _ _ _ _
      | exact pacemakerref01_Cmp.mono _ _ _ _ _
      | exact pacemakerref01_Left.mono _ _ _ _
      | exact pacemakerref01_Sub.mono _ _ _ _ _
      | exact LeO.none _
      | refine LeO.ite ?_ ?_
      | refine LeO.bind ?_ (fun _ => ?_)
set_option maxHeartbeats 8000000 in
set_option maxRecDepth 100000 in
theorem pacemakerref01_Div.calls (k : Nat) (a0_0 : Int) (a0_1 : Int) (a1 : Int) (r1 : Int) (r2 : Int) (r3 : Int) (r4 : Int) (w : World) (h : pacemakerref01_Div.f k a0_0 a0_1 a1 = some (r1, r2, r3, r4)) :
    Calls Try.prog 59 #[.agg #[.int .u64 a0_0, .int .u64 a0_1], .int .u64 a1] w fun e w' => e = .returned (.tuple #[.agg #[.int .u64 r1, .int .u64 r2], .int .u64 r3, .int .i64 r4]) ∧ Below w.heap.size w w' := by
  have hu46 := Try.underlying46
  have HB := Aside0.mk (Below.refl w.heap.size w)
  have H : (if a1 = 0 then (some (0, 0, 0, 1)) else (pacemakerref01_Div.l0 k 127 a0_0 a0_1 0 0 0 0 0 a1)) = some (r1, r2, r3, r4) := h
  clear h
  by_cases c3 : a1 = 0
  · rw [if_pos c3] at H
    have c3b0 : (a1 == 0) = true := beq_iff_eq.mpr c3
    have c3b1 : (a1 != 0) = false := bne_eq_false_iff_eq.mpr c3
    clear c3
    simp only [Option.some.injEq, Prod.mk.injEq] at H
    obtain ⟨rfl, rfl, rfl, rfl⟩ := H
    go_enter Try.func59, Try.ntmps59
    go_wp2_with (first | ((with_reducible refine gate_dst (N := 2) rfl ?_); refine box_event ?hg (N := 2) ?hd (cs := #[.int .u64 a0_0, .int .u64 a0_1]) (t := 46) ?hr ?_; (case hd => rfl); (case hg => rfl); (case hr => first | (go_simp; done) | (go_simp; rfl)); intro gb101 hg w4 hbox hb; have n0_ := Aside0.mk (below_step (by repeat (first | (with_reducible first | exact HB.out | apply below_alloc | apply pw_below_drewN | apply below_drew1) | exact HB.out)) hb); have n1_ := Aside0.mk (hbox); have n2_ := Aside0.mk ((by rw [hg]; exact (below_size (by repeat (first | (with_reducible first | exact HB.out | apply below_alloc | apply pw_below_drewN | apply below_drew1) | exact HB.out))) : w.heap.size ≤ gb101)); have n3_ := Aside0.mk ((by rw [hg]; exact (below_size (by repeat (first | (with_reducible first | exact HB.out | apply below_alloc | apply pw_below_drewN | apply below_drew1) | exact HB.out))) : w.heap.size ≤ gb101)); clear HB; have HB := n0_; have BK101 := n1_; have GW101 := n2_; have GE101 := n3_; clear n0_ n1_ n2_ n3_; clear hb hbox hg) | ((with_reducible refine gate_dst (N := 4) rfl ?_); refine box_event ?hg (N := 4) ?hd (cs := #[.int .u64 0, .int .u64 0]) (t := 46) ?hr ?_; (case hd => rfl); (case hg => rfl); (case hr => first | (go_simp; done) | (go_simp; rfl)); intro gb102 hg w5 hbox hb; have n0_ := Aside0.mk (blk_below (g := gb101) (o := .cells #[.int .u64 a0_0, .int .u64 a0_1] 46 (0, 0)) (by (with_reducible repeat (first | refine blk_drewN ?_ _ | refine blk_drew ?_ | refine blk_alloc ?_ _)); exact BK101.out) hb); have n1_ := Aside0.mk (below_step (by repeat (first | (with_reducible first | exact HB.out | apply below_alloc | apply pw_below_drewN | apply below_drew1 | refine below_set ?_ GE101.out) | exact HB.out)) hb); have n2_ := Aside0.mk (hbox); have n3_ := Aside0.mk ((by rw [hg]; exact (below_size (by repeat (first | (with_reducible first | exact HB.out | apply below_alloc | apply pw_below_drewN | apply below_drew1 | refine below_set ?_ GE101.out) | exact HB.out))) : w.heap.size ≤ gb102)); have n4_ := Aside0.mk ((by rw [hg]; exact (below_size (by repeat (first | (with_reducible first | exact HB.out | apply below_alloc | apply pw_below_drewN | apply below_drew1 | refine below_set ?_ GE101.out) | exact HB.out))) : w.heap.size ≤ gb102)); have n5_ := Aside0.mk ((by rw [hg]; exact Nat.ne_of_lt (blk_lt (g := gb101) (o := .cells #[.int .u64 a0_0, .int .u64 a0_1] 46 (0, 0)) (by (with_reducible repeat (first | refine blk_drewN ?_ _ | refine blk_drew ?_ | refine blk_alloc ?_ _)); exact BK101.out)) : gb101 ≠ gb102)); have n6_ := Aside0.mk ((by rw [hg]; exact Nat.ne_of_gt (blk_lt (g := gb101) (o := .cells #[.int .u64 a0_0, .int .u64 a0_1] 46 (0, 0)) (by (with_reducible repeat (first | refine blk_drewN ?_ _ | refine blk_drew ?_ | refine blk_alloc ?_ _)); exact BK101.out)) : gb102 ≠ gb101)); clear BK101; clear HB; have BK101 := n0_; have HB := n1_; have BK102 := n2_; have GW102 := n3_; have GE102 := n4_; have NB101_102 := n5_; have NB102_101 := n6_; clear n0_ n1_ n2_ n3_ n4_ n5_ n6_; clear hb hbox hg; have hnb6 := NB102_101.out; have hnc6 := NB101_102.out; have hcz7_0 : w5.cell? ⟨gb102, 0, none⟩ = some (.int .u64 0) := (blk_cell BK102.out 0).trans rfl; have hcz7_1 : w5.cell? ⟨gb102, 1, none⟩ = some (.int .u64 0) := (blk_cell BK102.out 1).trans rfl; have hfz7_0 := blk_frozen BK102.out 0; have hfz7_1 := blk_frozen BK102.out 1))
    refine bodyPost_ret (results_ctt rfl _ _ gb102 46 #[.int .u64 0, .int .u64 0] (0, 0) _ rfl (by (with_reducible repeat (first | refine blk_drewN ?_ _ | refine blk_drew ?_ | refine blk_alloc ?_ _)); refine blk_put (cs := #[.int .u64 0, .int .u64 0]) ?_ 1 _ rfl; (with_reducible repeat (first | refine blk_drewN ?_ _ | refine blk_drew ?_ | refine blk_alloc ?_ _)); refine blk_put (cs := #[.int .u64 0, .int .u64 0]) ?_ 0 _ rfl; (with_reducible repeat (first | refine blk_drewN ?_ _ | refine blk_drew ?_ | refine blk_alloc ?_ _)); exact BK102.out) Try.underlying46 rfl (by kernel_rfl)) rfl ?_
    exact ⟨by first | rfl | (simp [errW_none, errW_some] <;> rfl) | (simp [*, errW_none, errW_some] <;> rfl), by repeat (first | (with_reducible first | exact HB.out | apply below_alloc | apply pw_below_drewN | apply below_drew1 | refine below_set ?_ GE101.out | refine below_set ?_ GE102.out) | exact HB.out)⟩
  · rw [if_neg c3] at H
    have c3b0 : (a1 == 0) = false := beq_eq_false_iff_ne.mpr c3
    have c3b1 : (a1 != 0) = true := bne_iff_ne.mpr c3
    have H' := Aside0.mk H
    clear H
    go_enter Try.func59, Try.ntmps59
    go_wp2_with (first | ((with_reducible refine gate_dst (N := 2) rfl ?_); refine box_event ?hg (N := 2) ?hd (cs := #[.int .u64 a0_0, .int .u64 a0_1]) (t := 46) ?hr ?_; (case hd => rfl); (case hg => rfl); (case hr => first | (go_simp; done) | (go_simp; rfl)); intro gb101 hg w8 hbox hb; have n0_ := Aside0.mk (below_step (by repeat (first | (with_reducible first | exact HB.out | apply below_alloc | apply pw_below_drewN | apply below_drew1) | exact HB.out)) hb); have n1_ := Aside0.mk (hbox); have n2_ := Aside0.mk ((by rw [hg]; exact (below_size (by repeat (first | (with_reducible first | exact HB.out | apply below_alloc | apply pw_below_drewN | apply below_drew1) | exact HB.out))) : w.heap.size ≤ gb101)); have n3_ := Aside0.mk ((by rw [hg]; exact (below_size (by repeat (first | (with_reducible first | exact HB.out | apply below_alloc | apply pw_below_drewN | apply below_drew1) | exact HB.out))) : w.heap.size ≤ gb101)); clear HB; have HB := n0_; have BK101 := n1_; have GW101 := n2_; have GE101 := n3_; clear n0_ n1_ n2_ n3_; clear hb hbox hg) | ((with_reducible refine gate_dst (N := 4) rfl ?_); refine box_event ?hg (N := 4) ?hd (cs := #[.int .u64 0, .int .u64 0]) (t := 46) ?hr ?_; (case hd => rfl); (case hg => rfl); (case hr => first | (go_simp; done) | (go_simp; rfl)); intro gb102 hg w9 hbox hb; have n0_ := Aside0.mk (blk_below (g := gb101) (o := .cells #[.int .u64 a0_0, .int .u64 a0_1] 46 (0, 0)) (by (with_reducible repeat (first | refine blk_drewN ?_ _ | refine blk_drew ?_ | refine blk_alloc ?_ _)); exact BK101.out) hb); have n1_ := Aside0.mk (below_step (by repeat (first | (with_reducible first | exact HB.out | apply below_alloc | apply pw_below_drewN | apply below_drew1 | refine below_set ?_ GE101.out) | exact HB.out)) hb); have n2_ := Aside0.mk (hbox); have n3_ := Aside0.mk ((by rw [hg]; exact (below_size (by repeat (first | (with_reducible first | exact HB.out | apply below_alloc | apply pw_below_drewN | apply below_drew1 | refine below_set ?_ GE101.out) | exact HB.out))) : w.heap.size ≤ gb102)); have n4_ := Aside0.mk ((by rw [hg]; exact (below_size (by repeat (first | (with_reducible first | exact HB.out | apply below_alloc | apply pw_below_drewN | apply below_drew1 | refine below_set ?_ GE101.out) | exact HB.out))) : w.heap.size ≤ gb102)); have n5_ := Aside0.mk ((by rw [hg]; exact Nat.ne_of_lt (blk_lt (g := gb101) (o := .cells #[.int .u64 a0_0, .int .u64 a0_1] 46 (0, 0)) (by (with_reducible repeat (first | refine blk_drewN ?_ _ | refine blk_drew ?_ | refine blk_alloc ?_ _)); exact BK101.out)) : gb101 ≠ gb102)); have n6_ := Aside0.mk ((by rw [hg]; exact Nat.ne_of_gt (blk_lt (g := gb101) (o := .cells #[.int .u64 a0_0, .int .u64 a0_1] 46 (0, 0)) (by (with_reducible repeat (first | refine blk_drewN ?_ _ | refine blk_drew ?_ | refine blk_alloc ?_ _)); exact BK101.out)) : gb102 ≠ gb101)); clear BK101; clear HB; have BK101 := n0_; have HB := n1_; have BK102 := n2_; have GW102 := n3_; have GE102 := n4_; have NB101_102 := n5_; have NB102_101 := n6_; clear n0_ n1_ n2_ n3_ n4_ n5_ n6_; clear hb hbox hg) | ((with_reducible refine gate_dst (N := 7) rfl ?_); refine box_event ?hg (N := 7) ?hd (cs := #[.int .u64 0, .int .u64 0]) (t := 46) ?hr ?_; (case hd => rfl); (case hg => rfl); (case hr => first | (go_simp; done) | (go_simp; rfl)); intro gb103 hg w10 hbox hb; have n0_ := Aside0.mk (blk_below (g := gb101) (o := .cells #[.int .u64 a0_0, .int .u64 a0_1] 46 (0, 0)) (by (with_reducible repeat (first | refine blk_drewN ?_ _ | refine blk_drew ?_ | refine blk_alloc ?_ _)); exact BK101.out) hb); have n1_ := Aside0.mk (blk_below (g := gb102) (o := .cells #[.int .u64 0, .int .u64 0] 46 (0, 0)) (by (with_reducible repeat (first | refine blk_drewN ?_ _ | refine blk_drew ?_ | refine blk_alloc ?_ _)); exact BK102.out) hb); have n2_ := Aside0.mk (below_step (by repeat (first | (with_reducible first | exact HB.out | apply below_alloc | apply pw_below_drewN | apply below_drew1 | refine below_set ?_ GE101.out | refine below_set ?_ GE102.out) | exact HB.out)) hb); have n3_ := Aside0.mk (hbox); have n4_ := Aside0.mk ((by rw [hg]; exact (below_size (by repeat (first | (with_reducible first | exact HB.out | apply below_alloc | apply pw_below_drewN | apply below_drew1 | refine below_set ?_ GE101.out | refine below_set ?_ GE102.out) | exact HB.out))) : w.heap.size ≤ gb103)); have n5_ := Aside0.mk ((by rw [hg]; exact (below_size (by repeat (first | (with_reducible first | exact HB.out | apply below_alloc | apply pw_below_drewN | apply below_drew1 | refine below_set ?_ GE101.out | refine below_set ?_ GE102.out) | exact HB.out))) : w.heap.size ≤ gb103)); have n6_ := Aside0.mk ((by rw [hg]; exact Nat.ne_of_lt (blk_lt (g := gb101) (o := .cells #[.int .u64 a0_0, .int .u64 a0_1] 46 (0, 0)) (by (with_reducible repeat (first | refine blk_drewN ?_ _ | refine blk_drew ?_ | refine blk_alloc ?_ _)); exact BK101.out)) : gb101 ≠ gb103)); have n7_ := Aside0.mk ((by rw [hg]; exact Nat.ne_of_gt (blk_lt (g := gb101) (o := .cells #[.int .u64 a0_0, .int .u64 a0_1] 46 (0, 0)) (by (with_reducible repeat (first | refine blk_drewN ?_ _ | refine blk_drew ?_ | refine blk_alloc ?_ _)); exact BK101.out)) : gb103 ≠ gb101)); have n8_ := Aside0.mk ((by rw [hg]; exact Nat.ne_of_lt (blk_lt (g := gb102) (o := .cells #[.int .u64 0, .int .u64 0] 46 (0, 0)) (by (with_reducible repeat (first | refine blk_drewN ?_ _ | refine blk_drew ?_ | refine blk_alloc ?_ _)); exact BK102.out)) : gb102 ≠ gb103)); have n9_ := Aside0.mk ((by rw [hg]; exact Nat.ne_of_gt (blk_lt (g := gb102) (o := .cells #[.int .u64 0, .int .u64 0] 46 (0, 0)) (by (with_reducible repeat (first | refine blk_drewN ?_ _ | refine blk_drew ?_ | refine blk_alloc ?_ _)); exact BK102.out)) : gb103 ≠ gb102)); clear BK101; clear BK102; clear HB; have BK101 := n0_; have BK102 := n1_; have HB := n2_; have BK103 := n3_; have GW103 := n4_; have GE103 := n5_; have NB101_103 := n6_; have NB103_101 := n7_; have NB102_103 := n8_; have NB103_102 := n9_; clear n0_ n1_ n2_ n3_ n4_ n5_ n6_ n7_ n8_ n9_; clear hb hbox hg) | ((with_reducible refine gate_dst (N := 8) rfl ?_); refine box_event ?hg (N := 8) ?hd (cs := #[.int .u64 0, .int .u64 0]) (t := 46) ?hr ?_; (case hd => rfl); (case hg => rfl); (case hr => first | (go_simp; done) | (go_simp; rfl)); intro gb104 hg w11 hbox hb; have n0_ := Aside0.mk (blk_below (g := gb101) (o := .cells #[.int .u64 a0_0, .int .u64 a0_1] 46 (0, 0)) (by (with_reducible repeat (first | refine blk_drewN ?_ _ | refine blk_drew ?_ | refine blk_alloc ?_ _)); exact BK101.out) hb); have n1_ := Aside0.mk (blk_below (g := gb102) (o := .cells #[.int .u64 0, .int .u64 0] 46 (0, 0)) (by (with_reducible repeat (first | refine blk_drewN ?_ _ | refine blk_drew ?_ | refine blk_alloc ?_ _)); exact BK102.out) hb); have n2_ := Aside0.mk (blk_below (g := gb103) (o := .cells #[.int .u64 0, .int .u64 0] 46 (0, 0)) (by (with_reducible repeat (first | refine blk_drewN ?_ _ | refine blk_drew ?_ | refine blk_alloc ?_ _)); exact BK103.out) hb); have n3_ := Aside0.mk (below_step (by repeat (first | (with_reducible first | exact HB.out | apply below_alloc | apply pw_below_drewN | apply below_drew1 | refine below_set ?_ GE101.out | refine below_set ?_ GE102.out | refine below_set ?_ GE103.out) | exact HB.out)) hb); have n4_ := Aside0.mk (hbox); have n5_ := Aside0.mk ((by rw [hg]; exact (below_size (by repeat (first | (with_reducible first | exact HB.out | apply below_alloc | apply pw_below_drewN | apply below_drew1 | refine below_set ?_ GE101.out | refine below_set ?_ GE102.out | refine below_set ?_ GE103.out) | exact HB.out))) : w.heap.size ≤ gb104)); have n6_ := Aside0.mk ((by rw [hg]; exact (below_size (by repeat (first | (with_reducible first | exact HB.out | apply below_alloc | apply pw_below_drewN | apply below_drew1 | refine below_set ?_ GE101.out | refine below_set ?_ GE102.out | refine below_set ?_ GE103.out) | exact HB.out))) : w.heap.size ≤ gb104)); have n7_ := Aside0.mk ((by rw [hg]; exact Nat.ne_of_lt (blk_lt (g := gb101) (o := .cells #[.int .u64 a0_0, .int .u64 a0_1] 46 (0, 0)) (by (with_reducible repeat (first | refine blk_drewN ?_ _ | refine blk_drew ?_ | refine blk_alloc ?_ _)); exact BK101.out)) : gb101 ≠ gb104)); have n8_ := Aside0.mk ((by rw [hg]; exact Nat.ne_of_gt (blk_lt (g := gb101) (o := .cells #[.int .u64 a0_0, .int .u64 a0_1] 46 (0, 0)) (by (with_reducible repeat (first | refine blk_drewN ?_ _ | refine blk_drew ?_ | refine blk_alloc ?_ _)); exact BK101.out)) : gb104 ≠ gb101)); have n9_ := Aside0.mk ((by rw [hg]; exact Nat.ne_of_lt (blk_lt (g := gb102) (o := .cells #[.int .u64 0, .int .u64 0] 46 (0, 0)) (by (with_reducible repeat (first | refine blk_drewN ?_ _ | refine blk_drew ?_ | refine blk_alloc ?_ _)); exact BK102.out)) : gb102 ≠ gb104)); have n10_ := Aside0.mk ((by rw [hg]; exact Nat.ne_of_gt (blk_lt (g := gb102) (o := .cells #[.int .u64 0, .int .u64 0] 46 (0, 0)) (by (with_reducible repeat (first | refine blk_drewN ?_ _ | refine blk_drew ?_ | refine blk_alloc ?_ _)); exact BK102.out)) : gb104 ≠ gb102)); have n11_ := Aside0.mk ((by rw [hg]; exact Nat.ne_of_lt (blk_lt (g := gb103) (o := .cells #[.int .u64 0, .int .u64 0] 46 (0, 0)) (by (with_reducible repeat (first | refine blk_drewN ?_ _ | refine blk_drew ?_ | refine blk_alloc ?_ _)); exact BK103.out)) : gb103 ≠ gb104)); have n12_ := Aside0.mk ((by rw [hg]; exact Nat.ne_of_gt (blk_lt (g := gb103) (o := .cells #[.int .u64 0, .int .u64 0] 46 (0, 0)) (by (with_reducible repeat (first | refine blk_drewN ?_ _ | refine blk_drew ?_ | refine blk_alloc ?_ _)); exact BK103.out)) : gb104 ≠ gb103)); clear BK101; clear BK102; clear BK103; clear HB; have BK101 := n0_; have BK102 := n1_; have BK103 := n2_; have HB := n3_; have BK104 := n4_; have GW104 := n5_; have GE104 := n6_; have NB101_104 := n7_; have NB104_101 := n8_; have NB102_104 := n9_; have NB104_102 := n10_; have NB103_104 := n11_; have NB104_103 := n12_; clear n0_ n1_ n2_ n3_ n4_ n5_ n6_ n7_ n8_ n9_ n10_ n11_ n12_; clear hb hbox hg) | ((with_reducible refine gate_dst (N := 9) rfl ?_); refine box_event ?hg (N := 9) ?hd (cs := #[.int .u64 0, .int .u64 0]) (t := 46) ?hr ?_; (case hd => rfl); (case hg => rfl); (case hr => first | (go_simp; done) | (go_simp; rfl)); intro gb105 hg w12 hbox hb; have n0_ := Aside0.mk (blk_below (g := gb101) (o := .cells #[.int .u64 a0_0, .int .u64 a0_1] 46 (0, 0)) (by (with_reducible repeat (first | refine blk_drewN ?_ _ | refine blk_drew ?_ | refine blk_alloc ?_ _)); exact BK101.out) hb); have n1_ := Aside0.mk (blk_below (g := gb102) (o := .cells #[.int .u64 0, .int .u64 0] 46 (0, 0)) (by (with_reducible repeat (first | refine blk_drewN ?_ _ | refine blk_drew ?_ | refine blk_alloc ?_ _)); exact BK102.out) hb); have n2_ := Aside0.mk (blk_below (g := gb103) (o := .cells #[.int .u64 0, .int .u64 0] 46 (0, 0)) (by (with_reducible repeat (first | refine blk_drewN ?_ _ | refine blk_drew ?_ | refine blk_alloc ?_ _)); exact BK103.out) hb); have n3_ := Aside0.mk (blk_below (g := gb104) (o := .cells #[.int .u64 0, .int .u64 0] 46 (0, 0)) (by (with_reducible repeat (first | refine blk_drewN ?_ _ | refine blk_drew ?_ | refine blk_alloc ?_ _)); exact BK104.out) hb); have n4_ := Aside0.mk (below_step (by repeat (first | (with_reducible first | exact HB.out | apply below_alloc | apply pw_below_drewN | apply below_drew1 | refine below_set ?_ GE101.out | refine below_set ?_ GE102.out | refine below_set ?_ GE103.out | refine below_set ?_ GE104.out) | exact HB.out)) hb); have n5_ := Aside0.mk (hbox); have n6_ := Aside0.mk ((by rw [hg]; exact (below_size (by repeat (first | (with_reducible first | exact HB.out | apply below_alloc | apply pw_below_drewN | apply below_drew1 | refine below_set ?_ GE101.out | refine below_set ?_ GE102.out | refine below_set ?_ GE103.out | refine below_set ?_ GE104.out) | exact HB.out))) : w.heap.size ≤ gb105)); have n7_ := Aside0.mk ((by rw [hg]; exact (below_size (by repeat (first | (with_reducible first | exact HB.out | apply below_alloc | apply pw_below_drewN | apply below_drew1 | refine below_set ?_ GE101.out | refine below_set ?_ GE102.out | refine below_set ?_ GE103.out | refine below_set ?_ GE104.out) | exact HB.out))) : w.heap.size ≤ gb105)); have n8_ := Aside0.mk ((by rw [hg]; exact Nat.ne_of_lt (blk_lt (g := gb101) (o := .cells #[.int .u64 a0_0, .int .u64 a0_1] 46 (0, 0)) (by (with_reducible repeat (first | refine blk_drewN ?_ _ | refine blk_drew ?_ | refine blk_alloc ?_ _)); exact BK101.out)) : gb101 ≠ gb105)); have n9_ := Aside0.mk ((by rw [hg]; exact Nat.ne_of_gt (blk_lt (g := gb101) (o := .cells #[.int .u64 a0_0, .int .u64 a0_1] 46 (0, 0)) (by (with_reducible repeat (first | refine blk_drewN ?_ _ | refine blk_drew ?_ | refine blk_alloc ?_ _)); exact BK101.out)) : gb105 ≠ gb101)); have n10_ := Aside0.mk ((by rw [hg]; exact Nat.ne_of_lt (blk_lt (g := gb102) (o := .cells #[.int .u64 0, .int .u64 0] 46 (0, 0)) (by (with_reducible repeat (first | refine blk_drewN ?_ _ | refine blk_drew ?_ | refine blk_alloc ?_ _)); exact BK102.out)) : gb102 ≠ gb105)); have n11_ := Aside0.mk ((by rw [hg]; exact Nat.ne_of_gt (blk_lt (g := gb102) (o := .cells #[.int .u64 0, .int .u64 0] 46 (0, 0)) (by (with_reducible repeat (first | refine blk_drewN ?_ _ | refine blk_drew ?_ | refine blk_alloc ?_ _)); exact BK102.out)) : gb105 ≠ gb102)); have n12_ := Aside0.mk ((by rw [hg]; exact Nat.ne_of_lt (blk_lt (g := gb103) (o := .cells #[.int .u64 0, .int .u64 0] 46 (0, 0)) (by (with_reducible repeat (first | refine blk_drewN ?_ _ | refine blk_drew ?_ | refine blk_alloc ?_ _)); exact BK103.out)) : gb103 ≠ gb105)); have n13_ := Aside0.mk ((by rw [hg]; exact Nat.ne_of_gt (blk_lt (g := gb103) (o := .cells #[.int .u64 0, .int .u64 0] 46 (0, 0)) (by (with_reducible repeat (first | refine blk_drewN ?_ _ | refine blk_drew ?_ | refine blk_alloc ?_ _)); exact BK103.out)) : gb105 ≠ gb103)); have n14_ := Aside0.mk ((by rw [hg]; exact Nat.ne_of_lt (blk_lt (g := gb104) (o := .cells #[.int .u64 0, .int .u64 0] 46 (0, 0)) (by (with_reducible repeat (first | refine blk_drewN ?_ _ | refine blk_drew ?_ | refine blk_alloc ?_ _)); exact BK104.out)) : gb104 ≠ gb105)); have n15_ := Aside0.mk ((by rw [hg]; exact Nat.ne_of_gt (blk_lt (g := gb104) (o := .cells #[.int .u64 0, .int .u64 0] 46 (0, 0)) (by (with_reducible repeat (first | refine blk_drewN ?_ _ | refine blk_drew ?_ | refine blk_alloc ?_ _)); exact BK104.out)) : gb105 ≠ gb104)); clear BK101; clear BK102; clear BK103; clear BK104; clear HB; have BK101 := n0_; have BK102 := n1_; have BK103 := n2_; have BK104 := n3_; have HB := n4_; have BK105 := n5_; have GW105 := n6_; have GE105 := n7_; have NB101_105 := n8_; have NB105_101 := n9_; have NB102_105 := n10_; have NB105_102 := n11_; have NB103_105 := n12_; have NB105_103 := n13_; have NB104_105 := n14_; have NB105_104 := n15_; clear n0_ n1_ n2_ n3_ n4_ n5_ n6_ n7_ n8_ n9_ n10_ n11_ n12_ n13_ n14_ n15_; clear hb hbox hg; have hnb13 := NB105_101.out; have hnc13 := NB101_105.out; have hnb14 := NB105_102.out; have hnc14 := NB102_105.out; have hnb15 := NB105_103.out; have hnc15 := NB103_105.out; have hnb16 := NB105_104.out; have hnc16 := NB104_105.out; have hcz17_0 : w12.cell? ⟨gb105, 0, none⟩ = some (.int .u64 0) := (blk_cell BK105.out 0).trans rfl; have hcz17_1 : w12.cell? ⟨gb105, 1, none⟩ = some (.int .u64 0) := (blk_cell BK105.out 1).trans rfl; have hfz17_0 := blk_frozen BK105.out 0; have hfz17_1 := blk_frozen BK105.out 1))
    go_loopg [10] k (fun kq v10 w' => ∃ (x10_1 : Int) (x104000_1 : Int) (x104001_1 : Int) (x105000_1 : Int) (x105001_1 : Int), v10 = .int .i64 x10_1 ∧ Aside0 (pacemakerref01_Div.l0 kq x10_1 a0_0 a0_1 x104000_1 x104001_1 x105000_1 x105001_1 0 a1 = some (r1, r2, r3, r4)) ∧ Aside0 (kq ≤ k) ∧ Aside0 (w'.heap[gb101]? = some (.cells #[.int .u64 a0_0, .int .u64 a0_1] 46 (0, 0))) ∧ Aside0 (w'.heap[gb102]? = some (.cells #[.int .u64 0, .int .u64 0] 46 (0, 0))) ∧ Aside0 (w'.heap[gb103]? = some (.cells #[.int .u64 x104000_1, .int .u64 x104001_1] 46 (0, 0))) ∧ Aside0 (w'.heap[gb104]? = some (.cells #[.int .u64 x105000_1, .int .u64 x105001_1] 46 (0, 0))) ∧ Aside0 (w'.heap[gb105]? = some (.cells #[.int .u64 0, .int .u64 a1] 46 (0, 0))) ∧ Aside0 (Below w.heap.size w w'))
    case atStart => exact ⟨(127), (0), (0), (0), (0), (by first | rfl | (simp; done) | (simp [*]; done)), H', ⟨Nat.le_refl _⟩, ⟨by (with_reducible repeat (first | refine blk_drewN ?_ _ | refine blk_drew ?_ | refine blk_alloc ?_ _)); refine blk_far ?_ NB101_105.out _; (with_reducible repeat (first | refine blk_drewN ?_ _ | refine blk_drew ?_ | refine blk_alloc ?_ _)); refine blk_far ?_ NB101_105.out _; (with_reducible repeat (first | refine blk_drewN ?_ _ | refine blk_drew ?_ | refine blk_alloc ?_ _)); exact BK101.out⟩, ⟨by (with_reducible repeat (first | refine blk_drewN ?_ _ | refine blk_drew ?_ | refine blk_alloc ?_ _)); refine blk_far ?_ NB102_105.out _; (with_reducible repeat (first | refine blk_drewN ?_ _ | refine blk_drew ?_ | refine blk_alloc ?_ _)); refine blk_far ?_ NB102_105.out _; (with_reducible repeat (first | refine blk_drewN ?_ _ | refine blk_drew ?_ | refine blk_alloc ?_ _)); exact BK102.out⟩, ⟨by (with_reducible repeat (first | refine blk_drewN ?_ _ | refine blk_drew ?_ | refine blk_alloc ?_ _)); refine blk_far ?_ NB103_105.out _; (with_reducible repeat (first | refine blk_drewN ?_ _ | refine blk_drew ?_ | refine blk_alloc ?_ _)); refine blk_far ?_ NB103_105.out _; (with_reducible repeat (first | refine blk_drewN ?_ _ | refine blk_drew ?_ | refine blk_alloc ?_ _)); exact BK103.out⟩, ⟨by (with_reducible repeat (first | refine blk_drewN ?_ _ | refine blk_drew ?_ | refine blk_alloc ?_ _)); refine blk_far ?_ NB104_105.out _; (with_reducible repeat (first | refine blk_drewN ?_ _ | refine blk_drew ?_ | refine blk_alloc ?_ _)); refine blk_far ?_ NB104_105.out _; (with_reducible repeat (first | refine blk_drewN ?_ _ | refine blk_drew ?_ | refine blk_alloc ?_ _)); exact BK104.out⟩, ⟨by (with_reducible repeat (first | refine blk_drewN ?_ _ | refine blk_drew ?_ | refine blk_alloc ?_ _)); refine blk_put (cs := #[.int .u64 0, .int .u64 0]) ?_ 1 _ rfl; (with_reducible repeat (first | refine blk_drewN ?_ _ | refine blk_drew ?_ | refine blk_alloc ?_ _)); refine blk_put (cs := #[.int .u64 0, .int .u64 0]) ?_ 0 _ rfl; (with_reducible repeat (first | refine blk_drewN ?_ _ | refine blk_drew ?_ | refine blk_alloc ?_ _)); exact BK105.out⟩, ⟨by repeat (first | (with_reducible first | exact HB.out | apply below_alloc | apply pw_below_drewN | apply below_drew1 | refine below_set ?_ GE101.out | refine below_set ?_ GE102.out | refine below_set ?_ GE103.out | refine below_set ?_ GE104.out | refine below_set ?_ GE105.out) | exact HB.out)⟩⟩
    case round =>
      clear H'
      try clear c1
      try clear p2
      try clear c3
      try clear c3b0
      try clear c3b1
      try clear c5
      try clear c6
      try clear c13
      try clear c14
      try clear c15
      try clear c16
      try clear hcz17_0
      try clear hcz17_1
      try clear hcz7_0
      try clear hcz7_1
      try clear hfz17_0
      try clear hfz17_1
      try clear hfz7_0
      try clear hfz7_1
      obtain ⟨x10_1, x104000_1, x104001_1, x105000_1, x105001_1, rfl, HA, HK1, BK101, BK102, BK103, BK104, BK105, HB⟩ := hrel
      cases gk with
      | zero => exact absurd HA.out (by simp [pacemakerref01_Div.l0])
      | succ k1 =>
        have H := HA.out
        clear HA
        simp only [pacemakerref01_Div.l0] at H
        by_cases c18 : x10_1 ≥ 0
        · rw [if_pos c18] at H
          have c18b0 : decide (0 ≤ x10_1) = true := decide_eq_true c18
          clear c18
          replace H := Option.bind_eq_some_iff.mp H
          obtain ⟨⟨t106, t107⟩, A190, H⟩ := H
          replace H : ((pacemakerref01_bit.f a0_0 a0_1 x10_1).bind fun t108 => (if t108 = 1 then ((pacemakerref01_set.f t106 t107 0).bind fun bt109 => (pacemakerref01_Div.j1 k1 x10_1 a0_0 a0_1 x104000_1 x104001_1 bt109.1 bt109.2 0 a1)) else (pacemakerref01_Div.j1 k1 x10_1 a0_0 a0_1 x104000_1 x104001_1 t106 t107 0 a1))) = some (r1, r2, r3, r4) := H
          have A19 := Aside0.mk A190
          clear A190
          replace H := Option.bind_eq_some_iff.mp H
          obtain ⟨t108, A200, H⟩ := H
          replace H : (if t108 = 1 then ((pacemakerref01_set.f t106 t107 0).bind fun bt109 => (pacemakerref01_Div.j1 k1 x10_1 a0_0 a0_1 x104000_1 x104001_1 bt109.1 bt109.2 0 a1)) else (pacemakerref01_Div.j1 k1 x10_1 a0_0 a0_1 x104000_1 x104001_1 t106 t107 0 a1)) = some (r1, r2, r3, r4) := H
          have A20 := Aside0.mk A200
          clear A200
          have HC21 := Aside0.mk H
          clear H
          have hnb22 := NB104_101.out
          have hnc22 := NB101_104.out
          have hnb23 := NB104_102.out
          have hnc23 := NB102_104.out
          have hnb24 := NB104_103.out
          have hnc24 := NB103_104.out
          have hnb25 := NB104_105.out
          have hnc25 := NB105_104.out
          have hcz26_0 : wr.cell? ⟨gb104, 0, none⟩ = some (.int .u64 x105000_1) := (blk_cell BK104.out 0).trans rfl
          have hcz26_1 : wr.cell? ⟨gb104, 1, none⟩ = some (.int .u64 x105001_1) := (blk_cell BK104.out 1).trans rfl
          have hfz26_0 := blk_frozen BK104.out 0
          have hfz26_1 := blk_frozen BK104.out 1
          go_upto_if 27 with (first | ((with_reducible refine gate_callee (f := 71) rfl ?_); refine goesL_ (some 23) rfl rfl Try.func71 (by kernel_rfl) rfl #[.agg #[.int .u64 x105000_1, .int .u64 x105001_1], .int .i64 1] rfl (by (try simp only [List.map_toArray, List.map_cons, List.map_nil]); first | done | rfl | (simp only [List.length_drop, List.length_take]; rfl)) ?_; (with_reducible refine (pacemakerref01_Left.calls k1 x105000_1 x105001_1 1 t106 t107 _ A19.out).mono ?_); rintro e w27 ⟨rfl, hb⟩; refine ⟨_, rfl, ?_⟩; have n0_ := Aside0.mk (blk_below (g := gb101) (o := .cells #[.int .u64 a0_0, .int .u64 a0_1] 46 (0, 0)) (by (with_reducible repeat (first | refine blk_drewN ?_ _ | refine blk_drew ?_ | refine blk_alloc ?_ _)); exact BK101.out) hb); have n1_ := Aside0.mk (blk_below (g := gb102) (o := .cells #[.int .u64 0, .int .u64 0] 46 (0, 0)) (by (with_reducible repeat (first | refine blk_drewN ?_ _ | refine blk_drew ?_ | refine blk_alloc ?_ _)); exact BK102.out) hb); have n2_ := Aside0.mk (blk_below (g := gb103) (o := .cells #[.int .u64 x104000_1, .int .u64 x104001_1] 46 (0, 0)) (by (with_reducible repeat (first | refine blk_drewN ?_ _ | refine blk_drew ?_ | refine blk_alloc ?_ _)); exact BK103.out) hb); have n3_ := Aside0.mk (blk_below (g := gb104) (o := .cells #[.int .u64 x105000_1, .int .u64 x105001_1] 46 (0, 0)) (by (with_reducible repeat (first | refine blk_drewN ?_ _ | refine blk_drew ?_ | refine blk_alloc ?_ _)); exact BK104.out) hb); have n4_ := Aside0.mk (blk_below (g := gb105) (o := .cells #[.int .u64 0, .int .u64 a1] 46 (0, 0)) (by (with_reducible repeat (first | refine blk_drewN ?_ _ | refine blk_drew ?_ | refine blk_alloc ?_ _)); exact BK105.out) hb); have n5_ := Aside0.mk (below_step (by repeat (first | (with_reducible first | exact HB.out | apply below_alloc | apply pw_below_drewN | apply below_drew1 | refine below_set ?_ GE101.out | refine below_set ?_ GE102.out | refine below_set ?_ GE103.out | refine below_set ?_ GE104.out | refine below_set ?_ GE105.out) | exact HB.out)) hb); clear BK101; clear BK102; clear BK103; clear BK104; clear BK105; clear HB; have BK101 := n0_; have BK102 := n1_; have BK103 := n2_; have BK104 := n3_; have BK105 := n4_; have HB := n5_; clear n0_ n1_ n2_ n3_ n4_ n5_; (try clear hb); (try clear hb2); (try clear hk); (try clear hi); have hcz28_0 : w27.cell? ⟨gb104, 0, none⟩ = some (.int .u64 x105000_1) := (blk_cell BK104.out 0).trans rfl; have hcz28_1 : w27.cell? ⟨gb104, 1, none⟩ = some (.int .u64 x105001_1) := (blk_cell BK104.out 1).trans rfl; have hfz28_0 := blk_frozen BK104.out 0; have hfz28_1 := blk_frozen BK104.out 1; have hnb29 := NB101_102.out; have hnc29 := NB102_101.out; have hnb30 := NB101_103.out; have hnc30 := NB103_101.out; have hnb31 := NB101_105.out; have hnc31 := NB105_101.out; have hcz32_0 : w27.cell? ⟨gb101, 0, none⟩ = some (.int .u64 a0_0) := (blk_cell BK101.out 0).trans rfl; have hcz32_1 : w27.cell? ⟨gb101, 1, none⟩ = some (.int .u64 a0_1) := (blk_cell BK101.out 1).trans rfl; have hfz32_0 := blk_frozen BK101.out 0; have hfz32_1 := blk_frozen BK101.out 1) | ((with_reducible refine gate_callee (f := 69) rfl ?_); refine goesL_ (some 26) rfl rfl Try.func69 (by kernel_rfl) rfl #[.agg #[.int .u64 a0_0, .int .u64 a0_1], .int .i64 x10_1] rfl (by (try simp only [List.map_toArray, List.map_cons, List.map_nil]); first | done | rfl | (simp only [List.length_drop, List.length_take]; rfl)) ?_; (with_reducible refine (pacemakerref01_bit.calls a0_0 a0_1 x10_1 t108 _ A20.out).mono ?_); rintro e w33 ⟨rfl, hb⟩; refine ⟨_, rfl, ?_⟩; have n0_ := Aside0.mk (blk_below (g := gb101) (o := .cells #[.int .u64 a0_0, .int .u64 a0_1] 46 (0, 0)) (by (with_reducible repeat (first | refine blk_drewN ?_ _ | refine blk_drew ?_ | refine blk_alloc ?_ _)); refine blk_far ?_ NB101_104.out _; (with_reducible repeat (first | refine blk_drewN ?_ _ | refine blk_drew ?_ | refine blk_alloc ?_ _)); refine blk_far ?_ NB101_104.out _; (with_reducible repeat (first | refine blk_drewN ?_ _ | refine blk_drew ?_ | refine blk_alloc ?_ _)); exact BK101.out) hb); have n1_ := Aside0.mk (blk_below (g := gb102) (o := .cells #[.int .u64 0, .int .u64 0] 46 (0, 0)) (by (with_reducible repeat (first | refine blk_drewN ?_ _ | refine blk_drew ?_ | refine blk_alloc ?_ _)); refine blk_far ?_ NB102_104.out _; (with_reducible repeat (first | refine blk_drewN ?_ _ | refine blk_drew ?_ | refine blk_alloc ?_ _)); refine blk_far ?_ NB102_104.out _; (with_reducible repeat (first | refine blk_drewN ?_ _ | refine blk_drew ?_ | refine blk_alloc ?_ _)); exact BK102.out) hb); have n2_ := Aside0.mk (blk_below (g := gb103) (o := .cells #[.int .u64 x104000_1, .int .u64 x104001_1] 46 (0, 0)) (by (with_reducible repeat (first | refine blk_drewN ?_ _ | refine blk_drew ?_ | refine blk_alloc ?_ _)); refine blk_far ?_ NB103_104.out _; (with_reducible repeat (first | refine blk_drewN ?_ _ | refine blk_drew ?_ | refine blk_alloc ?_ _)); refine blk_far ?_ NB103_104.out _; (with_reducible repeat (first | refine blk_drewN ?_ _ | refine blk_drew ?_ | refine blk_alloc ?_ _)); exact BK103.out) hb); have n3_ := Aside0.mk (blk_below (g := gb104) (o := .cells #[.int .u64 t106, .int .u64 t107] 46 (0, 0)) (by (with_reducible repeat (first | refine blk_drewN ?_ _ | refine blk_drew ?_ | refine blk_alloc ?_ _)); refine blk_put (cs := #[.int .u64 t106, .int .u64 x105001_1]) ?_ 1 _ rfl; (with_reducible repeat (first | refine blk_drewN ?_ _ | refine blk_drew ?_ | refine blk_alloc ?_ _)); refine blk_put (cs := #[.int .u64 x105000_1, .int .u64 x105001_1]) ?_ 0 _ rfl; (with_reducible repeat (first | refine blk_drewN ?_ _ | refine blk_drew ?_ | refine blk_alloc ?_ _)); exact BK104.out) hb); have n4_ := Aside0.mk (blk_below (g := gb105) (o := .cells #[.int .u64 0, .int .u64 a1] 46 (0, 0)) (by (with_reducible repeat (first | refine blk_drewN ?_ _ | refine blk_drew ?_ | refine blk_alloc ?_ _)); refine blk_far ?_ NB105_104.out _; (with_reducible repeat (first | refine blk_drewN ?_ _ | refine blk_drew ?_ | refine blk_alloc ?_ _)); refine blk_far ?_ NB105_104.out _; (with_reducible repeat (first | refine blk_drewN ?_ _ | refine blk_drew ?_ | refine blk_alloc ?_ _)); exact BK105.out) hb); have n5_ := Aside0.mk (below_step (by repeat (first | (with_reducible first | exact HB.out | apply below_alloc | apply pw_below_drewN | apply below_drew1 | refine below_set ?_ GE101.out | refine below_set ?_ GE102.out | refine below_set ?_ GE103.out | refine below_set ?_ GE104.out | refine below_set ?_ GE105.out) | exact HB.out)) hb); clear BK101; clear BK102; clear BK103; clear BK104; clear BK105; clear HB; have BK101 := n0_; have BK102 := n1_; have BK103 := n2_; have BK104 := n3_; have BK105 := n4_; have HB := n5_; clear n0_ n1_ n2_ n3_ n4_ n5_; (try clear hb); (try clear hb2); (try clear hk); (try clear hi)))
          (try simp only [Act.put, List.setIfInBounds_toArray, List.set_cons_zero, List.set_cons_succ])
          go_cut [] (fun wc => ∃ (kq : Nat) (x105000_20 : Int) (x105001_20 : Int), Aside0 (pacemakerref01_Div.j1 kq x10_1 a0_0 a0_1 x104000_1 x104001_1 x105000_20 x105001_20 0 a1 = some (r1, r2, r3, r4)) ∧ Aside0 (kq ≤ k1) ∧ Aside0 (wc.heap[gb101]? = some (.cells #[.int .u64 a0_0, .int .u64 a0_1] 46 (0, 0))) ∧ Aside0 (wc.heap[gb102]? = some (.cells #[.int .u64 0, .int .u64 0] 46 (0, 0))) ∧ Aside0 (wc.heap[gb103]? = some (.cells #[.int .u64 x104000_1, .int .u64 x104001_1] 46 (0, 0))) ∧ Aside0 (wc.heap[gb104]? = some (.cells #[.int .u64 x105000_20, .int .u64 x105001_20] 46 (0, 0))) ∧ Aside0 (wc.heap[gb105]? = some (.cells #[.int .u64 0, .int .u64 a1] 46 (0, 0))) ∧ Aside0 (Below w.heap.size w wc))
          case first =>
            have H := HC21.out
            clear HC21
            by_cases c34 : t108 = 1
            · rw [if_pos c34] at H
              have c34b0 : (t108 == 1) = true := beq_iff_eq.mpr c34
              have c34b1 : (t108 != 1) = false := bne_eq_false_iff_eq.mpr c34
              clear c34
              (first | rw [c34b0] | (simp only [i64_w, i32_w]; rw [c34b0]) | skip)
              replace H := Option.bind_eq_some_iff.mp H
              obtain ⟨⟨t109, t110⟩, A350, H⟩ := H
              replace H : (pacemakerref01_Div.j1 k1 x10_1 a0_0 a0_1 x104000_1 x104001_1 t109 t110 0 a1) = some (r1, r2, r3, r4) := H
              have A35 := Aside0.mk A350
              clear A350
              have H' := Aside0.mk H
              clear H
              have hnb36 := NB104_101.out
              have hnc36 := NB101_104.out
              have hnb37 := NB104_102.out
              have hnc37 := NB102_104.out
              have hnb38 := NB104_103.out
              have hnc38 := NB103_104.out
              have hnb39 := NB104_105.out
              have hnc39 := NB105_104.out
              have hcz40_0 : w33.cell? ⟨gb104, 0, none⟩ = some (.int .u64 t106) := (blk_cell BK104.out 0).trans rfl
              have hcz40_1 : w33.cell? ⟨gb104, 1, none⟩ = some (.int .u64 t107) := (blk_cell BK104.out 1).trans rfl
              have hfz40_0 := blk_frozen BK104.out 0
              have hfz40_1 := blk_frozen BK104.out 1
              go_wp2_with (first | ((with_reducible refine gate_callee (f := 70) rfl ?_); refine goesL_ (some 29) rfl rfl Try.func70 (by kernel_rfl) rfl #[.agg #[.int .u64 t106, .int .u64 t107], .int .i64 0] rfl (by (try simp only [List.map_toArray, List.map_cons, List.map_nil]); first | done | rfl | (simp only [List.length_drop, List.length_take]; rfl)) ?_; (with_reducible refine (pacemakerref01_set.calls t106 t107 0 t109 t110 _ A35.out).mono ?_); rintro e w41 ⟨rfl, hb⟩; refine ⟨_, rfl, ?_⟩; have n0_ := Aside0.mk (blk_below (g := gb101) (o := .cells #[.int .u64 a0_0, .int .u64 a0_1] 46 (0, 0)) (by (with_reducible repeat (first | refine blk_drewN ?_ _ | refine blk_drew ?_ | refine blk_alloc ?_ _)); exact BK101.out) hb); have n1_ := Aside0.mk (blk_below (g := gb102) (o := .cells #[.int .u64 0, .int .u64 0] 46 (0, 0)) (by (with_reducible repeat (first | refine blk_drewN ?_ _ | refine blk_drew ?_ | refine blk_alloc ?_ _)); exact BK102.out) hb); have n2_ := Aside0.mk (blk_below (g := gb103) (o := .cells #[.int .u64 x104000_1, .int .u64 x104001_1] 46 (0, 0)) (by (with_reducible repeat (first | refine blk_drewN ?_ _ | refine blk_drew ?_ | refine blk_alloc ?_ _)); exact BK103.out) hb); have n3_ := Aside0.mk (blk_below (g := gb104) (o := .cells #[.int .u64 t106, .int .u64 t107] 46 (0, 0)) (by (with_reducible repeat (first | refine blk_drewN ?_ _ | refine blk_drew ?_ | refine blk_alloc ?_ _)); exact BK104.out) hb); have n4_ := Aside0.mk (blk_below (g := gb105) (o := .cells #[.int .u64 0, .int .u64 a1] 46 (0, 0)) (by (with_reducible repeat (first | refine blk_drewN ?_ _ | refine blk_drew ?_ | refine blk_alloc ?_ _)); exact BK105.out) hb); have n5_ := Aside0.mk (below_step (by repeat (first | (with_reducible first | exact HB.out | apply below_alloc | apply pw_below_drewN | apply below_drew1 | refine below_set ?_ GE101.out | refine below_set ?_ GE102.out | refine below_set ?_ GE103.out | refine below_set ?_ GE104.out | refine below_set ?_ GE105.out) | exact HB.out)) hb); clear BK101; clear BK102; clear BK103; clear BK104; clear BK105; clear HB; have BK101 := n0_; have BK102 := n1_; have BK103 := n2_; have BK104 := n3_; have BK105 := n4_; have HB := n5_; clear n0_ n1_ n2_ n3_ n4_ n5_; (try clear hb); (try clear hb2); (try clear hk); (try clear hi); have hcz42_0 : w41.cell? ⟨gb104, 0, none⟩ = some (.int .u64 t106) := (blk_cell BK104.out 0).trans rfl; have hcz42_1 : w41.cell? ⟨gb104, 1, none⟩ = some (.int .u64 t107) := (blk_cell BK104.out 1).trans rfl; have hfz42_0 := blk_frozen BK104.out 0; have hfz42_1 := blk_frozen BK104.out 1))
              go_meet
              case rel => exact ⟨_, (t109), (t110), H', ⟨by have := HK1.out; first | omega | exact Nat.le_refl _⟩, ⟨by (with_reducible repeat (first | refine blk_drewN ?_ _ | refine blk_drew ?_ | refine blk_alloc ?_ _)); refine blk_far ?_ NB101_104.out _; (with_reducible repeat (first | refine blk_drewN ?_ _ | refine blk_drew ?_ | refine blk_alloc ?_ _)); refine blk_far ?_ NB101_104.out _; (with_reducible repeat (first | refine blk_drewN ?_ _ | refine blk_drew ?_ | refine blk_alloc ?_ _)); exact BK101.out⟩, ⟨by (with_reducible repeat (first | refine blk_drewN ?_ _ | refine blk_drew ?_ | refine blk_alloc ?_ _)); refine blk_far ?_ NB102_104.out _; (with_reducible repeat (first | refine blk_drewN ?_ _ | refine blk_drew ?_ | refine blk_alloc ?_ _)); refine blk_far ?_ NB102_104.out _; (with_reducible repeat (first | refine blk_drewN ?_ _ | refine blk_drew ?_ | refine blk_alloc ?_ _)); exact BK102.out⟩, ⟨by (with_reducible repeat (first | refine blk_drewN ?_ _ | refine blk_drew ?_ | refine blk_alloc ?_ _)); refine blk_far ?_ NB103_104.out _; (with_reducible repeat (first | refine blk_drewN ?_ _ | refine blk_drew ?_ | refine blk_alloc ?_ _)); refine blk_far ?_ NB103_104.out _; (with_reducible repeat (first | refine blk_drewN ?_ _ | refine blk_drew ?_ | refine blk_alloc ?_ _)); exact BK103.out⟩, ⟨by (with_reducible repeat (first | refine blk_drewN ?_ _ | refine blk_drew ?_ | refine blk_alloc ?_ _)); refine blk_put (cs := #[.int .u64 t109, .int .u64 t107]) ?_ 1 _ rfl; (with_reducible repeat (first | refine blk_drewN ?_ _ | refine blk_drew ?_ | refine blk_alloc ?_ _)); refine blk_put (cs := #[.int .u64 t106, .int .u64 t107]) ?_ 0 _ rfl; (with_reducible repeat (first | refine blk_drewN ?_ _ | refine blk_drew ?_ | refine blk_alloc ?_ _)); exact BK104.out⟩, ⟨by (with_reducible repeat (first | refine blk_drewN ?_ _ | refine blk_drew ?_ | refine blk_alloc ?_ _)); refine blk_far ?_ NB105_104.out _; (with_reducible repeat (first | refine blk_drewN ?_ _ | refine blk_drew ?_ | refine blk_alloc ?_ _)); refine blk_far ?_ NB105_104.out _; (with_reducible repeat (first | refine blk_drewN ?_ _ | refine blk_drew ?_ | refine blk_alloc ?_ _)); exact BK105.out⟩, ⟨by repeat (first | (with_reducible first | exact HB.out | apply below_alloc | apply pw_below_drewN | apply below_drew1 | refine below_set ?_ GE101.out | refine below_set ?_ GE102.out | refine below_set ?_ GE103.out | refine below_set ?_ GE104.out | refine below_set ?_ GE105.out) | exact HB.out)⟩⟩
            · rw [if_neg c34] at H
              have c34b0 : (t108 == 1) = false := beq_eq_false_iff_ne.mpr c34
              have c34b1 : (t108 != 1) = true := bne_iff_ne.mpr c34
              (first | rw [c34b0] | (simp only [i64_w, i32_w]; rw [c34b0]) | skip)
              have H' := Aside0.mk H
              clear H
              go_wp2
              go_meet
              case rel => exact ⟨_, (t106), (t107), H', ⟨by have := HK1.out; first | omega | exact Nat.le_refl _⟩, ⟨by (with_reducible repeat (first | refine blk_drewN ?_ _ | refine blk_drew ?_ | refine blk_alloc ?_ _)); exact BK101.out⟩, ⟨by (with_reducible repeat (first | refine blk_drewN ?_ _ | refine blk_drew ?_ | refine blk_alloc ?_ _)); exact BK102.out⟩, ⟨by (with_reducible repeat (first | refine blk_drewN ?_ _ | refine blk_drew ?_ | refine blk_alloc ?_ _)); exact BK103.out⟩, ⟨by (with_reducible repeat (first | refine blk_drewN ?_ _ | refine blk_drew ?_ | refine blk_alloc ?_ _)); exact BK104.out⟩, ⟨by (with_reducible repeat (first | refine blk_drewN ?_ _ | refine blk_drew ?_ | refine blk_alloc ?_ _)); exact BK105.out⟩, ⟨by repeat (first | (with_reducible first | exact HB.out | apply below_alloc | apply pw_below_drewN | apply below_drew1 | refine below_set ?_ GE101.out | refine below_set ?_ GE102.out | refine below_set ?_ GE103.out | refine below_set ?_ GE104.out | refine below_set ?_ GE105.out) | exact HB.out)⟩⟩
          case rest =>
            clear HC21
            try clear c1
            try clear c2
            try clear p2
            try clear c3
            try clear c3b0
            try clear c3b1
            try clear c5
            try clear c6
            try clear c7
            try clear c13
            try clear c14
            try clear c15
            try clear c16
            try clear c18
            try clear c18b0
            try clear c22
            try clear c23
            try clear c24
            try clear c25
            try clear c29
            try clear c30
            try clear c31
            try clear c34
            try clear c34b0
            try clear c34b1
            try clear c36
            try clear c37
            try clear c38
            try clear c39
            try clear hcz17_0
            try clear hcz17_1
            try clear hcz26_0
            try clear hcz26_1
            try clear hcz28_0
            try clear hcz28_1
            try clear hcz32_0
            try clear hcz32_1
            try clear hcz40_0
            try clear hcz40_1
            try clear hcz42_0
            try clear hcz42_1
            try clear hcz7_0
            try clear hcz7_1
            try clear hfz17_0
            try clear hfz17_1
            try clear hfz26_0
            try clear hfz26_1
            try clear hfz28_0
            try clear hfz28_1
            try clear hfz32_0
            try clear hfz32_1
            try clear hfz40_0
            try clear hfz40_1
            try clear hfz42_0
            try clear hfz42_1
            try clear hfz7_0
            try clear hfz7_1
            try clear p2
            obtain ⟨kq, x105000_20, x105001_20, HA, HJ20, BK101, BK102, BK103, BK104, BK105, HB⟩ := hcut
            cases kq with
            | zero => exact absurd HA.out (by simp [pacemakerref01_Div.j1])
            | succ kj20 =>
              have H := HA.out
              clear HA
              simp only [pacemakerref01_Div.j1] at H
              replace H := Option.bind_eq_some_iff.mp H
              obtain ⟨t111, A430, H⟩ := H
              replace H : (if t111 ≥ 0 then ((pacemakerref01_Sub.f kj20 x105000_20 x105001_20 0 a1).bind fun bt112 => ((pacemakerref01_set.f x104000_1 x104001_1 x10_1).bind fun bt116 => (pacemakerref01_Div.l0 kj20 (wrap64 (x10_1 - 1)) a0_0 a0_1 bt116.1 bt116.2 bt112.1 bt112.2.1 0 a1))) else (pacemakerref01_Div.l0 kj20 (wrap64 (x10_1 - 1)) a0_0 a0_1 x104000_1 x104001_1 x105000_20 x105001_20 0 a1)) = some (r1, r2, r3, r4) := H
              have A43 := Aside0.mk A430
              clear A430
              by_cases c44 : t111 ≥ 0
              · rw [if_pos c44] at H
                have c44b0 : decide (0 ≤ t111) = true := decide_eq_true c44
                clear c44
                replace H := Option.bind_eq_some_iff.mp H
                obtain ⟨⟨t112, t113, t114⟩, A450, H⟩ := H
                replace H : ((pacemakerref01_set.f x104000_1 x104001_1 x10_1).bind fun bt116 => (pacemakerref01_Div.l0 kj20 (wrap64 (x10_1 - 1)) a0_0 a0_1 bt116.1 bt116.2 t112 t113 0 a1)) = some (r1, r2, r3, r4) := H
                have A45 := Aside0.mk A450
                clear A450
                replace H := Option.bind_eq_some_iff.mp H
                obtain ⟨⟨t116, t117⟩, A460, H⟩ := H
                replace H : (pacemakerref01_Div.l0 kj20 (wrap64 (x10_1 - 1)) a0_0 a0_1 t116 t117 t112 t113 0 a1) = some (r1, r2, r3, r4) := H
                have A46 := Aside0.mk A460
                clear A460
                have H' := Aside0.mk H
                clear H
                have hnb47 := NB104_101.out
                have hnc47 := NB101_104.out
                have hnb48 := NB104_102.out
                have hnc48 := NB102_104.out
                have hnb49 := NB104_103.out
                have hnc49 := NB103_104.out
                have hnb50 := NB104_105.out
                have hnc50 := NB105_104.out
                have hcz51_0 : wc.cell? ⟨gb104, 0, none⟩ = some (.int .u64 x105000_20) := (blk_cell BK104.out 0).trans rfl
                have hcz51_1 : wc.cell? ⟨gb104, 1, none⟩ = some (.int .u64 x105001_20) := (blk_cell BK104.out 1).trans rfl
                have hfz51_0 := blk_frozen BK104.out 0
                have hfz51_1 := blk_frozen BK104.out 1
                have hnb52 := NB105_101.out
                have hnc52 := NB101_105.out
                have hnb53 := NB105_102.out
                have hnc53 := NB102_105.out
                have hnb54 := NB105_103.out
                have hnc54 := NB103_105.out
                have hcz55_0 : wc.cell? ⟨gb105, 0, none⟩ = some (.int .u64 0) := (blk_cell BK105.out 0).trans rfl
                have hcz55_1 : wc.cell? ⟨gb105, 1, none⟩ = some (.int .u64 a1) := (blk_cell BK105.out 1).trans rfl
                have hfz55_0 := blk_frozen BK105.out 0
                have hfz55_1 := blk_frozen BK105.out 1
                go_wp2_with (first | ((with_reducible refine gate_callee (f := 57) rfl ?_); refine goesL_ (some 32) rfl rfl Try.func57 (by kernel_rfl) rfl #[.agg #[.int .u64 x105000_20, .int .u64 x105001_20], .agg #[.int .u64 0, .int .u64 a1]] rfl (by (try simp only [List.map_toArray, List.map_cons, List.map_nil]); first | done | rfl | (simp only [List.length_drop, List.length_take]; rfl)) ?_; (with_reducible refine (pacemakerref01_Cmp.calls kj20 x105000_20 x105001_20 0 a1 t111 _ A43.out).mono ?_); rintro e w56 ⟨rfl, hb⟩; refine ⟨_, rfl, ?_⟩; have n0_ := Aside0.mk (blk_below (g := gb101) (o := .cells #[.int .u64 a0_0, .int .u64 a0_1] 46 (0, 0)) (by (with_reducible repeat (first | refine blk_drewN ?_ _ | refine blk_drew ?_ | refine blk_alloc ?_ _)); exact BK101.out) hb); have n1_ := Aside0.mk (blk_below (g := gb102) (o := .cells #[.int .u64 0, .int .u64 0] 46 (0, 0)) (by (with_reducible repeat (first | refine blk_drewN ?_ _ | refine blk_drew ?_ | refine blk_alloc ?_ _)); exact BK102.out) hb); have n2_ := Aside0.mk (blk_below (g := gb103) (o := .cells #[.int .u64 x104000_1, .int .u64 x104001_1] 46 (0, 0)) (by (with_reducible repeat (first | refine blk_drewN ?_ _ | refine blk_drew ?_ | refine blk_alloc ?_ _)); exact BK103.out) hb); have n3_ := Aside0.mk (blk_below (g := gb104) (o := .cells #[.int .u64 x105000_20, .int .u64 x105001_20] 46 (0, 0)) (by (with_reducible repeat (first | refine blk_drewN ?_ _ | refine blk_drew ?_ | refine blk_alloc ?_ _)); exact BK104.out) hb); have n4_ := Aside0.mk (blk_below (g := gb105) (o := .cells #[.int .u64 0, .int .u64 a1] 46 (0, 0)) (by (with_reducible repeat (first | refine blk_drewN ?_ _ | refine blk_drew ?_ | refine blk_alloc ?_ _)); exact BK105.out) hb); have n5_ := Aside0.mk (below_step (by repeat (first | (with_reducible first | exact HB.out | apply below_alloc | apply pw_below_drewN | apply below_drew1 | refine below_set ?_ GE101.out | refine below_set ?_ GE102.out | refine below_set ?_ GE103.out | refine below_set ?_ GE104.out | refine below_set ?_ GE105.out) | exact HB.out)) hb); clear BK101; clear BK102; clear BK103; clear BK104; clear BK105; clear HB; have BK101 := n0_; have BK102 := n1_; have BK103 := n2_; have BK104 := n3_; have BK105 := n4_; have HB := n5_; clear n0_ n1_ n2_ n3_ n4_ n5_; (try clear hb); (try clear hb2); (try clear hk); (try clear hi); have hcz57_0 : w56.cell? ⟨gb104, 0, none⟩ = some (.int .u64 x105000_20) := (blk_cell BK104.out 0).trans rfl; have hcz57_1 : w56.cell? ⟨gb104, 1, none⟩ = some (.int .u64 x105001_20) := (blk_cell BK104.out 1).trans rfl; have hfz57_0 := blk_frozen BK104.out 0; have hfz57_1 := blk_frozen BK104.out 1; have hcz58_0 : w56.cell? ⟨gb105, 0, none⟩ = some (.int .u64 0) := (blk_cell BK105.out 0).trans rfl; have hcz58_1 : w56.cell? ⟨gb105, 1, none⟩ = some (.int .u64 a1) := (blk_cell BK105.out 1).trans rfl; have hfz58_0 := blk_frozen BK105.out 0; have hfz58_1 := blk_frozen BK105.out 1) | ((with_reducible refine gate_callee (f := 58) rfl ?_); refine goesL_ (some 37) rfl rfl Try.func58 (by kernel_rfl) rfl #[.agg #[.int .u64 x105000_20, .int .u64 x105001_20], .agg #[.int .u64 0, .int .u64 a1]] rfl (by (try simp only [List.map_toArray, List.map_cons, List.map_nil]); first | done | rfl | (simp only [List.length_drop, List.length_take]; rfl)) ?_; (with_reducible refine (pacemakerref01_Sub.calls kj20 x105000_20 x105001_20 0 a1 t112 t113 t114 _ A45.out).mono ?_); rintro e w59 ⟨rfl, hb⟩; refine ⟨_, rfl, ?_⟩; have n0_ := Aside0.mk (blk_below (g := gb101) (o := .cells #[.int .u64 a0_0, .int .u64 a0_1] 46 (0, 0)) (by (with_reducible repeat (first | refine blk_drewN ?_ _ | refine blk_drew ?_ | refine blk_alloc ?_ _)); exact BK101.out) hb); have n1_ := Aside0.mk (blk_below (g := gb102) (o := .cells #[.int .u64 0, .int .u64 0] 46 (0, 0)) (by (with_reducible repeat (first | refine blk_drewN ?_ _ | refine blk_drew ?_ | refine blk_alloc ?_ _)); exact BK102.out) hb); have n2_ := Aside0.mk (blk_below (g := gb103) (o := .cells #[.int .u64 x104000_1, .int .u64 x104001_1] 46 (0, 0)) (by (with_reducible repeat (first | refine blk_drewN ?_ _ | refine blk_drew ?_ | refine blk_alloc ?_ _)); exact BK103.out) hb); have n3_ := Aside0.mk (blk_below (g := gb104) (o := .cells #[.int .u64 x105000_20, .int .u64 x105001_20] 46 (0, 0)) (by (with_reducible repeat (first | refine blk_drewN ?_ _ | refine blk_drew ?_ | refine blk_alloc ?_ _)); exact BK104.out) hb); have n4_ := Aside0.mk (blk_below (g := gb105) (o := .cells #[.int .u64 0, .int .u64 a1] 46 (0, 0)) (by (with_reducible repeat (first | refine blk_drewN ?_ _ | refine blk_drew ?_ | refine blk_alloc ?_ _)); exact BK105.out) hb); have n5_ := Aside0.mk (below_step (by repeat (first | (with_reducible first | exact HB.out | apply below_alloc | apply pw_below_drewN | apply below_drew1 | refine below_set ?_ GE101.out | refine below_set ?_ GE102.out | refine below_set ?_ GE103.out | refine below_set ?_ GE104.out | refine below_set ?_ GE105.out) | exact HB.out)) hb); clear BK101; clear BK102; clear BK103; clear BK104; clear BK105; clear HB; have BK101 := n0_; have BK102 := n1_; have BK103 := n2_; have BK104 := n3_; have BK105 := n4_; have HB := n5_; clear n0_ n1_ n2_ n3_ n4_ n5_; (try clear hb); (try clear hb2); (try clear hk); (try clear hi)) | ((with_reducible refine gate_dst (N := 11) rfl ?_); refine box_event ?hg (N := 11) ?hd (cs := #[.int .u64 0, .int .u64 0]) (t := 46) ?hr ?_; (case hd => rfl); (case hg => rfl); (case hr => first | (go_simp; done) | (go_simp; rfl)); intro gb115 hg w60 hbox hb; have n0_ := Aside0.mk (blk_below (g := gb101) (o := .cells #[.int .u64 a0_0, .int .u64 a0_1] 46 (0, 0)) (by (with_reducible repeat (first | refine blk_drewN ?_ _ | refine blk_drew ?_ | refine blk_alloc ?_ _)); exact BK101.out) hb); have n1_ := Aside0.mk (blk_below (g := gb102) (o := .cells #[.int .u64 0, .int .u64 0] 46 (0, 0)) (by (with_reducible repeat (first | refine blk_drewN ?_ _ | refine blk_drew ?_ | refine blk_alloc ?_ _)); exact BK102.out) hb); have n2_ := Aside0.mk (blk_below (g := gb103) (o := .cells #[.int .u64 x104000_1, .int .u64 x104001_1] 46 (0, 0)) (by (with_reducible repeat (first | refine blk_drewN ?_ _ | refine blk_drew ?_ | refine blk_alloc ?_ _)); exact BK103.out) hb); have n3_ := Aside0.mk (blk_below (g := gb104) (o := .cells #[.int .u64 x105000_20, .int .u64 x105001_20] 46 (0, 0)) (by (with_reducible repeat (first | refine blk_drewN ?_ _ | refine blk_drew ?_ | refine blk_alloc ?_ _)); exact BK104.out) hb); have n4_ := Aside0.mk (blk_below (g := gb105) (o := .cells #[.int .u64 0, .int .u64 a1] 46 (0, 0)) (by (with_reducible repeat (first | refine blk_drewN ?_ _ | refine blk_drew ?_ | refine blk_alloc ?_ _)); exact BK105.out) hb); have n5_ := Aside0.mk (below_step (by repeat (first | (with_reducible first | exact HB.out | apply below_alloc | apply pw_below_drewN | apply below_drew1 | refine below_set ?_ GE101.out | refine below_set ?_ GE102.out | refine below_set ?_ GE103.out | refine below_set ?_ GE104.out | refine below_set ?_ GE105.out) | exact HB.out)) hb); have n6_ := Aside0.mk (hbox); have n7_ := Aside0.mk ((by rw [hg]; exact (below_size (by repeat (first | (with_reducible first | exact HB.out | apply below_alloc | apply pw_below_drewN | apply below_drew1 | refine below_set ?_ GE101.out | refine below_set ?_ GE102.out | refine below_set ?_ GE103.out | refine below_set ?_ GE104.out | refine below_set ?_ GE105.out) | exact HB.out))) : w.heap.size ≤ gb115)); have n8_ := Aside0.mk ((by rw [hg]; exact (below_size (by repeat (first | (with_reducible first | exact HB.out | apply below_alloc | apply pw_below_drewN | apply below_drew1 | refine below_set ?_ GE101.out | refine below_set ?_ GE102.out | refine below_set ?_ GE103.out | refine below_set ?_ GE104.out | refine below_set ?_ GE105.out) | exact HB.out))) : w.heap.size ≤ gb115)); have n9_ := Aside0.mk ((by rw [hg]; exact Nat.ne_of_lt (blk_lt (g := gb101) (o := .cells #[.int .u64 a0_0, .int .u64 a0_1] 46 (0, 0)) (by (with_reducible repeat (first | refine blk_drewN ?_ _ | refine blk_drew ?_ | refine blk_alloc ?_ _)); exact BK101.out)) : gb101 ≠ gb115)); have n10_ := Aside0.mk ((by rw [hg]; exact Nat.ne_of_gt (blk_lt (g := gb101) (o := .cells #[.int .u64 a0_0, .int .u64 a0_1] 46 (0, 0)) (by (with_reducible repeat (first | refine blk_drewN ?_ _ | refine blk_drew ?_ | refine blk_alloc ?_ _)); exact BK101.out)) : gb115 ≠ gb101)); have n11_ := Aside0.mk ((by rw [hg]; exact Nat.ne_of_lt (blk_lt (g := gb102) (o := .cells #[.int .u64 0, .int .u64 0] 46 (0, 0)) (by (with_reducible repeat (first | refine blk_drewN ?_ _ | refine blk_drew ?_ | refine blk_alloc ?_ _)); exact BK102.out)) : gb102 ≠ gb115)); have n12_ := Aside0.mk ((by rw [hg]; exact Nat.ne_of_gt (blk_lt (g := gb102) (o := .cells #[.int .u64 0, .int .u64 0] 46 (0, 0)) (by (with_reducible repeat (first | refine blk_drewN ?_ _ | refine blk_drew ?_ | refine blk_alloc ?_ _)); exact BK102.out)) : gb115 ≠ gb102)); have n13_ := Aside0.mk ((by rw [hg]; exact Nat.ne_of_lt (blk_lt (g := gb103) (o := .cells #[.int .u64 x104000_1, .int .u64 x104001_1] 46 (0, 0)) (by (with_reducible repeat (first | refine blk_drewN ?_ _ | refine blk_drew ?_ | refine blk_alloc ?_ _)); exact BK103.out)) : gb103 ≠ gb115)); have n14_ := Aside0.mk ((by rw [hg]; exact Nat.ne_of_gt (blk_lt (g := gb103) (o := .cells #[.int .u64 x104000_1, .int .u64 x104001_1] 46 (0, 0)) (by (with_reducible repeat (first | refine blk_drewN ?_ _ | refine blk_drew ?_ | refine blk_alloc ?_ _)); exact BK103.out)) : gb115 ≠ gb103)); have n15_ := Aside0.mk ((by rw [hg]; exact Nat.ne_of_lt (blk_lt (g := gb104) (o := .cells #[.int .u64 x105000_20, .int .u64 x105001_20] 46 (0, 0)) (by (with_reducible repeat (first | refine blk_drewN ?_ _ | refine blk_drew ?_ | refine blk_alloc ?_ _)); exact BK104.out)) : gb104 ≠ gb115)); have n16_ := Aside0.mk ((by rw [hg]; exact Nat.ne_of_gt (blk_lt (g := gb104) (o := .cells #[.int .u64 x105000_20, .int .u64 x105001_20] 46 (0, 0)) (by (with_reducible repeat (first | refine blk_drewN ?_ _ | refine blk_drew ?_ | refine blk_alloc ?_ _)); exact BK104.out)) : gb115 ≠ gb104)); have n17_ := Aside0.mk ((by rw [hg]; exact Nat.ne_of_lt (blk_lt (g := gb105) (o := .cells #[.int .u64 0, .int .u64 a1] 46 (0, 0)) (by (with_reducible repeat (first | refine blk_drewN ?_ _ | refine blk_drew ?_ | refine blk_alloc ?_ _)); exact BK105.out)) : gb105 ≠ gb115)); have n18_ := Aside0.mk ((by rw [hg]; exact Nat.ne_of_gt (blk_lt (g := gb105) (o := .cells #[.int .u64 0, .int .u64 a1] 46 (0, 0)) (by (with_reducible repeat (first | refine blk_drewN ?_ _ | refine blk_drew ?_ | refine blk_alloc ?_ _)); exact BK105.out)) : gb115 ≠ gb105)); clear BK101; clear BK102; clear BK103; clear BK104; clear BK105; clear HB; have BK101 := n0_; have BK102 := n1_; have BK103 := n2_; have BK104 := n3_; have BK105 := n4_; have HB := n5_; have BK115 := n6_; have GW115 := n7_; have GE115 := n8_; have NB101_115 := n9_; have NB115_101 := n10_; have NB102_115 := n11_; have NB115_102 := n12_; have NB103_115 := n13_; have NB115_103 := n14_; have NB104_115 := n15_; have NB115_104 := n16_; have NB105_115 := n17_; have NB115_105 := n18_; clear n0_ n1_ n2_ n3_ n4_ n5_ n6_ n7_ n8_ n9_ n10_ n11_ n12_ n13_ n14_ n15_ n16_ n17_ n18_; clear hb hbox hg; have hnb61 := NB115_101.out; have hnc61 := NB101_115.out; have hnb62 := NB115_102.out; have hnc62 := NB102_115.out; have hnb63 := NB115_103.out; have hnc63 := NB103_115.out; have hnb64 := NB115_104.out; have hnc64 := NB104_115.out; have hnb65 := NB115_105.out; have hnc65 := NB105_115.out; have hcz66_0 : w60.cell? ⟨gb115, 0, none⟩ = some (.int .u64 0) := (blk_cell BK115.out 0).trans rfl; have hcz66_1 : w60.cell? ⟨gb115, 1, none⟩ = some (.int .u64 0) := (blk_cell BK115.out 1).trans rfl; have hfz66_0 := blk_frozen BK115.out 0; have hfz66_1 := blk_frozen BK115.out 1; have hcz67_0 : w60.cell? ⟨gb104, 0, none⟩ = some (.int .u64 x105000_20) := (blk_cell BK104.out 0).trans rfl; have hcz67_1 : w60.cell? ⟨gb104, 1, none⟩ = some (.int .u64 x105001_20) := (blk_cell BK104.out 1).trans rfl; have hfz67_0 := blk_frozen BK104.out 0; have hfz67_1 := blk_frozen BK104.out 1; have hnb68 := NB103_101.out; have hnc68 := NB101_103.out; have hnb69 := NB103_102.out; have hnc69 := NB102_103.out; have hcz70_0 : w60.cell? ⟨gb103, 0, none⟩ = some (.int .u64 x104000_1) := (blk_cell BK103.out 0).trans rfl; have hcz70_1 : w60.cell? ⟨gb103, 1, none⟩ = some (.int .u64 x104001_1) := (blk_cell BK103.out 1).trans rfl; have hfz70_0 := blk_frozen BK103.out 0; have hfz70_1 := blk_frozen BK103.out 1) | ((with_reducible refine gate_callee (f := 70) rfl ?_); refine goesL_ (some 43) rfl rfl Try.func70 (by kernel_rfl) rfl #[.agg #[.int .u64 x104000_1, .int .u64 x104001_1], .int .i64 x10_1] rfl (by (try simp only [List.map_toArray, List.map_cons, List.map_nil]); first | done | rfl | (simp only [List.length_drop, List.length_take]; rfl)) ?_; (with_reducible refine (pacemakerref01_set.calls x104000_1 x104001_1 x10_1 t116 t117 _ A46.out).mono ?_); rintro e w71 ⟨rfl, hb⟩; refine ⟨_, rfl, ?_⟩; have n0_ := Aside0.mk (blk_below (g := gb101) (o := .cells #[.int .u64 a0_0, .int .u64 a0_1] 46 (0, 0)) (by (with_reducible repeat (first | refine blk_drewN ?_ _ | refine blk_drew ?_ | refine blk_alloc ?_ _)); refine blk_far ?_ NB101_104.out _; (with_reducible repeat (first | refine blk_drewN ?_ _ | refine blk_drew ?_ | refine blk_alloc ?_ _)); refine blk_far ?_ NB101_104.out _; (with_reducible repeat (first | refine blk_drewN ?_ _ | refine blk_drew ?_ | refine blk_alloc ?_ _)); refine blk_far ?_ NB101_115.out _; (with_reducible repeat (first | refine blk_drewN ?_ _ | refine blk_drew ?_ | refine blk_alloc ?_ _)); refine blk_far ?_ NB101_115.out _; (with_reducible repeat (first | refine blk_drewN ?_ _ | refine blk_drew ?_ | refine blk_alloc ?_ _)); exact BK101.out) hb); have n1_ := Aside0.mk (blk_below (g := gb102) (o := .cells #[.int .u64 0, .int .u64 0] 46 (0, 0)) (by (with_reducible repeat (first | refine blk_drewN ?_ _ | refine blk_drew ?_ | refine blk_alloc ?_ _)); refine blk_far ?_ NB102_104.out _; (with_reducible repeat (first | refine blk_drewN ?_ _ | refine blk_drew ?_ | refine blk_alloc ?_ _)); refine blk_far ?_ NB102_104.out _; (with_reducible repeat (first | refine blk_drewN ?_ _ | refine blk_drew ?_ | refine blk_alloc ?_ _)); refine blk_far ?_ NB102_115.out _; (with_reducible repeat (first | refine blk_drewN ?_ _ | refine blk_drew ?_ | refine blk_alloc ?_ _)); refine blk_far ?_ NB102_115.out _; (with_reducible repeat (first | refine blk_drewN ?_ _ | refine blk_drew ?_ | refine blk_alloc ?_ _)); exact BK102.out) hb); have n2_ := Aside0.mk (blk_below (g := gb103) (o := .cells #[.int .u64 x104000_1, .int .u64 x104001_1] 46 (0, 0)) (by (with_reducible repeat (first | refine blk_drewN ?_ _ | refine blk_drew ?_ | refine blk_alloc ?_ _)); refine blk_far ?_ NB103_104.out _; (with_reducible repeat (first | refine blk_drewN ?_ _ | refine blk_drew ?_ | refine blk_alloc ?_ _)); refine blk_far ?_ NB103_104.out _; (with_reducible repeat (first | refine blk_drewN ?_ _ | refine blk_drew ?_ | refine blk_alloc ?_ _)); refine blk_far ?_ NB103_115.out _; (with_reducible repeat (first | refine blk_drewN ?_ _ | refine blk_drew ?_ | refine blk_alloc ?_ _)); refine blk_far ?_ NB103_115.out _; (with_reducible repeat (first | refine blk_drewN ?_ _ | refine blk_drew ?_ | refine blk_alloc ?_ _)); exact BK103.out) hb); have n3_ := Aside0.mk (blk_below (g := gb104) (o := .cells #[.int .u64 t112, .int .u64 t113] 46 (0, 0)) (by (with_reducible repeat (first | refine blk_drewN ?_ _ | refine blk_drew ?_ | refine blk_alloc ?_ _)); refine blk_put (cs := #[.int .u64 t112, .int .u64 x105001_20]) ?_ 1 _ rfl; (with_reducible repeat (first | refine blk_drewN ?_ _ | refine blk_drew ?_ | refine blk_alloc ?_ _)); refine blk_put (cs := #[.int .u64 x105000_20, .int .u64 x105001_20]) ?_ 0 _ rfl; (with_reducible repeat (first | refine blk_drewN ?_ _ | refine blk_drew ?_ | refine blk_alloc ?_ _)); refine blk_far ?_ NB104_115.out _; (with_reducible repeat (first | refine blk_drewN ?_ _ | refine blk_drew ?_ | refine blk_alloc ?_ _)); refine blk_far ?_ NB104_115.out _; (with_reducible repeat (first | refine blk_drewN ?_ _ | refine blk_drew ?_ | refine blk_alloc ?_ _)); exact BK104.out) hb); have n4_ := Aside0.mk (blk_below (g := gb105) (o := .cells #[.int .u64 0, .int .u64 a1] 46 (0, 0)) (by (with_reducible repeat (first | refine blk_drewN ?_ _ | refine blk_drew ?_ | refine blk_alloc ?_ _)); refine blk_far ?_ NB105_104.out _; (with_reducible repeat (first | refine blk_drewN ?_ _ | refine blk_drew ?_ | refine blk_alloc ?_ _)); refine blk_far ?_ NB105_104.out _; (with_reducible repeat (first | refine blk_drewN ?_ _ | refine blk_drew ?_ | refine blk_alloc ?_ _)); refine blk_far ?_ NB105_115.out _; (with_reducible repeat (first | refine blk_drewN ?_ _ | refine blk_drew ?_ | refine blk_alloc ?_ _)); refine blk_far ?_ NB105_115.out _; (with_reducible repeat (first | refine blk_drewN ?_ _ | refine blk_drew ?_ | refine blk_alloc ?_ _)); exact BK105.out) hb); have n5_ := Aside0.mk (blk_below (g := gb115) (o := .cells #[.int .u64 t112, .int .u64 t113] 46 (0, 0)) (by (with_reducible repeat (first | refine blk_drewN ?_ _ | refine blk_drew ?_ | refine blk_alloc ?_ _)); refine blk_far ?_ NB115_104.out _; (with_reducible repeat (first | refine blk_drewN ?_ _ | refine blk_drew ?_ | refine blk_alloc ?_ _)); refine blk_far ?_ NB115_104.out _; (with_reducible repeat (first | refine blk_drewN ?_ _ | refine blk_drew ?_ | refine blk_alloc ?_ _)); refine blk_put (cs := #[.int .u64 t112, .int .u64 0]) ?_ 1 _ rfl; (with_reducible repeat (first | refine blk_drewN ?_ _ | refine blk_drew ?_ | refine blk_alloc ?_ _)); refine blk_put (cs := #[.int .u64 0, .int .u64 0]) ?_ 0 _ rfl; (with_reducible repeat (first | refine blk_drewN ?_ _ | refine blk_drew ?_ | refine blk_alloc ?_ _)); exact BK115.out) hb); have n6_ := Aside0.mk (below_step (by repeat (first | (with_reducible first | exact HB.out | apply below_alloc | apply pw_below_drewN | apply below_drew1 | refine below_set ?_ GE101.out | refine below_set ?_ GE102.out | refine below_set ?_ GE103.out | refine below_set ?_ GE104.out | refine below_set ?_ GE105.out | refine below_set ?_ GE115.out) | exact HB.out)) hb); clear BK101; clear BK102; clear BK103; clear BK104; clear BK105; clear BK115; clear HB; have BK101 := n0_; have BK102 := n1_; have BK103 := n2_; have BK104 := n3_; have BK105 := n4_; have BK115 := n5_; have HB := n6_; clear n0_ n1_ n2_ n3_ n4_ n5_ n6_; (try clear hb); (try clear hb2); (try clear hk); (try clear hi); have hcz72_0 : w71.cell? ⟨gb103, 0, none⟩ = some (.int .u64 x104000_1) := (blk_cell BK103.out 0).trans rfl; have hcz72_1 : w71.cell? ⟨gb103, 1, none⟩ = some (.int .u64 x104001_1) := (blk_cell BK103.out 1).trans rfl; have hfz72_0 := blk_frozen BK103.out 0; have hfz72_1 := blk_frozen BK103.out 1))
                go_roundg kj20
                case measure => have := HK1.out; have := HJ20.out; omega
                case rel => exact ⟨(wrap64 (x10_1 - 1)), (t116), (t117), (t112), (t113), (by first | rfl | (simp; done) | (simp [*]; done)), H', ⟨by have := HK1.out; have := HJ20.out; omega⟩, ⟨by (with_reducible repeat (first | refine blk_drewN ?_ _ | refine blk_drew ?_ | refine blk_alloc ?_ _)); refine blk_far ?_ NB101_103.out _; (with_reducible repeat (first | refine blk_drewN ?_ _ | refine blk_drew ?_ | refine blk_alloc ?_ _)); refine blk_far ?_ NB101_103.out _; (with_reducible repeat (first | refine blk_drewN ?_ _ | refine blk_drew ?_ | refine blk_alloc ?_ _)); exact BK101.out⟩, ⟨by (with_reducible repeat (first | refine blk_drewN ?_ _ | refine blk_drew ?_ | refine blk_alloc ?_ _)); refine blk_far ?_ NB102_103.out _; (with_reducible repeat (first | refine blk_drewN ?_ _ | refine blk_drew ?_ | refine blk_alloc ?_ _)); refine blk_far ?_ NB102_103.out _; (with_reducible repeat (first | refine blk_drewN ?_ _ | refine blk_drew ?_ | refine blk_alloc ?_ _)); exact BK102.out⟩, ⟨by (with_reducible repeat (first | refine blk_drewN ?_ _ | refine blk_drew ?_ | refine blk_alloc ?_ _)); refine blk_put (cs := #[.int .u64 t116, .int .u64 x104001_1]) ?_ 1 _ rfl; (with_reducible repeat (first | refine blk_drewN ?_ _ | refine blk_drew ?_ | refine blk_alloc ?_ _)); refine blk_put (cs := #[.int .u64 x104000_1, .int .u64 x104001_1]) ?_ 0 _ rfl; (with_reducible repeat (first | refine blk_drewN ?_ _ | refine blk_drew ?_ | refine blk_alloc ?_ _)); exact BK103.out⟩, ⟨by (with_reducible repeat (first | refine blk_drewN ?_ _ | refine blk_drew ?_ | refine blk_alloc ?_ _)); refine blk_far ?_ NB104_103.out _; (with_reducible repeat (first | refine blk_drewN ?_ _ | refine blk_drew ?_ | refine blk_alloc ?_ _)); refine blk_far ?_ NB104_103.out _; (with_reducible repeat (first | refine blk_drewN ?_ _ | refine blk_drew ?_ | refine blk_alloc ?_ _)); exact BK104.out⟩, ⟨by (with_reducible repeat (first | refine blk_drewN ?_ _ | refine blk_drew ?_ | refine blk_alloc ?_ _)); refine blk_far ?_ NB105_103.out _; (with_reducible repeat (first | refine blk_drewN ?_ _ | refine blk_drew ?_ | refine blk_alloc ?_ _)); refine blk_far ?_ NB105_103.out _; (with_reducible repeat (first | refine blk_drewN ?_ _ | refine blk_drew ?_ | refine blk_alloc ?_ _)); exact BK105.out⟩, ⟨by repeat (first | (with_reducible first | exact HB.out | apply below_alloc | apply pw_below_drewN | apply below_drew1 | refine below_set ?_ GE101.out | refine below_set ?_ GE102.out | refine below_set ?_ GE103.out | refine below_set ?_ GE104.out | refine below_set ?_ GE105.out | refine below_set ?_ GE115.out) | exact HB.out)⟩⟩
              · rw [if_neg c44] at H
                have c44b0 : decide (0 ≤ t111) = false := decide_eq_false c44
                clear c44
                have H' := Aside0.mk H
                clear H
                have hnb73 := NB104_101.out
                have hnc73 := NB101_104.out
                have hnb74 := NB104_102.out
                have hnc74 := NB102_104.out
                have hnb75 := NB104_103.out
                have hnc75 := NB103_104.out
                have hnb76 := NB104_105.out
                have hnc76 := NB105_104.out
                have hcz77_0 : wc.cell? ⟨gb104, 0, none⟩ = some (.int .u64 x105000_20) := (blk_cell BK104.out 0).trans rfl
                have hcz77_1 : wc.cell? ⟨gb104, 1, none⟩ = some (.int .u64 x105001_20) := (blk_cell BK104.out 1).trans rfl
                have hfz77_0 := blk_frozen BK104.out 0
                have hfz77_1 := blk_frozen BK104.out 1
                have hnb78 := NB105_101.out
                have hnc78 := NB101_105.out
                have hnb79 := NB105_102.out
                have hnc79 := NB102_105.out
                have hnb80 := NB105_103.out
                have hnc80 := NB103_105.out
                have hcz81_0 : wc.cell? ⟨gb105, 0, none⟩ = some (.int .u64 0) := (blk_cell BK105.out 0).trans rfl
                have hcz81_1 : wc.cell? ⟨gb105, 1, none⟩ = some (.int .u64 a1) := (blk_cell BK105.out 1).trans rfl
                have hfz81_0 := blk_frozen BK105.out 0
                have hfz81_1 := blk_frozen BK105.out 1
                go_wp2_with (first | ((with_reducible refine gate_callee (f := 57) rfl ?_); refine goesL_ (some 32) rfl rfl Try.func57 (by kernel_rfl) rfl #[.agg #[.int .u64 x105000_20, .int .u64 x105001_20], .agg #[.int .u64 0, .int .u64 a1]] rfl (by (try simp only [List.map_toArray, List.map_cons, List.map_nil]); first | done | rfl | (simp only [List.length_drop, List.length_take]; rfl)) ?_; (with_reducible refine (pacemakerref01_Cmp.calls kj20 x105000_20 x105001_20 0 a1 t111 _ A43.out).mono ?_); rintro e w82 ⟨rfl, hb⟩; refine ⟨_, rfl, ?_⟩; have n0_ := Aside0.mk (blk_below (g := gb101) (o := .cells #[.int .u64 a0_0, .int .u64 a0_1] 46 (0, 0)) (by (with_reducible repeat (first | refine blk_drewN ?_ _ | refine blk_drew ?_ | refine blk_alloc ?_ _)); exact BK101.out) hb); have n1_ := Aside0.mk (blk_below (g := gb102) (o := .cells #[.int .u64 0, .int .u64 0] 46 (0, 0)) (by (with_reducible repeat (first | refine blk_drewN ?_ _ | refine blk_drew ?_ | refine blk_alloc ?_ _)); exact BK102.out) hb); have n2_ := Aside0.mk (blk_below (g := gb103) (o := .cells #[.int .u64 x104000_1, .int .u64 x104001_1] 46 (0, 0)) (by (with_reducible repeat (first | refine blk_drewN ?_ _ | refine blk_drew ?_ | refine blk_alloc ?_ _)); exact BK103.out) hb); have n3_ := Aside0.mk (blk_below (g := gb104) (o := .cells #[.int .u64 x105000_20, .int .u64 x105001_20] 46 (0, 0)) (by (with_reducible repeat (first | refine blk_drewN ?_ _ | refine blk_drew ?_ | refine blk_alloc ?_ _)); exact BK104.out) hb); have n4_ := Aside0.mk (blk_below (g := gb105) (o := .cells #[.int .u64 0, .int .u64 a1] 46 (0, 0)) (by (with_reducible repeat (first | refine blk_drewN ?_ _ | refine blk_drew ?_ | refine blk_alloc ?_ _)); exact BK105.out) hb); have n5_ := Aside0.mk (below_step (by repeat (first | (with_reducible first | exact HB.out | apply below_alloc | apply pw_below_drewN | apply below_drew1 | refine below_set ?_ GE101.out | refine below_set ?_ GE102.out | refine below_set ?_ GE103.out | refine below_set ?_ GE104.out | refine below_set ?_ GE105.out) | exact HB.out)) hb); clear BK101; clear BK102; clear BK103; clear BK104; clear BK105; clear HB; have BK101 := n0_; have BK102 := n1_; have BK103 := n2_; have BK104 := n3_; have BK105 := n4_; have HB := n5_; clear n0_ n1_ n2_ n3_ n4_ n5_; (try clear hb); (try clear hb2); (try clear hk); (try clear hi)))
                go_roundg kj20
                case measure => have := HK1.out; have := HJ20.out; omega
                case rel => exact ⟨(wrap64 (x10_1 - 1)), (x104000_1), (x104001_1), (x105000_20), (x105001_20), (by first | rfl | (simp; done) | (simp [*]; done)), H', ⟨by have := HK1.out; have := HJ20.out; omega⟩, ⟨by (with_reducible repeat (first | refine blk_drewN ?_ _ | refine blk_drew ?_ | refine blk_alloc ?_ _)); exact BK101.out⟩, ⟨by (with_reducible repeat (first | refine blk_drewN ?_ _ | refine blk_drew ?_ | refine blk_alloc ?_ _)); exact BK102.out⟩, ⟨by (with_reducible repeat (first | refine blk_drewN ?_ _ | refine blk_drew ?_ | refine blk_alloc ?_ _)); exact BK103.out⟩, ⟨by (with_reducible repeat (first | refine blk_drewN ?_ _ | refine blk_drew ?_ | refine blk_alloc ?_ _)); exact BK104.out⟩, ⟨by (with_reducible repeat (first | refine blk_drewN ?_ _ | refine blk_drew ?_ | refine blk_alloc ?_ _)); exact BK105.out⟩, ⟨by repeat (first | (with_reducible first | exact HB.out | apply below_alloc | apply pw_below_drewN | apply below_drew1 | refine below_set ?_ GE101.out | refine below_set ?_ GE102.out | refine below_set ?_ GE103.out | refine below_set ?_ GE104.out | refine below_set ?_ GE105.out) | exact HB.out)⟩⟩
        · rw [if_neg c18] at H
          have c18b0 : decide (0 ≤ x10_1) = false := decide_eq_false c18
          clear c18
          simp only [Option.some.injEq, Prod.mk.injEq] at H
          obtain ⟨rfl, rfl, rfl, rfl⟩ := H
          try go_wp2
          have n0_ := Aside0.mk (blk_drew BK101.out)
          have n1_ := Aside0.mk (blk_drew BK102.out)
          have n2_ := Aside0.mk (blk_drew BK103.out)
          have n3_ := Aside0.mk (blk_drew BK104.out)
          have n4_ := Aside0.mk (blk_drew BK105.out)
          have n5_ := Aside0.mk (below_drew1 HB.out)
          clear BK101
          clear BK102
          clear BK103
          clear BK104
          clear BK105
          clear HB
          have BK101 := n0_
          have BK102 := n1_
          have BK103 := n2_
          have BK104 := n3_
          have BK105 := n4_
          have HB := n5_
          clear n0_ n1_ n2_ n3_ n4_ n5_
          refine start_ (n := 6) (S := fun w' => w'.cell? ⟨gb103, 0, none⟩ = some (.int .u64 x104000_1) ∧ w'.cell? ⟨gb103, 1, none⟩ = some (.int .u64 x104001_1) ∧ w'.cell? ⟨gb104, 0, none⟩ = some (.int .u64 x105000_1) ∧ w'.cell? ⟨gb104, 1, none⟩ = some (.int .u64 x105001_1)) (ds := []) #[false, false, false, false, false, false] (by kernel_rfl) rfl rfl ⟨(blk_cell BK103.out 0).trans rfl, (blk_cell BK103.out 1).trans rfl, (blk_cell BK104.out 0).trans rfl, (blk_cell BK104.out 1).trans rfl⟩ (fun hHeld => ?_)
          generalize wr.drew = w83 at BK101 BK102 BK103 BK104 BK105 HB hHeld ⊢
          refine pure_ (i := 1) (N := some 45) (v := ?_) (a' := ?_) #[false, true, false, false, false, false] rfl rfl (by kernel_rfl) (fun _ _ _ h => h) (Or.inl ⟨by rfl, ?_⟩) ?_ ?_
          rotate_left
          · intro w'
            go_simp
            with_reducible rfl
          rotate_left
          · simp only [Act.put, List.setIfInBounds_toArray, List.set_cons_zero, List.set_cons_succ, i64_w, i32_w]
            rfl
          refine take_ (i := 0) (N := some 44) (v := ?_) (a' := ?_) #[true, true, false, false, false, false] rfl rfl (by kernel_rfl) (fun _ _ _ h => h) (Or.inl ⟨by rfl, ?_⟩) hHeld ?_ ?_
          rotate_left
          · rintro w' ⟨s0, s1, s2, s3⟩
            go_simp
            with_reducible rfl
          rotate_left
          · simp only [Act.put, List.setIfInBounds_toArray, List.set_cons_zero, List.set_cons_succ, i64_w, i32_w]
            rfl
          refine take_ (i := 2) (N := some 46) (v := ?_) (a' := ?_) #[true, true, true, false, false, false] rfl rfl (by kernel_rfl) (fun _ _ _ h => h) (Or.inl ⟨by rfl, ?_⟩) hHeld ?_ ?_
          rotate_left
          · rintro w' ⟨s0, s1, s2, s3⟩
            go_simp
            with_reducible rfl
          rotate_left
          · simp only [Act.put, List.setIfInBounds_toArray, List.set_cons_zero, List.set_cons_succ, i64_w, i32_w]
            rfl
          refine one_ (i := 3) (N := none) #[true, true, true, true, false, false] rfl rfl (by kernel_rfl) (by decide) (fun K hK => ?_)
          have hs84 : w83.cell? ⟨gb102, 0, none⟩ = some (.int .u64 0) := (blk_cell BK102.out 0).trans rfl
          have hfs84 := blk_frozen BK102.out 0
          have hns84_0 := NB101_102.out
          have hns84_2 := NB103_102.out
          have hns84_3 := NB104_102.out
          have hns84_4 := NB105_102.out
          have hms84_0 := NB102_101.out
          have hms84_2 := NB102_103.out
          have hms84_3 := NB102_104.out
          have hms84_4 := NB102_105.out
          have hs85 : w83.cell? ⟨gb102, 1, none⟩ = some (.int .u64 0) := (blk_cell BK102.out 1).trans rfl
          have hfs85 := blk_frozen BK102.out 1
          have hns85_0 := NB101_102.out
          have hns85_2 := NB103_102.out
          have hns85_3 := NB104_102.out
          have hns85_4 := NB105_102.out
          have hms85_0 := NB102_101.out
          have hms85_2 := NB102_103.out
          have hms85_3 := NB102_104.out
          have hms85_4 := NB102_105.out
          refine skip_ (w1 := ?_) (by rfl) rfl ?_ ?_
          rotate_left
          · go_simp
            rfl
          refine hK.out _ _ ⟨((cell_far (p := ⟨gb102, _, none⟩) NB103_102.out _).trans (((cell_far (p := ⟨gb102, _, none⟩) NB103_102.out _).trans (hHeld.1)))), ((cell_far (p := ⟨gb102, _, none⟩) NB103_102.out _).trans (((cell_far (p := ⟨gb102, _, none⟩) NB103_102.out _).trans (hHeld.2.1)))), ((cell_far (p := ⟨gb102, _, none⟩) NB104_102.out _).trans (((cell_far (p := ⟨gb102, _, none⟩) NB104_102.out _).trans (hHeld.2.2.1)))), ((cell_far (p := ⟨gb102, _, none⟩) NB104_102.out _).trans (((cell_far (p := ⟨gb102, _, none⟩) NB104_102.out _).trans (hHeld.2.2.2))))⟩ (fun hHeld => ?_)
          clear hK K
          refine pure_ (i := 4) (N := some 5) (v := ?_) (a' := ?_) #[true, true, true, true, true, false] rfl rfl (by kernel_rfl) (fun _ _ _ h => h) (Or.inl ⟨by rfl, ?_⟩) ?_ ?_
          rotate_left
          · intro w'
            go_simp
            with_reducible rfl
          rotate_left
          · simp only [Act.put, List.setIfInBounds_toArray, List.set_cons_zero, List.set_cons_succ, i64_w, i32_w]
            rfl
          refine pure_ (i := 5) (N := some 6) (v := ?_) (a' := ?_) #[true, true, true, true, true, true] rfl rfl (by kernel_rfl) (fun _ _ _ h => h) (Or.inl ⟨by rfl, ?_⟩) ?_ ?_
          rotate_left
          · intro w'
            go_simp
            with_reducible rfl
          rotate_left
          · simp only [Act.put, List.setIfInBounds_toArray, List.set_cons_zero, List.set_cons_succ, i64_w, i32_w]
            rfl
          refine done_ (by kernel_rfl) ?_
          try go_wp2
          refine bodyPost_ret (results_ctt rfl _ _ gb102 46 #[.int .u64 x104000_1, .int .u64 x104001_1] (0, 0) _ rfl (by (with_reducible repeat (first | refine blk_drewN ?_ _ | refine blk_drew ?_ | refine blk_alloc ?_ _)); refine blk_put (cs := #[.int .u64 x104000_1, .int .u64 0]) ?_ 1 _ rfl; (with_reducible repeat (first | refine blk_drewN ?_ _ | refine blk_drew ?_ | refine blk_alloc ?_ _)); refine blk_put (cs := #[.int .u64 0, .int .u64 0]) ?_ 0 _ rfl; (with_reducible repeat (first | refine blk_drewN ?_ _ | refine blk_drew ?_ | refine blk_alloc ?_ _)); exact BK102.out) Try.underlying46 rfl (by kernel_rfl)) rfl ?_
          exact ⟨by first | rfl | (simp [errW_none, errW_some] <;> rfl) | (simp [*, errW_none, errW_some] <;> rfl), by repeat (first | (with_reducible first | exact HB.out | apply below_alloc | apply pw_below_drewN | apply below_drew1 | refine below_set ?_ GE101.out | refine below_set ?_ GE102.out | refine below_set ?_ GE103.out | refine below_set ?_ GE104.out | refine below_set ?_ GE105.out) | exact HB.out)⟩

end Go.Proofs.Ytpfhlimcemkneaa.P
