-- Printed by a program of this session (wip/pp.py): functions, contracts, rows. Not trusted: Lean checks it.
import Derived.Test.YtcmbogdilplmlaaPx0
import Derived.Test.YtcmbogdilplmlaaPx3
import Derived.Test.YtcmbogdilplmlaaPx4
import Derived.Test.YtcmbogdilplmlaaPx5
import Derived.Test.YtcmbogdilplmlaaPx6
import Derived.Test.YtcmbogdilplmlaaS11
namespace Go.Proofs.Ytcmbogdilplmlaa.P
open Go.RowKit Go.Proofs.YtcmbogdilplmlaaW.PrintWords Go.Proofs.YtcmbogdilplmlaaW.PrintLast Go.Proofs.YtcmbogdilplmlaaW.PrintMore Go.Proofs.YtcmbogdilplmlaaX
attribute [local go_sem] max2_int min2_int max_two min_two max_three min_three max_four min_four   -- for this text's walks alone
set_option linter.unusedVariables false
set_option linter.unusedSimpArgs false

/-! ### pacemakerlaw10_SlopeWithin: function 8 -/
mutual
def pacemakerlaw10_SlopeWithin.j0 : Nat → List (S36) → Bool → Int → Int → Int → Int → Int → Int → Int → Int → Int → Int → Int → Int → Int → Int → Int → Option (Bool)
  | 0, _, _, _, _, _, _, _, _, _, _, _, _, _, _, _, _, _ => none
  | k + 1, x0, x26, x118000, x118001, x118002, x118003, x118004, x118005, x118006, x118007, x118008, x118009, x118010, x118011, x118012, x118013, x118014 => if x26 = true then ((pacemakerlaw10_fitted.f k).bind fun t118 => (some t118)) else (if 0 < (x0.length : Int) then (pacemakerlaw10_SlopeWithin.l0 k x0 ((rd_T36 x0 0).f1) ((rd_T36 x0 0).f1) 0 x118000 x118001 x118002 x118003 x118004 x118005 x118006 x118007 x118008 x118009 x118010 x118011 x118012 x118013 x118014) else (none))
def pacemakerlaw10_SlopeWithin.l0 : Nat → List (S36) → Int → Int → Int → Int → Int → Int → Int → Int → Int → Int → Int → Int → Int → Int → Int → Int → Int → Int → Option (Bool)
  | 0, _, _, _, _, _, _, _, _, _, _, _, _, _, _, _, _, _, _, _ => none
  | k + 1, x0, x5, x6, x7, x118000, x118001, x118002, x118003, x118004, x118005, x118006, x118007, x118008, x118009, x118010, x118011, x118012, x118013, x118014 => if x7 < (x0.length : Int) then (if 0 ≤ x7 then (pacemakerlaw10_SlopeWithin.l0 k x0 (mn x5 ((rd_T36 x0 x7).f1)) (mx x6 ((rd_T36 x0 x7).f1)) (wrap64 (x7 + 1)) x118000 x118001 x118002 x118003 x118004 x118005 x118006 x118007 x118008 x118009 x118010 x118011 x118012 x118013 x118014) else (none)) else ((slope_Mean.f x118000 x118001 x118002 x118003 x118004 x118005 x118006 x118007 x118008 x118009 x118010 x118011 x118012 x118013 x118014).bind fun t123 => ((slope_Dev.f k x118000 x118001 x118002 x118003 x118004 x118005 x118006 x118007 x118008 x118009 x118010 x118011 x118012 x118013 x118014).bind fun t124 => ((pacemakerlaw10_fitted.f k).bind fun t125 => (if t125 = true then ((fix_Of.f x5).bind fun t126 => (if t123 ≥ t126 then ((fix_Of.f x6).bind fun t127 => (if t123 ≤ t127 then (if t124 ≥ 0 then ((fix_Of.f (wrap64 (x6 - x5))).bind fun t128 => (some (decide (t124 ≤ t128)))) else (none)) else (none))) else (none))) else (none)))))
end
def pacemakerlaw10_SlopeWithin.f (k : Nat) (l0 : List (S36)) : Option (Bool) := (pacemakerlaw10_sampled.f l0).bind fun bt101 => (if (l0.length : Int) > 100 then (pacemakerlaw10_SlopeWithin.j0 k l0 true bt101.1 bt101.2.1 bt101.2.2.1 bt101.2.2.2.1 bt101.2.2.2.2.1 bt101.2.2.2.2.2.1 bt101.2.2.2.2.2.2.1 bt101.2.2.2.2.2.2.2.1 bt101.2.2.2.2.2.2.2.2.1 bt101.2.2.2.2.2.2.2.2.2.1 bt101.2.2.2.2.2.2.2.2.2.2.1 bt101.2.2.2.2.2.2.2.2.2.2.2.1 bt101.2.2.2.2.2.2.2.2.2.2.2.2.1 bt101.2.2.2.2.2.2.2.2.2.2.2.2.2.1 bt101.2.2.2.2.2.2.2.2.2.2.2.2.2.2.1) else (if bt101.2.2.2.2.2.2.2.2.2.2.2.2.2.2.2 = true then (pacemakerlaw10_SlopeWithin.j0 k l0 ((l0.length : Int) == 0) bt101.1 bt101.2.1 bt101.2.2.1 bt101.2.2.2.1 bt101.2.2.2.2.1 bt101.2.2.2.2.2.1 bt101.2.2.2.2.2.2.1 bt101.2.2.2.2.2.2.2.1 bt101.2.2.2.2.2.2.2.2.1 bt101.2.2.2.2.2.2.2.2.2.1 bt101.2.2.2.2.2.2.2.2.2.2.1 bt101.2.2.2.2.2.2.2.2.2.2.2.1 bt101.2.2.2.2.2.2.2.2.2.2.2.2.1 bt101.2.2.2.2.2.2.2.2.2.2.2.2.2.1 bt101.2.2.2.2.2.2.2.2.2.2.2.2.2.2.1) else (pacemakerlaw10_SlopeWithin.j0 k l0 true bt101.1 bt101.2.1 bt101.2.2.1 bt101.2.2.2.1 bt101.2.2.2.2.1 bt101.2.2.2.2.2.1 bt101.2.2.2.2.2.2.1 bt101.2.2.2.2.2.2.2.1 bt101.2.2.2.2.2.2.2.2.1 bt101.2.2.2.2.2.2.2.2.2.1 bt101.2.2.2.2.2.2.2.2.2.2.1 bt101.2.2.2.2.2.2.2.2.2.2.2.1 bt101.2.2.2.2.2.2.2.2.2.2.2.2.1 bt101.2.2.2.2.2.2.2.2.2.2.2.2.2.1 bt101.2.2.2.2.2.2.2.2.2.2.2.2.2.2.1)))
theorem pacemakerlaw10_SlopeWithin.mono_l : ∀ k, (∀ y0 y1 y2 y3 y4 y5 y6 y7 y8 y9 y10 y11 y12 y13 y14 y15 y16, LeO (pacemakerlaw10_SlopeWithin.j0 k y0 y1 y2 y3 y4 y5 y6 y7 y8 y9 y10 y11 y12 y13 y14 y15 y16) (pacemakerlaw10_SlopeWithin.j0 (k + 1) y0 y1 y2 y3 y4 y5 y6 y7 y8 y9 y10 y11 y12 y13 y14 y15 y16)) ∧ (∀ y0 y1 y2 y3 y4 y5 y6 y7 y8 y9 y10 y11 y12 y13 y14 y15 y16 y17 y18, LeO (pacemakerlaw10_SlopeWithin.l0 k y0 y1 y2 y3 y4 y5 y6 y7 y8 y9 y10 y11 y12 y13 y14 y15 y16 y17 y18) (pacemakerlaw10_SlopeWithin.l0 (k + 1) y0 y1 y2 y3 y4 y5 y6 y7 y8 y9 y10 y11 y12 y13 y14 y15 y16 y17 y18))
  | 0 => ⟨fun _ _ _ _ _ _ _ _ _ _ _ _ _ _ _ _ _ r h => by simp [pacemakerlaw10_SlopeWithin.j0] at h, fun _ _ _ _ _ _ _ _ _ _ _ _ _ _ _ _ _ _ _ r h => by simp [pacemakerlaw10_SlopeWithin.l0] at h⟩
  | k + 1 => by
    obtain ⟨ih0, ih1⟩ := pacemakerlaw10_SlopeWithin.mono_l k
    refine ⟨?_, ?_⟩
    · intro y0 y1 y2 y3 y4 y5 y6 y7 y8 y9 y10 y11 y12 y13 y14 y15 y16
      unfold pacemakerlaw10_SlopeWithin.j0
      repeat' first
      | (with_reducible exact ih0 _ _ _ _ _ _ _ _ _ _ _ _ _ _ _ _ _)
      | (with_reducible exact ih1 _ _ _ _ _ _ _ _ _ _ _ _ _ _ _ _ _ _ _)
      | (with_reducible exact pacemakerlaw10_fitted.mono _)
      | (with_reducible exact slope_Dev.mono _ _ _ _ _ _ _ _ _ _ _ _ _ _ _ _)
      | (with_reducible exact LeO.refl _)
      | (with_reducible exact LeO.none _)
      | (with_reducible refine LeO.ite ?_ ?_)
      | (with_reducible refine LeO.bind ?_ (fun _ => ?_))
      | exact ih0 _ _ _ _ _ _ _ _ _ _ _ _ _ _ _ _ _
      | exact ih1 _ _ _ _ _ _ _ _ _ _ _ _ _ _ _ _ _ _ _
      | exact pacemakerlaw10_fitted.mono _
      | exact slope_Dev.mono _ _ _ _ _ _ _ _ _ _ _ _ _ _ _ _
      | exact LeO.none _
      | refine LeO.ite ?_ ?_
      | refine LeO.bind ?_ (fun _ => ?_)
    · intro y0 y1 y2 y3 y4 y5 y6 y7 y8 y9 y10 y11 y12 y13 y14 y15 y16 y17 y18
      unfold pacemakerlaw10_SlopeWithin.l0
      repeat' first
      | (with_reducible exact ih0 _ _ _ _ _ _ _ _ _ _ _ _ _ _ _ _ _)
      | (with_reducible exact ih1 _ _ _ _ _ _ _ _ _ _ _ _ _ _ _ _ _ _ _)
      | (with_reducible exact pacemakerlaw10_fitted.mono _)
      | (with_reducible exact slope_Dev.mono _ _ _ _ _ _ _ _ _ _ _ _ _ _ _ _)
      | (with_reducible exact LeO.refl _)
      | (with_reducible exact LeO.none _)
      | (with_reducible refine LeO.ite ?_ ?_)
      | (with_reducible refine LeO.bind ?_ (fun _ => ?_))
      | exact ih0 _ _ _ _ _ _ _ _ _ _ _ _ _ _ _ _ _
      | exact ih1 _ _ _ _ _ _ _ _ _ _ _ _ _ _ _ _ _ _ _
      | exact pacemakerlaw10_fitted.mono _
      | exact slope_Dev.mono _ _ _ _ _ _ _ _ _ _ _ _ _ _ _ _
      | exact LeO.none _
      | refine LeO.ite ?_ ?_
      | refine LeO.bind ?_ (fun _ => ?_)
theorem pacemakerlaw10_SlopeWithin.mono : ∀ a0 k, LeO (pacemakerlaw10_SlopeWithin.f k a0) (pacemakerlaw10_SlopeWithin.f (k + 1) a0) := by
  intro a0 k
  obtain ⟨ih0, ih1⟩ := pacemakerlaw10_SlopeWithin.mono_l k
  unfold pacemakerlaw10_SlopeWithin.f
  repeat' first
      | (with_reducible exact ih0 _ _ _ _ _ _ _ _ _ _ _ _ _ _ _ _ _)
      | (with_reducible exact ih1 _ _ _ _ _ _ _ _ _ _ _ _ _ _ _ _ _ _ _)
      | (with_reducible exact pacemakerlaw10_fitted.mono _)
      | (with_reducible exact slope_Dev.mono _ _ _ _ _ _ _ _ _ _ _ _ _ _ _ _)
      | (with_reducible exact LeO.refl _)
      | (with_reducible exact LeO.none _)
      | (with_reducible refine LeO.ite ?_ ?_)
      | (with_reducible refine LeO.bind ?_ (fun _ => ?_))
      | exact ih0 _ _ _ _ _ _ _ _ _ _ _ _ _ _ _ _ _
      | exact ih1 _ _ _ _ _ _ _ _ _ _ _ _ _ _ _ _ _ _ _
      | exact pacemakerlaw10_fitted.mono _
      | exact slope_Dev.mono _ _ _ _ _ _ _ _ _ _ _ _ _ _ _ _
      | exact LeO.none _
      | refine LeO.ite ?_ ?_
      | refine LeO.bind ?_ (fun _ => ?_)
set_option maxHeartbeats 8000000 in
set_option maxRecDepth 100000 in
theorem pacemakerlaw10_SlopeWithin.calls (k : Nat) (A0 : Option Addr) (c0 : Nat) (l0 : List (S36)) (r : Bool) (w : World) (hr0 : Kd.C k36 w A0 l0.length l0) (hc0 : l0.length ≤ c0) (h : pacemakerlaw10_SlopeWithin.f k l0 = some r) :
    Calls Try.prog 8 #[.slice A0 l0.length c0] w fun e w' => e = .returned (.bool r) ∧ Below w.heap.size w w' := by
  have hu29 := Try.underlying29
  have HR0 := Aside0.mk hr0
  have HC0 := Aside0.mk hc0
  clear hr0 hc0
  have HB := Aside0.mk (Below.refl w.heap.size w)
  have H : ((pacemakerlaw10_sampled.f l0).bind fun bt101 => (if (l0.length : Int) > 100 then (pacemakerlaw10_SlopeWithin.j0 k l0 true bt101.1 bt101.2.1 bt101.2.2.1 bt101.2.2.2.1 bt101.2.2.2.2.1 bt101.2.2.2.2.2.1 bt101.2.2.2.2.2.2.1 bt101.2.2.2.2.2.2.2.1 bt101.2.2.2.2.2.2.2.2.1 bt101.2.2.2.2.2.2.2.2.2.1 bt101.2.2.2.2.2.2.2.2.2.2.1 bt101.2.2.2.2.2.2.2.2.2.2.2.1 bt101.2.2.2.2.2.2.2.2.2.2.2.2.1 bt101.2.2.2.2.2.2.2.2.2.2.2.2.2.1 bt101.2.2.2.2.2.2.2.2.2.2.2.2.2.2.1) else (if bt101.2.2.2.2.2.2.2.2.2.2.2.2.2.2.2 = true then (pacemakerlaw10_SlopeWithin.j0 k l0 ((l0.length : Int) == 0) bt101.1 bt101.2.1 bt101.2.2.1 bt101.2.2.2.1 bt101.2.2.2.2.1 bt101.2.2.2.2.2.1 bt101.2.2.2.2.2.2.1 bt101.2.2.2.2.2.2.2.1 bt101.2.2.2.2.2.2.2.2.1 bt101.2.2.2.2.2.2.2.2.2.1 bt101.2.2.2.2.2.2.2.2.2.2.1 bt101.2.2.2.2.2.2.2.2.2.2.2.1 bt101.2.2.2.2.2.2.2.2.2.2.2.2.1 bt101.2.2.2.2.2.2.2.2.2.2.2.2.2.1 bt101.2.2.2.2.2.2.2.2.2.2.2.2.2.2.1) else (pacemakerlaw10_SlopeWithin.j0 k l0 true bt101.1 bt101.2.1 bt101.2.2.1 bt101.2.2.2.1 bt101.2.2.2.2.1 bt101.2.2.2.2.2.1 bt101.2.2.2.2.2.2.1 bt101.2.2.2.2.2.2.2.1 bt101.2.2.2.2.2.2.2.2.1 bt101.2.2.2.2.2.2.2.2.2.1 bt101.2.2.2.2.2.2.2.2.2.2.1 bt101.2.2.2.2.2.2.2.2.2.2.2.1 bt101.2.2.2.2.2.2.2.2.2.2.2.2.1 bt101.2.2.2.2.2.2.2.2.2.2.2.2.2.1 bt101.2.2.2.2.2.2.2.2.2.2.2.2.2.2.1)))) = some r := h
  clear h
  replace H := Option.bind_eq_some_iff.mp H
  obtain ⟨⟨t101, t102, t103, t104, t105, t106, t107, t108, t109, t110, t111, t112, t113, t114, t115, t116⟩, A20, H⟩ := H
  replace H : (if (l0.length : Int) > 100 then (pacemakerlaw10_SlopeWithin.j0 k l0 true t101 t102 t103 t104 t105 t106 t107 t108 t109 t110 t111 t112 t113 t114 t115) else (if t116 = true then (pacemakerlaw10_SlopeWithin.j0 k l0 ((l0.length : Int) == 0) t101 t102 t103 t104 t105 t106 t107 t108 t109 t110 t111 t112 t113 t114 t115) else (pacemakerlaw10_SlopeWithin.j0 k l0 true t101 t102 t103 t104 t105 t106 t107 t108 t109 t110 t111 t112 t113 t114 t115))) = some r := H
  have A2 := Aside0.mk A20
  clear A20
  have HC3 := Aside0.mk H
  clear H
  go_enter Try.func8, Try.ntmps8
  go_upto_region 2 with (first | ((with_reducible refine gate_callee (f := 18) rfl ?_); refine goesL_ (some 12) rfl rfl Try.func18 (by kernel_rfl) rfl #[.slice A0 l0.length c0] rfl (by (try simp only [List.map_toArray, List.map_cons, List.map_nil]); first | done | rfl | (simp only [List.length_drop, List.length_take]; rfl)) ?_; (with_reducible refine (pacemakerlaw10_sampled.calls _ _ l0 t101 t102 t103 t104 t105 t106 t107 t108 t109 t110 t111 t112 t113 t114 t115 t116 _ ?side1 ?side2 A2.out).mono ?_); (case side1 => repeat (first | exact HR0.out | (with_reducible refine Kd.C_alloc ?_ _) | (with_reducible refine Kd.C_drewN ?_ _) | (with_reducible refine Kd.C_drew ?_))); (case side2 => exact HC0.out); rintro e w4 ⟨rfl, hb⟩; refine ⟨_, rfl, ?_⟩; have n0_ := Aside0.mk (below_step (by repeat (first | (with_reducible first | exact HB.out | apply below_alloc | apply pw_below_drewN | apply below_drew1) | exact HB.out)) hb); clear HB; have HB := n0_; clear n0_; (try clear hb); (try clear hb2); (try clear hk); (try clear hi)) | ((with_reducible refine gate_dst (N := 3) rfl ?_); (try (refine gate_guard (by rfl) ?_; dsimp only)); refine box_event ?hg (N := 3) ?hd (cs := #[.int .i64 0, .int .i64 0, .int .i64 0, .int .i64 0, .int .i64 0, .int .i64 0, .int .i64 0, .int .i64 0, .int .i64 0, .int .i64 0, .int .i64 0, .int .i64 0, .int .i64 0, .int .i64 0, .int .i64 0]) (t := 29) ?hr ?_; (case hd => rfl); (case hg => rfl); (case hr => first | (go_simp; done) | (go_simp; rfl)); intro gb117 hg w5 hbox hb; have n0_ := Aside0.mk (below_step (by repeat (first | (with_reducible first | exact HB.out | apply below_alloc | apply pw_below_drewN | apply below_drew1) | exact HB.out)) hb); have n1_ := Aside0.mk (hbox); have n2_ := Aside0.mk ((by rw [hg]; exact (below_size (by repeat (first | (with_reducible first | exact HB.out | apply below_alloc | apply pw_below_drewN | apply below_drew1) | exact HB.out))) : w.heap.size ≤ gb117)); have n3_ := Aside0.mk ((by rw [hg]; exact (below_size (by repeat (first | (with_reducible first | exact HB.out | apply below_alloc | apply pw_below_drewN | apply below_drew1) | exact HB.out))) : w.heap.size ≤ gb117)); clear HB; have HB := n0_; have BK117 := n1_; have GW117 := n2_; have GE117 := n3_; clear n0_ n1_ n2_ n3_; clear hb hbox hg; have hcz6_0 : w5.cell? ⟨gb117, 0, none⟩ = some (.int .i64 0) := (blk_cell BK117.out 0).trans rfl; have hcz6_1 : w5.cell? ⟨gb117, 1, none⟩ = some (.int .i64 0) := (blk_cell BK117.out 1).trans rfl; have hcz6_2 : w5.cell? ⟨gb117, 2, none⟩ = some (.int .i64 0) := (blk_cell BK117.out 2).trans rfl; have hcz6_3 : w5.cell? ⟨gb117, 3, none⟩ = some (.int .i64 0) := (blk_cell BK117.out 3).trans rfl; have hcz6_4 : w5.cell? ⟨gb117, 4, none⟩ = some (.int .i64 0) := (blk_cell BK117.out 4).trans rfl; have hcz6_5 : w5.cell? ⟨gb117, 5, none⟩ = some (.int .i64 0) := (blk_cell BK117.out 5).trans rfl; have hcz6_6 : w5.cell? ⟨gb117, 6, none⟩ = some (.int .i64 0) := (blk_cell BK117.out 6).trans rfl; have hcz6_7 : w5.cell? ⟨gb117, 7, none⟩ = some (.int .i64 0) := (blk_cell BK117.out 7).trans rfl; have hcz6_8 : w5.cell? ⟨gb117, 8, none⟩ = some (.int .i64 0) := (blk_cell BK117.out 8).trans rfl; have hcz6_9 : w5.cell? ⟨gb117, 9, none⟩ = some (.int .i64 0) := (blk_cell BK117.out 9).trans rfl; have hcz6_10 : w5.cell? ⟨gb117, 10, none⟩ = some (.int .i64 0) := (blk_cell BK117.out 10).trans rfl; have hcz6_11 : w5.cell? ⟨gb117, 11, none⟩ = some (.int .i64 0) := (blk_cell BK117.out 11).trans rfl; have hcz6_12 : w5.cell? ⟨gb117, 12, none⟩ = some (.int .i64 0) := (blk_cell BK117.out 12).trans rfl; have hcz6_13 : w5.cell? ⟨gb117, 13, none⟩ = some (.int .i64 0) := (blk_cell BK117.out 13).trans rfl; have hcz6_14 : w5.cell? ⟨gb117, 14, none⟩ = some (.int .i64 0) := (blk_cell BK117.out 14).trans rfl; have hfz6_0 := blk_frozen BK117.out 0; have hfz6_1 := blk_frozen BK117.out 1; have hfz6_2 := blk_frozen BK117.out 2; have hfz6_3 := blk_frozen BK117.out 3; have hfz6_4 := blk_frozen BK117.out 4; have hfz6_5 := blk_frozen BK117.out 5; have hfz6_6 := blk_frozen BK117.out 6; have hfz6_7 := blk_frozen BK117.out 7; have hfz6_8 := blk_frozen BK117.out 8; have hfz6_9 := blk_frozen BK117.out 9; have hfz6_10 := blk_frozen BK117.out 10; have hfz6_11 := blk_frozen BK117.out 11; have hfz6_12 := blk_frozen BK117.out 12; have hfz6_13 := blk_frozen BK117.out 13; have hfz6_14 := blk_frozen BK117.out 14))
  (try simp only [Act.put, List.setIfInBounds_toArray, List.set_cons_zero, List.set_cons_succ])
  go_cut [26] (fun v26 wc => ∃ (kq : Nat) (x26_2 : Bool), v26 = .bool x26_2 ∧ Aside0 (pacemakerlaw10_SlopeWithin.j0 kq l0 x26_2 t101 t102 t103 t104 t105 t106 t107 t108 t109 t110 t111 t112 t113 t114 t115 = some r) ∧ Aside0 (kq ≤ k) ∧ Aside0 (wc.heap[gb117]? = some (.cells #[.int .i64 t101, .int .i64 t102, .int .i64 t103, .int .i64 t104, .int .i64 t105, .int .i64 t106, .int .i64 t107, .int .i64 t108, .int .i64 t109, .int .i64 t110, .int .i64 t111, .int .i64 t112, .int .i64 t113, .int .i64 t114, .int .i64 t115] 29 (0, 0))) ∧ Aside0 (Below w.heap.size w wc))
  case first =>
    have H := HC3.out
    clear HC3
    by_cases c7 : (l0.length : Int) > 100
    · rw [if_pos c7] at H
      have c7b0 : decide (100 < (l0.length : Int)) = true := decide_eq_true c7
      have c7b1 : decide (100 < l0.length) = true := decide_eq_true (by omega)
      clear c7
      (first | rw [c7b0] | (simp only [i64_w, i32_w]; rw [c7b0]) | skip)
      have H' := Aside0.mk H
      clear H
      go_wp2
      go_meet
      case rel => exact ⟨_, (true), (by first | rfl | (simp; done) | (simp [*]; done)), H', ⟨by first | omega | exact Nat.le_refl _⟩, ⟨by (with_reducible repeat (first | refine blk_drewN ?_ _ | refine blk_drew ?_ | refine blk_alloc ?_ _)); refine blk_put (cs := #[.int .i64 t101, .int .i64 t102, .int .i64 t103, .int .i64 t104, .int .i64 t105, .int .i64 t106, .int .i64 t107, .int .i64 t108, .int .i64 t109, .int .i64 t110, .int .i64 t111, .int .i64 t112, .int .i64 t113, .int .i64 t114, .int .i64 0]) ?_ 14 _ rfl; (with_reducible repeat (first | refine blk_drewN ?_ _ | refine blk_drew ?_ | refine blk_alloc ?_ _)); refine blk_put (cs := #[.int .i64 t101, .int .i64 t102, .int .i64 t103, .int .i64 t104, .int .i64 t105, .int .i64 t106, .int .i64 t107, .int .i64 t108, .int .i64 t109, .int .i64 t110, .int .i64 t111, .int .i64 t112, .int .i64 t113, .int .i64 0, .int .i64 0]) ?_ 13 _ rfl; (with_reducible repeat (first | refine blk_drewN ?_ _ | refine blk_drew ?_ | refine blk_alloc ?_ _)); refine blk_put (cs := #[.int .i64 t101, .int .i64 t102, .int .i64 t103, .int .i64 t104, .int .i64 t105, .int .i64 t106, .int .i64 t107, .int .i64 t108, .int .i64 t109, .int .i64 t110, .int .i64 t111, .int .i64 t112, .int .i64 0, .int .i64 0, .int .i64 0]) ?_ 12 _ rfl; (with_reducible repeat (first | refine blk_drewN ?_ _ | refine blk_drew ?_ | refine blk_alloc ?_ _)); refine blk_put (cs := #[.int .i64 t101, .int .i64 t102, .int .i64 t103, .int .i64 t104, .int .i64 t105, .int .i64 t106, .int .i64 t107, .int .i64 t108, .int .i64 t109, .int .i64 t110, .int .i64 t111, .int .i64 0, .int .i64 0, .int .i64 0, .int .i64 0]) ?_ 11 _ rfl; (with_reducible repeat (first | refine blk_drewN ?_ _ | refine blk_drew ?_ | refine blk_alloc ?_ _)); refine blk_put (cs := #[.int .i64 t101, .int .i64 t102, .int .i64 t103, .int .i64 t104, .int .i64 t105, .int .i64 t106, .int .i64 t107, .int .i64 t108, .int .i64 t109, .int .i64 t110, .int .i64 0, .int .i64 0, .int .i64 0, .int .i64 0, .int .i64 0]) ?_ 10 _ rfl; (with_reducible repeat (first | refine blk_drewN ?_ _ | refine blk_drew ?_ | refine blk_alloc ?_ _)); refine blk_put (cs := #[.int .i64 t101, .int .i64 t102, .int .i64 t103, .int .i64 t104, .int .i64 t105, .int .i64 t106, .int .i64 t107, .int .i64 t108, .int .i64 t109, .int .i64 0, .int .i64 0, .int .i64 0, .int .i64 0, .int .i64 0, .int .i64 0]) ?_ 9 _ rfl; (with_reducible repeat (first | refine blk_drewN ?_ _ | refine blk_drew ?_ | refine blk_alloc ?_ _)); refine blk_put (cs := #[.int .i64 t101, .int .i64 t102, .int .i64 t103, .int .i64 t104, .int .i64 t105, .int .i64 t106, .int .i64 t107, .int .i64 t108, .int .i64 0, .int .i64 0, .int .i64 0, .int .i64 0, .int .i64 0, .int .i64 0, .int .i64 0]) ?_ 8 _ rfl; (with_reducible repeat (first | refine blk_drewN ?_ _ | refine blk_drew ?_ | refine blk_alloc ?_ _)); refine blk_put (cs := #[.int .i64 t101, .int .i64 t102, .int .i64 t103, .int .i64 t104, .int .i64 t105, .int .i64 t106, .int .i64 t107, .int .i64 0, .int .i64 0, .int .i64 0, .int .i64 0, .int .i64 0, .int .i64 0, .int .i64 0, .int .i64 0]) ?_ 7 _ rfl; (with_reducible repeat (first | refine blk_drewN ?_ _ | refine blk_drew ?_ | refine blk_alloc ?_ _)); refine blk_put (cs := #[.int .i64 t101, .int .i64 t102, .int .i64 t103, .int .i64 t104, .int .i64 t105, .int .i64 t106, .int .i64 0, .int .i64 0, .int .i64 0, .int .i64 0, .int .i64 0, .int .i64 0, .int .i64 0, .int .i64 0, .int .i64 0]) ?_ 6 _ rfl; (with_reducible repeat (first | refine blk_drewN ?_ _ | refine blk_drew ?_ | refine blk_alloc ?_ _)); refine blk_put (cs := #[.int .i64 t101, .int .i64 t102, .int .i64 t103, .int .i64 t104, .int .i64 t105, .int .i64 0, .int .i64 0, .int .i64 0, .int .i64 0, .int .i64 0, .int .i64 0, .int .i64 0, .int .i64 0, .int .i64 0, .int .i64 0]) ?_ 5 _ rfl; (with_reducible repeat (first | refine blk_drewN ?_ _ | refine blk_drew ?_ | refine blk_alloc ?_ _)); refine blk_put (cs := #[.int .i64 t101, .int .i64 t102, .int .i64 t103, .int .i64 t104, .int .i64 0, .int .i64 0, .int .i64 0, .int .i64 0, .int .i64 0, .int .i64 0, .int .i64 0, .int .i64 0, .int .i64 0, .int .i64 0, .int .i64 0]) ?_ 4 _ rfl; (with_reducible repeat (first | refine blk_drewN ?_ _ | refine blk_drew ?_ | refine blk_alloc ?_ _)); refine blk_put (cs := #[.int .i64 t101, .int .i64 t102, .int .i64 t103, .int .i64 0, .int .i64 0, .int .i64 0, .int .i64 0, .int .i64 0, .int .i64 0, .int .i64 0, .int .i64 0, .int .i64 0, .int .i64 0, .int .i64 0, .int .i64 0]) ?_ 3 _ rfl; (with_reducible repeat (first | refine blk_drewN ?_ _ | refine blk_drew ?_ | refine blk_alloc ?_ _)); refine blk_put (cs := #[.int .i64 t101, .int .i64 t102, .int .i64 0, .int .i64 0, .int .i64 0, .int .i64 0, .int .i64 0, .int .i64 0, .int .i64 0, .int .i64 0, .int .i64 0, .int .i64 0, .int .i64 0, .int .i64 0, .int .i64 0]) ?_ 2 _ rfl; (with_reducible repeat (first | refine blk_drewN ?_ _ | refine blk_drew ?_ | refine blk_alloc ?_ _)); refine blk_put (cs := #[.int .i64 t101, .int .i64 0, .int .i64 0, .int .i64 0, .int .i64 0, .int .i64 0, .int .i64 0, .int .i64 0, .int .i64 0, .int .i64 0, .int .i64 0, .int .i64 0, .int .i64 0, .int .i64 0, .int .i64 0]) ?_ 1 _ rfl; (with_reducible repeat (first | refine blk_drewN ?_ _ | refine blk_drew ?_ | refine blk_alloc ?_ _)); refine blk_put (cs := #[.int .i64 0, .int .i64 0, .int .i64 0, .int .i64 0, .int .i64 0, .int .i64 0, .int .i64 0, .int .i64 0, .int .i64 0, .int .i64 0, .int .i64 0, .int .i64 0, .int .i64 0, .int .i64 0, .int .i64 0]) ?_ 0 _ rfl; (with_reducible repeat (first | refine blk_drewN ?_ _ | refine blk_drew ?_ | refine blk_alloc ?_ _)); exact BK117.out⟩, ⟨by repeat (first | (with_reducible first | exact HB.out | apply below_alloc | apply pw_below_drewN | apply below_drew1 | refine below_set ?_ GE117.out) | exact HB.out)⟩⟩
    · rw [if_neg c7] at H
      have c7b0 : decide (100 < (l0.length : Int)) = false := decide_eq_false c7
      have c7b1 : decide (100 < l0.length) = false := decide_eq_false (by omega)
      clear c7
      (first | rw [c7b0] | (simp only [i64_w, i32_w]; rw [c7b0]) | skip)
      by_cases c8 : t116 = true
      · subst c8
        have H1 : (pacemakerlaw10_SlopeWithin.j0 k l0 ((l0.length : Int) == 0) t101 t102 t103 t104 t105 t106 t107 t108 t109 t110 t111 t112 t113 t114 t115) = some r := by rw [if_pos rfl] at H; exact H
        clear H
        have H := H1
        clear H1
        have H' := Aside0.mk H
        clear H
        go_wp2
        go_meet
        case rel => exact ⟨_, (((l0.length : Int) == 0)), (by first | rfl | (simp; done) | (simp [*]; done)), H', ⟨by first | omega | exact Nat.le_refl _⟩, ⟨by (with_reducible repeat (first | refine blk_drewN ?_ _ | refine blk_drew ?_ | refine blk_alloc ?_ _)); refine blk_put (cs := #[.int .i64 t101, .int .i64 t102, .int .i64 t103, .int .i64 t104, .int .i64 t105, .int .i64 t106, .int .i64 t107, .int .i64 t108, .int .i64 t109, .int .i64 t110, .int .i64 t111, .int .i64 t112, .int .i64 t113, .int .i64 t114, .int .i64 0]) ?_ 14 _ rfl; (with_reducible repeat (first | refine blk_drewN ?_ _ | refine blk_drew ?_ | refine blk_alloc ?_ _)); refine blk_put (cs := #[.int .i64 t101, .int .i64 t102, .int .i64 t103, .int .i64 t104, .int .i64 t105, .int .i64 t106, .int .i64 t107, .int .i64 t108, .int .i64 t109, .int .i64 t110, .int .i64 t111, .int .i64 t112, .int .i64 t113, .int .i64 0, .int .i64 0]) ?_ 13 _ rfl; (with_reducible repeat (first | refine blk_drewN ?_ _ | refine blk_drew ?_ | refine blk_alloc ?_ _)); refine blk_put (cs := #[.int .i64 t101, .int .i64 t102, .int .i64 t103, .int .i64 t104, .int .i64 t105, .int .i64 t106, .int .i64 t107, .int .i64 t108, .int .i64 t109, .int .i64 t110, .int .i64 t111, .int .i64 t112, .int .i64 0, .int .i64 0, .int .i64 0]) ?_ 12 _ rfl; (with_reducible repeat (first | refine blk_drewN ?_ _ | refine blk_drew ?_ | refine blk_alloc ?_ _)); refine blk_put (cs := #[.int .i64 t101, .int .i64 t102, .int .i64 t103, .int .i64 t104, .int .i64 t105, .int .i64 t106, .int .i64 t107, .int .i64 t108, .int .i64 t109, .int .i64 t110, .int .i64 t111, .int .i64 0, .int .i64 0, .int .i64 0, .int .i64 0]) ?_ 11 _ rfl; (with_reducible repeat (first | refine blk_drewN ?_ _ | refine blk_drew ?_ | refine blk_alloc ?_ _)); refine blk_put (cs := #[.int .i64 t101, .int .i64 t102, .int .i64 t103, .int .i64 t104, .int .i64 t105, .int .i64 t106, .int .i64 t107, .int .i64 t108, .int .i64 t109, .int .i64 t110, .int .i64 0, .int .i64 0, .int .i64 0, .int .i64 0, .int .i64 0]) ?_ 10 _ rfl; (with_reducible repeat (first | refine blk_drewN ?_ _ | refine blk_drew ?_ | refine blk_alloc ?_ _)); refine blk_put (cs := #[.int .i64 t101, .int .i64 t102, .int .i64 t103, .int .i64 t104, .int .i64 t105, .int .i64 t106, .int .i64 t107, .int .i64 t108, .int .i64 t109, .int .i64 0, .int .i64 0, .int .i64 0, .int .i64 0, .int .i64 0, .int .i64 0]) ?_ 9 _ rfl; (with_reducible repeat (first | refine blk_drewN ?_ _ | refine blk_drew ?_ | refine blk_alloc ?_ _)); refine blk_put (cs := #[.int .i64 t101, .int .i64 t102, .int .i64 t103, .int .i64 t104, .int .i64 t105, .int .i64 t106, .int .i64 t107, .int .i64 t108, .int .i64 0, .int .i64 0, .int .i64 0, .int .i64 0, .int .i64 0, .int .i64 0, .int .i64 0]) ?_ 8 _ rfl; (with_reducible repeat (first | refine blk_drewN ?_ _ | refine blk_drew ?_ | refine blk_alloc ?_ _)); refine blk_put (cs := #[.int .i64 t101, .int .i64 t102, .int .i64 t103, .int .i64 t104, .int .i64 t105, .int .i64 t106, .int .i64 t107, .int .i64 0, .int .i64 0, .int .i64 0, .int .i64 0, .int .i64 0, .int .i64 0, .int .i64 0, .int .i64 0]) ?_ 7 _ rfl; (with_reducible repeat (first | refine blk_drewN ?_ _ | refine blk_drew ?_ | refine blk_alloc ?_ _)); refine blk_put (cs := #[.int .i64 t101, .int .i64 t102, .int .i64 t103, .int .i64 t104, .int .i64 t105, .int .i64 t106, .int .i64 0, .int .i64 0, .int .i64 0, .int .i64 0, .int .i64 0, .int .i64 0, .int .i64 0, .int .i64 0, .int .i64 0]) ?_ 6 _ rfl; (with_reducible repeat (first | refine blk_drewN ?_ _ | refine blk_drew ?_ | refine blk_alloc ?_ _)); refine blk_put (cs := #[.int .i64 t101, .int .i64 t102, .int .i64 t103, .int .i64 t104, .int .i64 t105, .int .i64 0, .int .i64 0, .int .i64 0, .int .i64 0, .int .i64 0, .int .i64 0, .int .i64 0, .int .i64 0, .int .i64 0, .int .i64 0]) ?_ 5 _ rfl; (with_reducible repeat (first | refine blk_drewN ?_ _ | refine blk_drew ?_ | refine blk_alloc ?_ _)); refine blk_put (cs := #[.int .i64 t101, .int .i64 t102, .int .i64 t103, .int .i64 t104, .int .i64 0, .int .i64 0, .int .i64 0, .int .i64 0, .int .i64 0, .int .i64 0, .int .i64 0, .int .i64 0, .int .i64 0, .int .i64 0, .int .i64 0]) ?_ 4 _ rfl; (with_reducible repeat (first | refine blk_drewN ?_ _ | refine blk_drew ?_ | refine blk_alloc ?_ _)); refine blk_put (cs := #[.int .i64 t101, .int .i64 t102, .int .i64 t103, .int .i64 0, .int .i64 0, .int .i64 0, .int .i64 0, .int .i64 0, .int .i64 0, .int .i64 0, .int .i64 0, .int .i64 0, .int .i64 0, .int .i64 0, .int .i64 0]) ?_ 3 _ rfl; (with_reducible repeat (first | refine blk_drewN ?_ _ | refine blk_drew ?_ | refine blk_alloc ?_ _)); refine blk_put (cs := #[.int .i64 t101, .int .i64 t102, .int .i64 0, .int .i64 0, .int .i64 0, .int .i64 0, .int .i64 0, .int .i64 0, .int .i64 0, .int .i64 0, .int .i64 0, .int .i64 0, .int .i64 0, .int .i64 0, .int .i64 0]) ?_ 2 _ rfl; (with_reducible repeat (first | refine blk_drewN ?_ _ | refine blk_drew ?_ | refine blk_alloc ?_ _)); refine blk_put (cs := #[.int .i64 t101, .int .i64 0, .int .i64 0, .int .i64 0, .int .i64 0, .int .i64 0, .int .i64 0, .int .i64 0, .int .i64 0, .int .i64 0, .int .i64 0, .int .i64 0, .int .i64 0, .int .i64 0, .int .i64 0]) ?_ 1 _ rfl; (with_reducible repeat (first | refine blk_drewN ?_ _ | refine blk_drew ?_ | refine blk_alloc ?_ _)); refine blk_put (cs := #[.int .i64 0, .int .i64 0, .int .i64 0, .int .i64 0, .int .i64 0, .int .i64 0, .int .i64 0, .int .i64 0, .int .i64 0, .int .i64 0, .int .i64 0, .int .i64 0, .int .i64 0, .int .i64 0, .int .i64 0]) ?_ 0 _ rfl; (with_reducible repeat (first | refine blk_drewN ?_ _ | refine blk_drew ?_ | refine blk_alloc ?_ _)); exact BK117.out⟩, ⟨by repeat (first | (with_reducible first | exact HB.out | apply below_alloc | apply pw_below_drewN | apply below_drew1 | refine below_set ?_ GE117.out) | exact HB.out)⟩⟩
      · replace c8 := Bool.eq_false_iff.mpr c8
        subst c8
        have H1 : (pacemakerlaw10_SlopeWithin.j0 k l0 true t101 t102 t103 t104 t105 t106 t107 t108 t109 t110 t111 t112 t113 t114 t115) = some r := by rw [if_neg (show ¬ (false = true) by decide)] at H; exact H
        clear H
        have H := H1
        clear H1
        have H' := Aside0.mk H
        clear H
        go_wp2
        go_meet
        case rel => exact ⟨_, (true), (by first | rfl | (simp; done) | (simp [*]; done)), H', ⟨by first | omega | exact Nat.le_refl _⟩, ⟨by (with_reducible repeat (first | refine blk_drewN ?_ _ | refine blk_drew ?_ | refine blk_alloc ?_ _)); refine blk_put (cs := #[.int .i64 t101, .int .i64 t102, .int .i64 t103, .int .i64 t104, .int .i64 t105, .int .i64 t106, .int .i64 t107, .int .i64 t108, .int .i64 t109, .int .i64 t110, .int .i64 t111, .int .i64 t112, .int .i64 t113, .int .i64 t114, .int .i64 0]) ?_ 14 _ rfl; (with_reducible repeat (first | refine blk_drewN ?_ _ | refine blk_drew ?_ | refine blk_alloc ?_ _)); refine blk_put (cs := #[.int .i64 t101, .int .i64 t102, .int .i64 t103, .int .i64 t104, .int .i64 t105, .int .i64 t106, .int .i64 t107, .int .i64 t108, .int .i64 t109, .int .i64 t110, .int .i64 t111, .int .i64 t112, .int .i64 t113, .int .i64 0, .int .i64 0]) ?_ 13 _ rfl; (with_reducible repeat (first | refine blk_drewN ?_ _ | refine blk_drew ?_ | refine blk_alloc ?_ _)); refine blk_put (cs := #[.int .i64 t101, .int .i64 t102, .int .i64 t103, .int .i64 t104, .int .i64 t105, .int .i64 t106, .int .i64 t107, .int .i64 t108, .int .i64 t109, .int .i64 t110, .int .i64 t111, .int .i64 t112, .int .i64 0, .int .i64 0, .int .i64 0]) ?_ 12 _ rfl; (with_reducible repeat (first | refine blk_drewN ?_ _ | refine blk_drew ?_ | refine blk_alloc ?_ _)); refine blk_put (cs := #[.int .i64 t101, .int .i64 t102, .int .i64 t103, .int .i64 t104, .int .i64 t105, .int .i64 t106, .int .i64 t107, .int .i64 t108, .int .i64 t109, .int .i64 t110, .int .i64 t111, .int .i64 0, .int .i64 0, .int .i64 0, .int .i64 0]) ?_ 11 _ rfl; (with_reducible repeat (first | refine blk_drewN ?_ _ | refine blk_drew ?_ | refine blk_alloc ?_ _)); refine blk_put (cs := #[.int .i64 t101, .int .i64 t102, .int .i64 t103, .int .i64 t104, .int .i64 t105, .int .i64 t106, .int .i64 t107, .int .i64 t108, .int .i64 t109, .int .i64 t110, .int .i64 0, .int .i64 0, .int .i64 0, .int .i64 0, .int .i64 0]) ?_ 10 _ rfl; (with_reducible repeat (first | refine blk_drewN ?_ _ | refine blk_drew ?_ | refine blk_alloc ?_ _)); refine blk_put (cs := #[.int .i64 t101, .int .i64 t102, .int .i64 t103, .int .i64 t104, .int .i64 t105, .int .i64 t106, .int .i64 t107, .int .i64 t108, .int .i64 t109, .int .i64 0, .int .i64 0, .int .i64 0, .int .i64 0, .int .i64 0, .int .i64 0]) ?_ 9 _ rfl; (with_reducible repeat (first | refine blk_drewN ?_ _ | refine blk_drew ?_ | refine blk_alloc ?_ _)); refine blk_put (cs := #[.int .i64 t101, .int .i64 t102, .int .i64 t103, .int .i64 t104, .int .i64 t105, .int .i64 t106, .int .i64 t107, .int .i64 t108, .int .i64 0, .int .i64 0, .int .i64 0, .int .i64 0, .int .i64 0, .int .i64 0, .int .i64 0]) ?_ 8 _ rfl; (with_reducible repeat (first | refine blk_drewN ?_ _ | refine blk_drew ?_ | refine blk_alloc ?_ _)); refine blk_put (cs := #[.int .i64 t101, .int .i64 t102, .int .i64 t103, .int .i64 t104, .int .i64 t105, .int .i64 t106, .int .i64 t107, .int .i64 0, .int .i64 0, .int .i64 0, .int .i64 0, .int .i64 0, .int .i64 0, .int .i64 0, .int .i64 0]) ?_ 7 _ rfl; (with_reducible repeat (first | refine blk_drewN ?_ _ | refine blk_drew ?_ | refine blk_alloc ?_ _)); refine blk_put (cs := #[.int .i64 t101, .int .i64 t102, .int .i64 t103, .int .i64 t104, .int .i64 t105, .int .i64 t106, .int .i64 0, .int .i64 0, .int .i64 0, .int .i64 0, .int .i64 0, .int .i64 0, .int .i64 0, .int .i64 0, .int .i64 0]) ?_ 6 _ rfl; (with_reducible repeat (first | refine blk_drewN ?_ _ | refine blk_drew ?_ | refine blk_alloc ?_ _)); refine blk_put (cs := #[.int .i64 t101, .int .i64 t102, .int .i64 t103, .int .i64 t104, .int .i64 t105, .int .i64 0, .int .i64 0, .int .i64 0, .int .i64 0, .int .i64 0, .int .i64 0, .int .i64 0, .int .i64 0, .int .i64 0, .int .i64 0]) ?_ 5 _ rfl; (with_reducible repeat (first | refine blk_drewN ?_ _ | refine blk_drew ?_ | refine blk_alloc ?_ _)); refine blk_put (cs := #[.int .i64 t101, .int .i64 t102, .int .i64 t103, .int .i64 t104, .int .i64 0, .int .i64 0, .int .i64 0, .int .i64 0, .int .i64 0, .int .i64 0, .int .i64 0, .int .i64 0, .int .i64 0, .int .i64 0, .int .i64 0]) ?_ 4 _ rfl; (with_reducible repeat (first | refine blk_drewN ?_ _ | refine blk_drew ?_ | refine blk_alloc ?_ _)); refine blk_put (cs := #[.int .i64 t101, .int .i64 t102, .int .i64 t103, .int .i64 0, .int .i64 0, .int .i64 0, .int .i64 0, .int .i64 0, .int .i64 0, .int .i64 0, .int .i64 0, .int .i64 0, .int .i64 0, .int .i64 0, .int .i64 0]) ?_ 3 _ rfl; (with_reducible repeat (first | refine blk_drewN ?_ _ | refine blk_drew ?_ | refine blk_alloc ?_ _)); refine blk_put (cs := #[.int .i64 t101, .int .i64 t102, .int .i64 0, .int .i64 0, .int .i64 0, .int .i64 0, .int .i64 0, .int .i64 0, .int .i64 0, .int .i64 0, .int .i64 0, .int .i64 0, .int .i64 0, .int .i64 0, .int .i64 0]) ?_ 2 _ rfl; (with_reducible repeat (first | refine blk_drewN ?_ _ | refine blk_drew ?_ | refine blk_alloc ?_ _)); refine blk_put (cs := #[.int .i64 t101, .int .i64 0, .int .i64 0, .int .i64 0, .int .i64 0, .int .i64 0, .int .i64 0, .int .i64 0, .int .i64 0, .int .i64 0, .int .i64 0, .int .i64 0, .int .i64 0, .int .i64 0, .int .i64 0]) ?_ 1 _ rfl; (with_reducible repeat (first | refine blk_drewN ?_ _ | refine blk_drew ?_ | refine blk_alloc ?_ _)); refine blk_put (cs := #[.int .i64 0, .int .i64 0, .int .i64 0, .int .i64 0, .int .i64 0, .int .i64 0, .int .i64 0, .int .i64 0, .int .i64 0, .int .i64 0, .int .i64 0, .int .i64 0, .int .i64 0, .int .i64 0, .int .i64 0]) ?_ 0 _ rfl; (with_reducible repeat (first | refine blk_drewN ?_ _ | refine blk_drew ?_ | refine blk_alloc ?_ _)); exact BK117.out⟩, ⟨by repeat (first | (with_reducible first | exact HB.out | apply below_alloc | apply pw_below_drewN | apply below_drew1 | refine below_set ?_ GE117.out) | exact HB.out)⟩⟩
  case rest =>
    clear HC3
    try clear c1
    try clear p2
    try clear c7
    try clear c7b0
    try clear c7b1
    try clear c8
    try clear hcz6_0
    try clear hcz6_1
    try clear hcz6_10
    try clear hcz6_11
    try clear hcz6_12
    try clear hcz6_13
    try clear hcz6_14
    try clear hcz6_2
    try clear hcz6_3
    try clear hcz6_4
    try clear hcz6_5
    try clear hcz6_6
    try clear hcz6_7
    try clear hcz6_8
    try clear hcz6_9
    try clear hfz6_0
    try clear hfz6_1
    try clear hfz6_10
    try clear hfz6_11
    try clear hfz6_12
    try clear hfz6_13
    try clear hfz6_14
    try clear hfz6_2
    try clear hfz6_3
    try clear hfz6_4
    try clear hfz6_5
    try clear hfz6_6
    try clear hfz6_7
    try clear hfz6_8
    try clear hfz6_9
    obtain ⟨kq, x26_2, rfl, HA, HJ2, BK117, HB⟩ := hcut
    cases kq with
    | zero => exact absurd HA.out (by simp [pacemakerlaw10_SlopeWithin.j0])
    | succ kj2 =>
      have H := HA.out
      clear HA
      simp only [pacemakerlaw10_SlopeWithin.j0] at H
      by_cases c9 : x26_2 = true
      · subst c9
        have H1 : ((pacemakerlaw10_fitted.f kj2).bind fun t118 => (some t118)) = some r := by rw [if_pos rfl] at H; exact H
        clear H
        have H := H1
        clear H1
        replace H := Option.bind_eq_some_iff.mp H
        obtain ⟨t118, A100, H⟩ := H
        replace H : (some t118) = some r := H
        have A10 := Aside0.mk A100
        clear A100
        obtain rfl := Option.some.inj H
        go_wp2_with (first | ((with_reducible refine gate_callee (f := 9) rfl ?_); refine goesL_ (some 27) rfl rfl Try.func9 (by kernel_rfl) rfl #[] rfl (by (try simp only [List.map_toArray, List.map_cons, List.map_nil]); first | done | rfl | (simp only [List.length_drop, List.length_take]; rfl)) ?_; (with_reducible refine (pacemakerlaw10_fitted.calls kj2  t118 _ A10.out).mono ?_); rintro e w11 ⟨rfl, hb⟩; refine ⟨_, rfl, ?_⟩; have n0_ := Aside0.mk (blk_below (g := gb117) (o := .cells #[.int .i64 t101, .int .i64 t102, .int .i64 t103, .int .i64 t104, .int .i64 t105, .int .i64 t106, .int .i64 t107, .int .i64 t108, .int .i64 t109, .int .i64 t110, .int .i64 t111, .int .i64 t112, .int .i64 t113, .int .i64 t114, .int .i64 t115] 29 (0, 0)) (by (with_reducible repeat (first | refine blk_drewN ?_ _ | refine blk_drew ?_ | refine blk_alloc ?_ _)); exact BK117.out) hb); have n1_ := Aside0.mk (below_step (by repeat (first | (with_reducible first | exact HB.out | apply below_alloc | apply pw_below_drewN | apply below_drew1 | refine below_set ?_ GE117.out) | exact HB.out)) hb); clear BK117; clear HB; have BK117 := n0_; have HB := n1_; clear n0_ n1_; (try clear hb); (try clear hb2); (try clear hk); (try clear hi)))
        go_ret
        exact ⟨by first | rfl | (simp [errW_none, errW_some] <;> rfl) | (simp [*, errW_none, errW_some] <;> rfl), by repeat (first | (with_reducible first | exact HB.out | apply below_alloc | apply pw_below_drewN | apply below_drew1 | refine below_set ?_ GE117.out) | exact HB.out)⟩
      · replace c9 := Bool.eq_false_iff.mpr c9
        subst c9
        have H1 : (if 0 < (l0.length : Int) then (pacemakerlaw10_SlopeWithin.l0 kj2 l0 ((rd_T36 l0 0).f1) ((rd_T36 l0 0).f1) 0 t101 t102 t103 t104 t105 t106 t107 t108 t109 t110 t111 t112 t113 t114 t115) else (none)) = some r := by rw [if_neg (show ¬ (false = true) by decide)] at H; exact H
        clear H
        have H := H1
        clear H1
        by_cases c12 : 0 < (l0.length : Int)
        · rw [if_pos c12] at H
          have c12b0 : decide (0 < (l0.length : Int)) = true := decide_eq_true c12
          have c12b1 : decide (0 < l0.length) = true := decide_eq_true (by omega)
          clear c12
          have H' := Aside0.mk H
          clear H
          have p119 : 0 ≤ (0 : Int) := (by omega)
          have q119 : 0 < (l0.length : Int) := of_decide_eq_true (by first | (with_reducible assumption) | assumption)
          obtain ⟨ad119, e119, hx119_0, hx119_1⟩ := at_T36 HR0.out 0 p119 q119
          cases e119
          have qi119 : (0 < l0.length) = True := eq_true (by omega)
          (try rw [show ((0 : Int)).toNat = 0 from rfl] at hx119_0)
          (try rw [show 0 * 2 = 0 from rfl] at hx119_0)
          (try rw [Addr.add_zero'] at hx119_0)
          (try rw [show ((0 : Int)).toNat = 0 from rfl] at hx119_1)
          (try rw [show 0 * 2 = 0 from rfl] at hx119_1)
          (try rw [Addr.add_zero'] at hx119_1)
          replace hx119_0 := (HB.out.cell (World.block_lt_of_cell? w _ hx119_0)).trans hx119_0
          replace hx119_1 := (HB.out.cell (World.block_lt_of_cell? w _ hx119_1)).trans hx119_1
          replace p119 := eq_true p119
          replace q119 := eq_true q119
          have p120 : 0 ≤ (0 : Int) := (by omega)
          have q120 : 0 < (l0.length : Int) := of_decide_eq_true (by first | (with_reducible assumption) | assumption)
          obtain ⟨ad120, e120, hx120_0, hx120_1⟩ := at_T36 HR0.out 0 p120 q120
          obtain rfl : ad119 = ad120 := (by injection e120)
          have qi120 : (0 < l0.length) = True := eq_true (by omega)
          (try rw [show ((0 : Int)).toNat = 0 from rfl] at hx120_0)
          (try rw [show 0 * 2 = 0 from rfl] at hx120_0)
          (try rw [Addr.add_zero'] at hx120_0)
          (try rw [show ((0 : Int)).toNat = 0 from rfl] at hx120_1)
          (try rw [show 0 * 2 = 0 from rfl] at hx120_1)
          (try rw [Addr.add_zero'] at hx120_1)
          replace hx120_0 := (HB.out.cell (World.block_lt_of_cell? w _ hx120_0)).trans hx120_0
          replace hx120_1 := (HB.out.cell (World.block_lt_of_cell? w _ hx120_1)).trans hx120_1
          replace p120 := eq_true p120
          replace q120 := eq_true q120
          go_wp2
          go_loopg [5, 6, 7] kj2 (fun kq v5 v6 v7 w' => ∃ (x5_2 : Int) (x6_2 : Int) (x7_2 : Int), v5 = .int .i64 x5_2 ∧ v6 = .int .i64 x6_2 ∧ v7 = .int .i64 x7_2 ∧ Aside0 (pacemakerlaw10_SlopeWithin.l0 kq l0 x5_2 x6_2 x7_2 t101 t102 t103 t104 t105 t106 t107 t108 t109 t110 t111 t112 t113 t114 t115 = some r) ∧ Aside0 (kq ≤ kj2) ∧ Aside0 (w'.heap[gb117]? = some (.cells #[.int .i64 t101, .int .i64 t102, .int .i64 t103, .int .i64 t104, .int .i64 t105, .int .i64 t106, .int .i64 t107, .int .i64 t108, .int .i64 t109, .int .i64 t110, .int .i64 t111, .int .i64 t112, .int .i64 t113, .int .i64 t114, .int .i64 t115] 29 (0, 0))) ∧ Aside0 (Below w.heap.size w w'))
          case atStart => exact ⟨((rd_T36 l0 0).f1), ((rd_T36 l0 0).f1), (0), (by first | rfl | (simp; done) | (simp [*]; done)), (by first | rfl | (simp; done) | (simp [*]; done)), (by first | rfl | (simp; done) | (simp [*]; done)), H', ⟨Nat.le_refl _⟩, ⟨by (with_reducible repeat (first | refine blk_drewN ?_ _ | refine blk_drew ?_ | refine blk_alloc ?_ _)); exact BK117.out⟩, ⟨by repeat (first | (with_reducible first | exact HB.out | apply below_alloc | apply pw_below_drewN | apply below_drew1 | refine below_set ?_ GE117.out) | exact HB.out)⟩⟩
          case round =>
            clear H'
            try clear c1
            try clear p1
            try clear q1
            try clear hx1
            try clear qi1
            try clear p2
            try clear c7
            try clear c7b0
            try clear c7b1
            try clear c8
            try clear c9
            try clear p11
            try clear q11
            try clear hx11
            try clear qi11
            try clear c12
            try clear c12b0
            try clear c12b1
            try clear p12
            try clear q12
            try clear hx12
            try clear qi12
            try clear hcz6_0
            try clear hcz6_1
            try clear hcz6_10
            try clear hcz6_11
            try clear hcz6_12
            try clear hcz6_13
            try clear hcz6_14
            try clear hcz6_2
            try clear hcz6_3
            try clear hcz6_4
            try clear hcz6_5
            try clear hcz6_6
            try clear hcz6_7
            try clear hcz6_8
            try clear hcz6_9
            try clear hfz6_0
            try clear hfz6_1
            try clear hfz6_10
            try clear hfz6_11
            try clear hfz6_12
            try clear hfz6_13
            try clear hfz6_14
            try clear hfz6_2
            try clear hfz6_3
            try clear hfz6_4
            try clear hfz6_5
            try clear hfz6_6
            try clear hfz6_7
            try clear hfz6_8
            try clear hfz6_9
            try clear hx119_0
            try clear hx119_1
            try clear hx120_0
            try clear hx120_1
            try clear p119
            try clear p120
            try clear p2
            try clear q119
            try clear q120
            obtain ⟨x5_2, x6_2, x7_2, rfl, rfl, rfl, HA, HK2, BK117, HB⟩ := hrel
            cases gk with
            | zero => exact absurd HA.out (by simp [pacemakerlaw10_SlopeWithin.l0])
            | succ k2 =>
              have H := HA.out
              clear HA
              simp only [pacemakerlaw10_SlopeWithin.l0] at H
              by_cases c13 : x7_2 < (l0.length : Int)
              · rw [if_pos c13] at H
                have c13b0 : decide (x7_2 < (l0.length : Int)) = true := decide_eq_true c13
                clear c13
                by_cases c14 : 0 ≤ x7_2
                · rw [if_pos c14] at H
                  have c14b0 : decide (0 ≤ x7_2) = true := decide_eq_true c14
                  clear c14
                  obtain ⟨ji15, hji15⟩ : ∃ j_ : Int, (mn x5_2 ((rd_T36 l0 x7_2).f1)) = j_ := ⟨_, rfl⟩
                  replace H : (pacemakerlaw10_SlopeWithin.l0 k2 l0 ji15 (mx x6_2 ((rd_T36 l0 x7_2).f1)) (wrap64 (x7_2 + 1)) t101 t102 t103 t104 t105 t106 t107 t108 t109 t110 t111 t112 t113 t114 t115) = some r := by first | (rw [hji15] at H; exact H) | (simp only [hji15] at H ⊢; exact H)
                  have hji15_ : (if ((rd_T36 l0 x7_2).f1) < x5_2 then ((rd_T36 l0 x7_2).f1) else x5_2) = ji15 := hji15
                  obtain ⟨ji16, hji16⟩ : ∃ j_ : Int, (mx x6_2 ((rd_T36 l0 x7_2).f1)) = j_ := ⟨_, rfl⟩
                  replace H : (pacemakerlaw10_SlopeWithin.l0 k2 l0 ji15 ji16 (wrap64 (x7_2 + 1)) t101 t102 t103 t104 t105 t106 t107 t108 t109 t110 t111 t112 t113 t114 t115) = some r := by first | (rw [hji16] at H; exact H) | (simp only [hji16] at H ⊢; exact H)
                  have hji16_ : (if x6_2 < ((rd_T36 l0 x7_2).f1) then ((rd_T36 l0 x7_2).f1) else x6_2) = ji16 := hji16
                  have H' := Aside0.mk H
                  clear H
                  have p121 : 0 ≤ (x7_2 : Int) := of_decide_eq_true (by first | (with_reducible assumption) | assumption)
                  have q121 : x7_2 < (l0.length : Int) := of_decide_eq_true (by first | (with_reducible assumption) | assumption)
                  obtain ⟨ad121, e121, hx121_0, hx121_1⟩ := at_T36 HR0.out x7_2 p121 q121
                  obtain rfl : ad119 = ad121 := (by injection e121)
                  replace hx121_0 := (HB.out.cell (World.block_lt_of_cell? w _ hx121_0)).trans hx121_0
                  replace hx121_1 := (HB.out.cell (World.block_lt_of_cell? w _ hx121_1)).trans hx121_1
                  replace p121 := eq_true p121
                  replace q121 := eq_true q121
                  have p122 : 0 ≤ (x7_2 : Int) := of_decide_eq_true (by first | (with_reducible assumption) | assumption)
                  have q122 : x7_2 < (l0.length : Int) := of_decide_eq_true (by first | (with_reducible assumption) | assumption)
                  obtain ⟨ad122, e122, hx122_0, hx122_1⟩ := at_T36 HR0.out x7_2 p122 q122
                  obtain rfl : ad119 = ad122 := (by injection e122)
                  replace hx122_0 := (HB.out.cell (World.block_lt_of_cell? w _ hx122_0)).trans hx122_0
                  replace hx122_1 := (HB.out.cell (World.block_lt_of_cell? w _ hx122_1)).trans hx122_1
                  replace p122 := eq_true p122
                  replace q122 := eq_true q122
                  go_wp2
                  go_roundg k2
                  case measure => have := HJ2.out; have := HK2.out; omega
                  case rel => exact ⟨(ji15), (ji16), (wrap64 (x7_2 + 1)), (by first | rfl | (simp; done) | (simp only [← hji15] <;> (first | rfl | simp)) | (simp [*]; done)), (by first | rfl | (simp; done) | (simp only [← hji16] <;> (first | rfl | simp)) | (simp [*]; done)), (by first | rfl | (simp; done) | (simp [*]; done)), H', ⟨by have := HJ2.out; have := HK2.out; omega⟩, ⟨by (with_reducible repeat (first | refine blk_drewN ?_ _ | refine blk_drew ?_ | refine blk_alloc ?_ _)); exact BK117.out⟩, ⟨by repeat (first | (with_reducible first | exact HB.out | apply below_alloc | apply pw_below_drewN | apply below_drew1 | refine below_set ?_ GE117.out) | exact HB.out)⟩⟩
                · rw [if_neg c14] at H
                  exact absurd H (by simp)
              · rw [if_neg c13] at H
                have c13b0 : decide (x7_2 < (l0.length : Int)) = false := decide_eq_false c13
                clear c13
                replace H := Option.bind_eq_some_iff.mp H
                obtain ⟨t123, A170, H⟩ := H
                replace H : ((slope_Dev.f k2 t101 t102 t103 t104 t105 t106 t107 t108 t109 t110 t111 t112 t113 t114 t115).bind fun t124 => ((pacemakerlaw10_fitted.f k2).bind fun t125 => (if t125 = true then ((fix_Of.f x5_2).bind fun t126 => (if t123 ≥ t126 then ((fix_Of.f x6_2).bind fun t127 => (if t123 ≤ t127 then (if t124 ≥ 0 then ((fix_Of.f (wrap64 (x6_2 - x5_2))).bind fun t128 => (some (decide (t124 ≤ t128)))) else (none)) else (none))) else (none))) else (none)))) = some r := H
                have A17 := Aside0.mk A170
                clear A170
                replace H := Option.bind_eq_some_iff.mp H
                obtain ⟨t124, A180, H⟩ := H
                replace H : ((pacemakerlaw10_fitted.f k2).bind fun t125 => (if t125 = true then ((fix_Of.f x5_2).bind fun t126 => (if t123 ≥ t126 then ((fix_Of.f x6_2).bind fun t127 => (if t123 ≤ t127 then (if t124 ≥ 0 then ((fix_Of.f (wrap64 (x6_2 - x5_2))).bind fun t128 => (some (decide (t124 ≤ t128)))) else (none)) else (none))) else (none))) else (none))) = some r := H
                have A18 := Aside0.mk A180
                clear A180
                replace H := Option.bind_eq_some_iff.mp H
                obtain ⟨t125, A190, H⟩ := H
                replace H : (if t125 = true then ((fix_Of.f x5_2).bind fun t126 => (if t123 ≥ t126 then ((fix_Of.f x6_2).bind fun t127 => (if t123 ≤ t127 then (if t124 ≥ 0 then ((fix_Of.f (wrap64 (x6_2 - x5_2))).bind fun t128 => (some (decide (t124 ≤ t128)))) else (none)) else (none))) else (none))) else (none)) = some r := H
                have A19 := Aside0.mk A190
                clear A190
                by_cases c20 : t125 = true
                · subst c20
                  have H1 : ((fix_Of.f x5_2).bind fun t126 => (if t123 ≥ t126 then ((fix_Of.f x6_2).bind fun t127 => (if t123 ≤ t127 then (if t124 ≥ 0 then ((fix_Of.f (wrap64 (x6_2 - x5_2))).bind fun t128 => (some (decide (t124 ≤ t128)))) else (none)) else (none))) else (none))) = some r := by rw [if_pos rfl] at H; exact H
                  clear H
                  have H := H1
                  clear H1
                  replace H := Option.bind_eq_some_iff.mp H
                  obtain ⟨t126, A210, H⟩ := H
                  replace H : (if t123 ≥ t126 then ((fix_Of.f x6_2).bind fun t127 => (if t123 ≤ t127 then (if t124 ≥ 0 then ((fix_Of.f (wrap64 (x6_2 - x5_2))).bind fun t128 => (some (decide (t124 ≤ t128)))) else (none)) else (none))) else (none)) = some r := H
                  have A21 := Aside0.mk A210
                  clear A210
                  by_cases c22 : t123 ≥ t126
                  · rw [if_pos c22] at H
                    have c22b0 : decide (t126 ≤ t123) = true := decide_eq_true c22
                    clear c22
                    replace H := Option.bind_eq_some_iff.mp H
                    obtain ⟨t127, A230, H⟩ := H
                    replace H : (if t123 ≤ t127 then (if t124 ≥ 0 then ((fix_Of.f (wrap64 (x6_2 - x5_2))).bind fun t128 => (some (decide (t124 ≤ t128)))) else (none)) else (none)) = some r := H
                    have A23 := Aside0.mk A230
                    clear A230
                    by_cases c24 : t123 ≤ t127
                    · rw [if_pos c24] at H
                      have c24b0 : decide (t123 ≤ t127) = true := decide_eq_true c24
                      clear c24
                      by_cases c25 : t124 ≥ 0
                      · rw [if_pos c25] at H
                        have c25b0 : decide (0 ≤ t124) = true := decide_eq_true c25
                        clear c25
                        replace H := Option.bind_eq_some_iff.mp H
                        obtain ⟨t128, A260, H⟩ := H
                        replace H : (some (decide (t124 ≤ t128))) = some r := H
                        have A26 := Aside0.mk A260
                        clear A260
                        obtain rfl := Option.some.inj H
                        have hcz27_0 : wr.cell? ⟨gb117, 0, none⟩ = some (.int .i64 t101) := (blk_cell BK117.out 0).trans rfl
                        have hcz27_1 : wr.cell? ⟨gb117, 1, none⟩ = some (.int .i64 t102) := (blk_cell BK117.out 1).trans rfl
                        have hcz27_2 : wr.cell? ⟨gb117, 2, none⟩ = some (.int .i64 t103) := (blk_cell BK117.out 2).trans rfl
                        have hcz27_3 : wr.cell? ⟨gb117, 3, none⟩ = some (.int .i64 t104) := (blk_cell BK117.out 3).trans rfl
                        have hcz27_4 : wr.cell? ⟨gb117, 4, none⟩ = some (.int .i64 t105) := (blk_cell BK117.out 4).trans rfl
                        have hcz27_5 : wr.cell? ⟨gb117, 5, none⟩ = some (.int .i64 t106) := (blk_cell BK117.out 5).trans rfl
                        have hcz27_6 : wr.cell? ⟨gb117, 6, none⟩ = some (.int .i64 t107) := (blk_cell BK117.out 6).trans rfl
                        have hcz27_7 : wr.cell? ⟨gb117, 7, none⟩ = some (.int .i64 t108) := (blk_cell BK117.out 7).trans rfl
                        have hcz27_8 : wr.cell? ⟨gb117, 8, none⟩ = some (.int .i64 t109) := (blk_cell BK117.out 8).trans rfl
                        have hcz27_9 : wr.cell? ⟨gb117, 9, none⟩ = some (.int .i64 t110) := (blk_cell BK117.out 9).trans rfl
                        have hcz27_10 : wr.cell? ⟨gb117, 10, none⟩ = some (.int .i64 t111) := (blk_cell BK117.out 10).trans rfl
                        have hcz27_11 : wr.cell? ⟨gb117, 11, none⟩ = some (.int .i64 t112) := (blk_cell BK117.out 11).trans rfl
                        have hcz27_12 : wr.cell? ⟨gb117, 12, none⟩ = some (.int .i64 t113) := (blk_cell BK117.out 12).trans rfl
                        have hcz27_13 : wr.cell? ⟨gb117, 13, none⟩ = some (.int .i64 t114) := (blk_cell BK117.out 13).trans rfl
                        have hcz27_14 : wr.cell? ⟨gb117, 14, none⟩ = some (.int .i64 t115) := (blk_cell BK117.out 14).trans rfl
                        have hfz27_0 := blk_frozen BK117.out 0
                        have hfz27_1 := blk_frozen BK117.out 1
                        have hfz27_2 := blk_frozen BK117.out 2
                        have hfz27_3 := blk_frozen BK117.out 3
                        have hfz27_4 := blk_frozen BK117.out 4
                        have hfz27_5 := blk_frozen BK117.out 5
                        have hfz27_6 := blk_frozen BK117.out 6
                        have hfz27_7 := blk_frozen BK117.out 7
                        have hfz27_8 := blk_frozen BK117.out 8
                        have hfz27_9 := blk_frozen BK117.out 9
                        have hfz27_10 := blk_frozen BK117.out 10
                        have hfz27_11 := blk_frozen BK117.out 11
                        have hfz27_12 := blk_frozen BK117.out 12
                        have hfz27_13 := blk_frozen BK117.out 13
                        have hfz27_14 := blk_frozen BK117.out 14
                        go_wp2_with (first | ((with_reducible refine gate_callee (f := 12) rfl ?_); refine goesL_ (some 57) rfl rfl Try.func12 (by kernel_rfl) rfl #[.agg #[.int .i64 t101, .int .i64 t102, .int .i64 t103, .int .i64 t104, .int .i64 t105, .int .i64 t106, .int .i64 t107, .int .i64 t108, .int .i64 t109, .int .i64 t110, .int .i64 t111, .int .i64 t112, .int .i64 t113, .int .i64 t114, .int .i64 t115]] rfl (by (try simp only [List.map_toArray, List.map_cons, List.map_nil]); first | done | rfl | (simp only [List.length_drop, List.length_take]; rfl)) ?_; (with_reducible refine (slope_Mean.calls t101 t102 t103 t104 t105 t106 t107 t108 t109 t110 t111 t112 t113 t114 t115 t123 _ A17.out).mono ?_); rintro e w28 ⟨rfl, hb⟩; refine ⟨_, rfl, ?_⟩; have n0_ := Aside0.mk (blk_below (g := gb117) (o := .cells #[.int .i64 t101, .int .i64 t102, .int .i64 t103, .int .i64 t104, .int .i64 t105, .int .i64 t106, .int .i64 t107, .int .i64 t108, .int .i64 t109, .int .i64 t110, .int .i64 t111, .int .i64 t112, .int .i64 t113, .int .i64 t114, .int .i64 t115] 29 (0, 0)) (by (with_reducible repeat (first | refine blk_drewN ?_ _ | refine blk_drew ?_ | refine blk_alloc ?_ _)); exact BK117.out) hb); have n1_ := Aside0.mk (below_step (by repeat (first | (with_reducible first | exact HB.out | apply below_alloc | apply pw_below_drewN | apply below_drew1 | refine below_set ?_ GE117.out) | exact HB.out)) hb); clear BK117; clear HB; have BK117 := n0_; have HB := n1_; clear n0_ n1_; (try clear hb); (try clear hb2); (try clear hk); (try clear hi); have hcz29_0 : w28.cell? ⟨gb117, 0, none⟩ = some (.int .i64 t101) := (blk_cell BK117.out 0).trans rfl; have hcz29_1 : w28.cell? ⟨gb117, 1, none⟩ = some (.int .i64 t102) := (blk_cell BK117.out 1).trans rfl; have hcz29_2 : w28.cell? ⟨gb117, 2, none⟩ = some (.int .i64 t103) := (blk_cell BK117.out 2).trans rfl; have hcz29_3 : w28.cell? ⟨gb117, 3, none⟩ = some (.int .i64 t104) := (blk_cell BK117.out 3).trans rfl; have hcz29_4 : w28.cell? ⟨gb117, 4, none⟩ = some (.int .i64 t105) := (blk_cell BK117.out 4).trans rfl; have hcz29_5 : w28.cell? ⟨gb117, 5, none⟩ = some (.int .i64 t106) := (blk_cell BK117.out 5).trans rfl; have hcz29_6 : w28.cell? ⟨gb117, 6, none⟩ = some (.int .i64 t107) := (blk_cell BK117.out 6).trans rfl; have hcz29_7 : w28.cell? ⟨gb117, 7, none⟩ = some (.int .i64 t108) := (blk_cell BK117.out 7).trans rfl; have hcz29_8 : w28.cell? ⟨gb117, 8, none⟩ = some (.int .i64 t109) := (blk_cell BK117.out 8).trans rfl; have hcz29_9 : w28.cell? ⟨gb117, 9, none⟩ = some (.int .i64 t110) := (blk_cell BK117.out 9).trans rfl; have hcz29_10 : w28.cell? ⟨gb117, 10, none⟩ = some (.int .i64 t111) := (blk_cell BK117.out 10).trans rfl; have hcz29_11 : w28.cell? ⟨gb117, 11, none⟩ = some (.int .i64 t112) := (blk_cell BK117.out 11).trans rfl; have hcz29_12 : w28.cell? ⟨gb117, 12, none⟩ = some (.int .i64 t113) := (blk_cell BK117.out 12).trans rfl; have hcz29_13 : w28.cell? ⟨gb117, 13, none⟩ = some (.int .i64 t114) := (blk_cell BK117.out 13).trans rfl; have hcz29_14 : w28.cell? ⟨gb117, 14, none⟩ = some (.int .i64 t115) := (blk_cell BK117.out 14).trans rfl; have hfz29_0 := blk_frozen BK117.out 0; have hfz29_1 := blk_frozen BK117.out 1; have hfz29_2 := blk_frozen BK117.out 2; have hfz29_3 := blk_frozen BK117.out 3; have hfz29_4 := blk_frozen BK117.out 4; have hfz29_5 := blk_frozen BK117.out 5; have hfz29_6 := blk_frozen BK117.out 6; have hfz29_7 := blk_frozen BK117.out 7; have hfz29_8 := blk_frozen BK117.out 8; have hfz29_9 := blk_frozen BK117.out 9; have hfz29_10 := blk_frozen BK117.out 10; have hfz29_11 := blk_frozen BK117.out 11; have hfz29_12 := blk_frozen BK117.out 12; have hfz29_13 := blk_frozen BK117.out 13; have hfz29_14 := blk_frozen BK117.out 14) | ((with_reducible refine gate_callee (f := 14) rfl ?_); refine goesL_ (some 59) rfl rfl Try.func14 (by kernel_rfl) rfl #[.agg #[.int .i64 t101, .int .i64 t102, .int .i64 t103, .int .i64 t104, .int .i64 t105, .int .i64 t106, .int .i64 t107, .int .i64 t108, .int .i64 t109, .int .i64 t110, .int .i64 t111, .int .i64 t112, .int .i64 t113, .int .i64 t114, .int .i64 t115]] rfl (by (try simp only [List.map_toArray, List.map_cons, List.map_nil]); first | done | rfl | (simp only [List.length_drop, List.length_take]; rfl)) ?_; (with_reducible refine (slope_Dev.calls k2 t101 t102 t103 t104 t105 t106 t107 t108 t109 t110 t111 t112 t113 t114 t115 t124 _ A18.out).mono ?_); rintro e w30 ⟨rfl, hb⟩; refine ⟨_, rfl, ?_⟩; have n0_ := Aside0.mk (blk_below (g := gb117) (o := .cells #[.int .i64 t101, .int .i64 t102, .int .i64 t103, .int .i64 t104, .int .i64 t105, .int .i64 t106, .int .i64 t107, .int .i64 t108, .int .i64 t109, .int .i64 t110, .int .i64 t111, .int .i64 t112, .int .i64 t113, .int .i64 t114, .int .i64 t115] 29 (0, 0)) (by (with_reducible repeat (first | refine blk_drewN ?_ _ | refine blk_drew ?_ | refine blk_alloc ?_ _)); exact BK117.out) hb); have n1_ := Aside0.mk (below_step (by repeat (first | (with_reducible first | exact HB.out | apply below_alloc | apply pw_below_drewN | apply below_drew1 | refine below_set ?_ GE117.out) | exact HB.out)) hb); clear BK117; clear HB; have BK117 := n0_; have HB := n1_; clear n0_ n1_; (try clear hb); (try clear hb2); (try clear hk); (try clear hi)) | ((with_reducible refine gate_callee (f := 9) rfl ?_); refine goesL_ (some 60) rfl rfl Try.func9 (by kernel_rfl) rfl #[] rfl (by (try simp only [List.map_toArray, List.map_cons, List.map_nil]); first | done | rfl | (simp only [List.length_drop, List.length_take]; rfl)) ?_; (with_reducible refine (pacemakerlaw10_fitted.calls k2  true _ A19.out).mono ?_); rintro e w31 ⟨rfl, hb⟩; refine ⟨_, rfl, ?_⟩; have n0_ := Aside0.mk (blk_below (g := gb117) (o := .cells #[.int .i64 t101, .int .i64 t102, .int .i64 t103, .int .i64 t104, .int .i64 t105, .int .i64 t106, .int .i64 t107, .int .i64 t108, .int .i64 t109, .int .i64 t110, .int .i64 t111, .int .i64 t112, .int .i64 t113, .int .i64 t114, .int .i64 t115] 29 (0, 0)) (by (with_reducible repeat (first | refine blk_drewN ?_ _ | refine blk_drew ?_ | refine blk_alloc ?_ _)); exact BK117.out) hb); have n1_ := Aside0.mk (below_step (by repeat (first | (with_reducible first | exact HB.out | apply below_alloc | apply pw_below_drewN | apply below_drew1 | refine below_set ?_ GE117.out) | exact HB.out)) hb); clear BK117; clear HB; have BK117 := n0_; have HB := n1_; clear n0_ n1_; (try clear hb); (try clear hb2); (try clear hk); (try clear hi)) | (go_at_call 19; (with_reducible refine (fix_Of.calls x5_2 t126 _ A21.out).mono ?_); rintro e w32 ⟨rfl, hb⟩; have n0_ := Aside0.mk (blk_below (g := gb117) (o := .cells #[.int .i64 t101, .int .i64 t102, .int .i64 t103, .int .i64 t104, .int .i64 t105, .int .i64 t106, .int .i64 t107, .int .i64 t108, .int .i64 t109, .int .i64 t110, .int .i64 t111, .int .i64 t112, .int .i64 t113, .int .i64 t114, .int .i64 t115] 29 (0, 0)) (by (with_reducible repeat (first | refine blk_drewN ?_ _ | refine blk_drew ?_ | refine blk_alloc ?_ _)); exact BK117.out) hb); have n1_ := Aside0.mk (below_step (by repeat (first | (with_reducible first | exact HB.out | apply below_alloc | apply pw_below_drewN | apply below_drew1 | refine below_set ?_ GE117.out) | exact HB.out)) hb); clear BK117; clear HB; have BK117 := n0_; have HB := n1_; clear n0_ n1_; (try clear hb); (try clear hb2); (try clear hk); (try clear hi)) | (go_at_call 19; (with_reducible refine (fix_Of.calls x6_2 t127 _ A23.out).mono ?_); rintro e w33 ⟨rfl, hb⟩; have n0_ := Aside0.mk (blk_below (g := gb117) (o := .cells #[.int .i64 t101, .int .i64 t102, .int .i64 t103, .int .i64 t104, .int .i64 t105, .int .i64 t106, .int .i64 t107, .int .i64 t108, .int .i64 t109, .int .i64 t110, .int .i64 t111, .int .i64 t112, .int .i64 t113, .int .i64 t114, .int .i64 t115] 29 (0, 0)) (by (with_reducible repeat (first | refine blk_drewN ?_ _ | refine blk_drew ?_ | refine blk_alloc ?_ _)); exact BK117.out) hb); have n1_ := Aside0.mk (below_step (by repeat (first | (with_reducible first | exact HB.out | apply below_alloc | apply pw_below_drewN | apply below_drew1 | refine below_set ?_ GE117.out) | exact HB.out)) hb); clear BK117; clear HB; have BK117 := n0_; have HB := n1_; clear n0_ n1_; (try clear hb); (try clear hb2); (try clear hk); (try clear hi)) | (go_at_call 19; (with_reducible refine (fix_Of.calls (wrap64 (x6_2 - x5_2)) t128 _ A26.out).mono ?_); rintro e w34 ⟨rfl, hb⟩; have n0_ := Aside0.mk (blk_below (g := gb117) (o := .cells #[.int .i64 t101, .int .i64 t102, .int .i64 t103, .int .i64 t104, .int .i64 t105, .int .i64 t106, .int .i64 t107, .int .i64 t108, .int .i64 t109, .int .i64 t110, .int .i64 t111, .int .i64 t112, .int .i64 t113, .int .i64 t114, .int .i64 t115] 29 (0, 0)) (by (with_reducible repeat (first | refine blk_drewN ?_ _ | refine blk_drew ?_ | refine blk_alloc ?_ _)); exact BK117.out) hb); have n1_ := Aside0.mk (below_step (by repeat (first | (with_reducible first | exact HB.out | apply below_alloc | apply pw_below_drewN | apply below_drew1 | refine below_set ?_ GE117.out) | exact HB.out)) hb); clear BK117; clear HB; have BK117 := n0_; have HB := n1_; clear n0_ n1_; (try clear hb); (try clear hb2); (try clear hk); (try clear hi)))
                        go_ret
                        exact ⟨by first | rfl | (simp [errW_none, errW_some] <;> rfl) | (simp [*, errW_none, errW_some] <;> rfl), by repeat (first | (with_reducible first | exact HB.out | apply below_alloc | apply pw_below_drewN | apply below_drew1 | refine below_set ?_ GE117.out) | exact HB.out)⟩
                      · rw [if_neg c25] at H
                        exact absurd H (by simp)
                    · rw [if_neg c24] at H
                      exact absurd H (by simp)
                  · rw [if_neg c22] at H
                    exact absurd H (by simp)
                · replace c20 := Bool.eq_false_iff.mpr c20
                  subst c20
                  have H1 : (none) = some r := by rw [if_neg (show ¬ (false = true) by decide)] at H; exact H
                  clear H
                  have H := H1
                  clear H1
                  exact absurd H (by simp)
        · rw [if_neg c12] at H
          exact absurd H (by simp)

end Go.Proofs.Ytcmbogdilplmlaa.P
