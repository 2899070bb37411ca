-- Printed by a program of this session (wip/pp.py): functions,contracts,rows. Not trusted: Lean checks it.
import Derived.Test.YtcmbogdilplmlaaPx0
import Derived.Test.YtcmbogdilplmlaaPx7
import Derived.Test.YtcmbogdilplmlaaPx8
import Derived.Test.YtcmbogdilplmlaaPx11
import Derived.Test.YtcmbogdilplmlaaPx12
namespace Go.Proofs.Ytcmbogdilplmlaa.P
open Go.RowKit Go.Proofs.YtcmbogdilplmlaaW.PrintWords Go.Proofs.YtcmbogdilplmlaaW.PrintLast Go.Proofs.YtcmbogdilplmlaaW.PrintMore Go.Proofs.YtcmbogdilplmlaaX
attribute [local go_sem] max2_int min2_int max_two min_two max_three min_three max_four min_four   -- for this text's walks alone
set_option linter.unusedVariables false
set_option linter.unusedSimpArgs false

/-! ### pacemakerref10_Dev: function 15 -/
def pacemakerref10_Dev.j0 : Nat → Bool → Int → Int → Int → Int → Int → Int → Int → Int → Int → Int → Int → Int → Int → Int → Int → Option (Int)
 | 0,_,_,_,_,_,_,_,_,_,_,_,_,_,_,_,_ => none
 | k + 1,x12,x102000,x102001,x102002,x102003,x102004,x102005,x102006,x102007,x102008,x102009,x102010,x102011,x102012,x102013,x102014 => if x12 = true then (some 0) else ((pacemakerref10_product.f x102009 x102014).bind fun bt103 => ((pacemakerref10_product.f x102011 x102011).bind fun bt106 => ((pacemakerref10_less.f bt103.1 bt103.2 bt106.1 bt106.2).bind fun t109 => (if t109 = true then (some 0) else ((pacemakerref10_minus.f bt103.1 bt103.2 bt106.1 bt106.2).bind fun bt110 => ((pacemakerref03_SqrtWide.f k bt110.1 bt110.2).bind fun t112 => ((pacemakerref10_Ratio.f k 0 t112 0 (IntKind.u64.wrap (x102009))).bind fun t113 => (some t113))))))))
def pacemakerref10_Dev.f (k : Nat) (a0_0 : Int) (a0_1 : Int) (a0_2 : Int) (a0_3 : Int) (a0_4 : Int) (a0_5 : Int) (a0_6 : Int) (a0_7 : Int) (a0_8 : Int) (a0_9 : Int) (a0_10 : Int) (a0_11 : Int) (a0_12 : Int) (a0_13 : Int) (a0_14 : Int) : Option (Int) := (pacemakerref09_Is.f k a0_0 a0_1 a0_2 a0_3 a0_4 a0_5 a0_6 a0_7 a0_8 a0_9 a0_10 a0_11 a0_12 a0_13 a0_14).bind fun t102 => (if t102 = true then (pacemakerref10_Dev.j0 k (a0_9 == 0) a0_0 a0_1 a0_2 a0_3 a0_4 a0_5 a0_6 a0_7 a0_8 a0_9 a0_10 a0_11 a0_12 a0_13 a0_14) else (pacemakerref10_Dev.j0 k true a0_0 a0_1 a0_2 a0_3 a0_4 a0_5 a0_6 a0_7 a0_8 a0_9 a0_10 a0_11 a0_12 a0_13 a0_14))
def pacemakerref10_Dev.T7 : Bool × List (List Nat × List Nat) := (true,[([],[]),([],[]),([0,1],[0,1]),([2,2],[2]),([3],[3]),([],[]),([5],[5]),([6],[6]),([7],[7]),([4,8,3],[4,8]),([9,9,0,1,2,3,4,5,6,7,8,9],[9])])
def pacemakerref10_Dev.B7 : List Nat := [0,0,3,7,15,0,32,96,224,511,1023]
theorem pacemakerref10_Dev.tab7 : rtab .any (opsOf Try.f15 7) = pacemakerref10_Dev.T7 := by kernel_rfl
theorem pacemakerref10_Dev.bits7 : waitsOk pacemakerref10_Dev.T7.2 pacemakerref10_Dev.B7 = true := by kernel_rfl
set_option maxHeartbeats 8000000 in
set_option maxRecDepth 100000 in
theorem pacemakerref10_Dev.calls (k : Nat) (a0_0 : Int) (a0_1 : Int) (a0_2 : Int) (a0_3 : Int) (a0_4 : Int) (a0_5 : Int) (a0_6 : Int) (a0_7 : Int) (a0_8 : Int) (a0_9 : Int) (a0_10 : Int) (a0_11 : Int) (a0_12 : Int) (a0_13 : Int) (a0_14 : Int) (r : Int) (w : World) (h : pacemakerref10_Dev.f k a0_0 a0_1 a0_2 a0_3 a0_4 a0_5 a0_6 a0_7 a0_8 a0_9 a0_10 a0_11 a0_12 a0_13 a0_14 = some r) :
  Calls Try.prog 15 #[.agg #[.int .i64 a0_0,.int .i64 a0_1,.int .i64 a0_2,.int .i64 a0_3,.int .i64 a0_4,.int .i64 a0_5,.int .i64 a0_6,.int .i64 a0_7,.int .i64 a0_8,.int .i64 a0_9,.int .i64 a0_10,.int .i64 a0_11,.int .i64 a0_12,.int .i64 a0_13,.int .i64 a0_14]] w fun e w' => e = .returned (.int .i64 r) ∧ Below w.heap.size w w' := by
 have hu29 := Try.underlying29
 have hu24 := Try.underlying24
 have HB := Aside0.mk (Below.refl w.heap.size w)
 have H : ((pacemakerref09_Is.f k a0_0 a0_1 a0_2 a0_3 a0_4 a0_5 a0_6 a0_7 a0_8 a0_9 a0_10 a0_11 a0_12 a0_13 a0_14).bind fun t102 => (if t102 = true then (pacemakerref10_Dev.j0 k (a0_9 == 0) a0_0 a0_1 a0_2 a0_3 a0_4 a0_5 a0_6 a0_7 a0_8 a0_9 a0_10 a0_11 a0_12 a0_13 a0_14) else (pacemakerref10_Dev.j0 k true a0_0 a0_1 a0_2 a0_3 a0_4 a0_5 a0_6 a0_7 a0_8 a0_9 a0_10 a0_11 a0_12 a0_13 a0_14))) = some r := h
 clear h
 have HC2 := Aside0.mk H
 clear H
 go_enter Try.func15,Try.ntmps15
 go_upto_region 1 with (first | ((with_reducible refine gate_dst (N := 1) rfl ?_);refine box_event ?hg (N := 1) ?hd (cs := #[.int .i64 a0_0,.int .i64 a0_1,.int .i64 a0_2,.int .i64 a0_3,.int .i64 a0_4,.int .i64 a0_5,.int .i64 a0_6,.int .i64 a0_7,.int .i64 a0_8,.int .i64 a0_9,.int .i64 a0_10,.int .i64 a0_11,.int .i64 a0_12,.int .i64 a0_13,.int .i64 a0_14]) (t := 29) ?hr ?_;(case hd => rfl);(case hg => rfl);(case hr => first | (go_simp;done) | (go_simp;rfl));intro gb101 hg w3 hbox hb;have n0_ := Aside0.mk (below_step (by repeat (first | (with_reducible first | exact HB.out | apply below_alloc | apply pw_below_drewN | apply below_drew1) | exact HB.out)) hb);have n1_ := Aside0.mk (hbox);have n2_ := Aside0.mk ((by rw [hg];exact (below_size (by repeat (first | (with_reducible first | exact HB.out | apply below_alloc | apply pw_below_drewN | apply below_drew1) | exact HB.out))) : w.heap.size ≤ gb101));have n3_ := Aside0.mk ((by rw [hg];exact (below_size (by repeat (first | (with_reducible first | exact HB.out | apply below_alloc | apply pw_below_drewN | apply below_drew1) | exact HB.out))) : w.heap.size ≤ gb101));clear HB;have HB := n0_;have BK101 := n1_;have GW101 := n2_;have GE101 := n3_;clear n0_ n1_ n2_ n3_;clear hb hbox hg))
 (try simp only [Act.put,List.setIfInBounds_toArray,List.set_cons_zero,List.set_cons_succ])
 go_cut [12] (fun v12 wc => ∃ (kq : Nat) (x12_1 : Bool),v12 = .bool x12_1 ∧ Aside0 (pacemakerref10_Dev.j0 kq x12_1 a0_0 a0_1 a0_2 a0_3 a0_4 a0_5 a0_6 a0_7 a0_8 a0_9 a0_10 a0_11 a0_12 a0_13 a0_14 = some r) ∧ Aside0 (kq ≤ k) ∧ Aside0 (wc.heap[gb101]? = some (.cells #[.int .i64 a0_0,.int .i64 a0_1,.int .i64 a0_2,.int .i64 a0_3,.int .i64 a0_4,.int .i64 a0_5,.int .i64 a0_6,.int .i64 a0_7,.int .i64 a0_8,.int .i64 a0_9,.int .i64 a0_10,.int .i64 a0_11,.int .i64 a0_12,.int .i64 a0_13,.int .i64 a0_14] 29 (0,0))) ∧ Aside0 (Below w.heap.size w wc))
 case first =>
  have H := HC2.out
  clear HC2
  replace H := Option.bind_eq_some_iff.mp H
  obtain ⟨t102,A40,H⟩ := H
  replace H : (if t102 = true then (pacemakerref10_Dev.j0 k (a0_9 == 0) a0_0 a0_1 a0_2 a0_3 a0_4 a0_5 a0_6 a0_7 a0_8 a0_9 a0_10 a0_11 a0_12 a0_13 a0_14) else (pacemakerref10_Dev.j0 k true a0_0 a0_1 a0_2 a0_3 a0_4 a0_5 a0_6 a0_7 a0_8 a0_9 a0_10 a0_11 a0_12 a0_13 a0_14)) = some r := H
  have A4 := Aside0.mk A40
  clear A40
  by_cases c5 : t102 = true
  ·subst c5
   have H1 : (pacemakerref10_Dev.j0 k (a0_9 == 0) a0_0 a0_1 a0_2 a0_3 a0_4 a0_5 a0_6 a0_7 a0_8 a0_9 a0_10 a0_11 a0_12 a0_13 a0_14) = some r := by rw [if_pos rfl] at H;exact H
   clear H
   have H := H1
   clear H1
   have H' := Aside0.mk H
   clear H
   have hcz6_0 : w3.cell? ⟨gb101,0,none⟩ = some (.int .i64 a0_0) := (blk_cell BK101.out 0).trans rfl
   have hcz6_1 : w3.cell? ⟨gb101,1,none⟩ = some (.int .i64 a0_1) := (blk_cell BK101.out 1).trans rfl
   have hcz6_2 : w3.cell? ⟨gb101,2,none⟩ = some (.int .i64 a0_2) := (blk_cell BK101.out 2).trans rfl
   have hcz6_3 : w3.cell? ⟨gb101,3,none⟩ = some (.int .i64 a0_3) := (blk_cell BK101.out 3).trans rfl
   have hcz6_4 : w3.cell? ⟨gb101,4,none⟩ = some (.int .i64 a0_4) := (blk_cell BK101.out 4).trans rfl
   have hcz6_5 : w3.cell? ⟨gb101,5,none⟩ = some (.int .i64 a0_5) := (blk_cell BK101.out 5).trans rfl
   have hcz6_6 : w3.cell? ⟨gb101,6,none⟩ = some (.int .i64 a0_6) := (blk_cell BK101.out 6).trans rfl
   have hcz6_7 : w3.cell? ⟨gb101,7,none⟩ = some (.int .i64 a0_7) := (blk_cell BK101.out 7).trans rfl
   have hcz6_8 : w3.cell? ⟨gb101,8,none⟩ = some (.int .i64 a0_8) := (blk_cell BK101.out 8).trans rfl
   have hcz6_9 : w3.cell? ⟨gb101,9,none⟩ = some (.int .i64 a0_9) := (blk_cell BK101.out 9).trans rfl
   have hcz6_10 : w3.cell? ⟨gb101,10,none⟩ = some (.int .i64 a0_10) := (blk_cell BK101.out 10).trans rfl
   have hcz6_11 : w3.cell? ⟨gb101,11,none⟩ = some (.int .i64 a0_11) := (blk_cell BK101.out 11).trans rfl
   have hcz6_12 : w3.cell? ⟨gb101,12,none⟩ = some (.int .i64 a0_12) := (blk_cell BK101.out 12).trans rfl
   have hcz6_13 : w3.cell? ⟨gb101,13,none⟩ = some (.int .i64 a0_13) := (blk_cell BK101.out 13).trans rfl
   have hcz6_14 : w3.cell? ⟨gb101,14,none⟩ = some (.int .i64 a0_14) := (blk_cell BK101.out 14).trans rfl
   have hfz6_0 := blk_frozen BK101.out 0
   have hfz6_1 := blk_frozen BK101.out 1
   have hfz6_2 := blk_frozen BK101.out 2
   have hfz6_3 := blk_frozen BK101.out 3
   have hfz6_4 := blk_frozen BK101.out 4
   have hfz6_5 := blk_frozen BK101.out 5
   have hfz6_6 := blk_frozen BK101.out 6
   have hfz6_7 := blk_frozen BK101.out 7
   have hfz6_8 := blk_frozen BK101.out 8
   have hfz6_9 := blk_frozen BK101.out 9
   have hfz6_10 := blk_frozen BK101.out 10
   have hfz6_11 := blk_frozen BK101.out 11
   have hfz6_12 := blk_frozen BK101.out 12
   have hfz6_13 := blk_frozen BK101.out 13
   have hfz6_14 := blk_frozen BK101.out 14
   go_wp2_with (first | ((with_reducible refine gate_callee (f := 29) rfl ?_);refine goesL_ (some 6) rfl rfl Try.func29 (by kernel_rfl) rfl #[.agg #[.int .i64 a0_0,.int .i64 a0_1,.int .i64 a0_2,.int .i64 a0_3,.int .i64 a0_4,.int .i64 a0_5,.int .i64 a0_6,.int .i64 a0_7,.int .i64 a0_8,.int .i64 a0_9,.int .i64 a0_10,.int .i64 a0_11,.int .i64 a0_12,.int .i64 a0_13,.int .i64 a0_14]] rfl (by (try simp only [List.map_toArray,List.map_cons,List.map_nil]);first | done | rfl | (simp only [List.length_drop,List.length_take];rfl)) ?_;(with_reducible refine (pacemakerref09_Is.calls k a0_0 a0_1 a0_2 a0_3 a0_4 a0_5 a0_6 a0_7 a0_8 a0_9 a0_10 a0_11 a0_12 a0_13 a0_14 true _ A4.out).mono ?_);rintro e w7 ⟨rfl,hb⟩;refine ⟨_,rfl,?_⟩;have n0_ := Aside0.mk (blk_below (g := gb101) (o := .cells #[.int .i64 a0_0,.int .i64 a0_1,.int .i64 a0_2,.int .i64 a0_3,.int .i64 a0_4,.int .i64 a0_5,.int .i64 a0_6,.int .i64 a0_7,.int .i64 a0_8,.int .i64 a0_9,.int .i64 a0_10,.int .i64 a0_11,.int .i64 a0_12,.int .i64 a0_13,.int .i64 a0_14] 29 (0,0)) (by (with_reducible repeat (first | refine blk_drewN ?_ _ | refine blk_drew ?_ | refine blk_alloc ?_ _));exact BK101.out) hb);have n1_ := Aside0.mk (below_step (by repeat (first | (with_reducible first | exact HB.out | apply below_alloc | apply pw_below_drewN | apply below_drew1 | refine below_set ?_ GE101.out) | exact HB.out)) hb);clear BK101;clear HB;have BK101 := n0_;have HB := n1_;clear n0_ n1_;(try clear hb);(try clear hb2);(try clear hk);(try clear hi);have hcz8_0 : w7.cell? ⟨gb101,0,none⟩ = some (.int .i64 a0_0) := (blk_cell BK101.out 0).trans rfl;have hcz8_1 : w7.cell? ⟨gb101,1,none⟩ = some (.int .i64 a0_1) := (blk_cell BK101.out 1).trans rfl;have hcz8_2 : w7.cell? ⟨gb101,2,none⟩ = some (.int .i64 a0_2) := (blk_cell BK101.out 2).trans rfl;have hcz8_3 : w7.cell? ⟨gb101,3,none⟩ = some (.int .i64 a0_3) := (blk_cell BK101.out 3).trans rfl;have hcz8_4 : w7.cell? ⟨gb101,4,none⟩ = some (.int .i64 a0_4) := (blk_cell BK101.out 4).trans rfl;have hcz8_5 : w7.cell? ⟨gb101,5,none⟩ = some (.int .i64 a0_5) := (blk_cell BK101.out 5).trans rfl;have hcz8_6 : w7.cell? ⟨gb101,6,none⟩ = some (.int .i64 a0_6) := (blk_cell BK101.out 6).trans rfl;have hcz8_7 : w7.cell? ⟨gb101,7,none⟩ = some (.int .i64 a0_7) := (blk_cell BK101.out 7).trans rfl;have hcz8_8 : w7.cell? ⟨gb101,8,none⟩ = some (.int .i64 a0_8) := (blk_cell BK101.out 8).trans rfl;have hcz8_9 : w7.cell? ⟨gb101,9,none⟩ = some (.int .i64 a0_9) := (blk_cell BK101.out 9).trans rfl;have hcz8_10 : w7.cell? ⟨gb101,10,none⟩ = some (.int .i64 a0_10) := (blk_cell BK101.out 10).trans rfl;have hcz8_11 : w7.cell? ⟨gb101,11,none⟩ = some (.int .i64 a0_11) := (blk_cell BK101.out 11).trans rfl;have hcz8_12 : w7.cell? ⟨gb101,12,none⟩ = some (.int .i64 a0_12) := (blk_cell BK101.out 12).trans rfl;have hcz8_13 : w7.cell? ⟨gb101,13,none⟩ = some (.int .i64 a0_13) := (blk_cell BK101.out 13).trans rfl;have hcz8_14 : w7.cell? ⟨gb101,14,none⟩ = some (.int .i64 a0_14) := (blk_cell BK101.out 14).trans rfl;have hfz8_0 := blk_frozen BK101.out 0;have hfz8_1 := blk_frozen BK101.out 1;have hfz8_2 := blk_frozen BK101.out 2;have hfz8_3 := blk_frozen BK101.out 3;have hfz8_4 := blk_frozen BK101.out 4;have hfz8_5 := blk_frozen BK101.out 5;have hfz8_6 := blk_frozen BK101.out 6;have hfz8_7 := blk_frozen BK101.out 7;have hfz8_8 := blk_frozen BK101.out 8;have hfz8_9 := blk_frozen BK101.out 9;have hfz8_10 := blk_frozen BK101.out 10;have hfz8_11 := blk_frozen BK101.out 11;have hfz8_12 := blk_frozen BK101.out 12;have hfz8_13 := blk_frozen BK101.out 13;have hfz8_14 := blk_frozen BK101.out 14))
   go_meet
   case rel => exact ⟨_,((a0_9 == 0)),(by first | rfl | (simp;done) | (simp [*];done)),H',⟨by first | omega | exact Nat.le_refl _⟩,⟨by (with_reducible repeat (first | refine blk_drewN ?_ _ | refine blk_drew ?_ | refine blk_alloc ?_ _));exact BK101.out⟩,⟨by repeat (first | (with_reducible first | exact HB.out | apply below_alloc | apply pw_below_drewN | apply below_drew1 | refine below_set ?_ GE101.out) | exact HB.out)⟩⟩
  ·replace c5 := Bool.eq_false_iff.mpr c5
   subst c5
   have H1 : (pacemakerref10_Dev.j0 k true a0_0 a0_1 a0_2 a0_3 a0_4 a0_5 a0_6 a0_7 a0_8 a0_9 a0_10 a0_11 a0_12 a0_13 a0_14) = some r := by rw [if_neg (show ¬ (false = true) by decide)] at H;exact H
   clear H
   have H := H1
   clear H1
   have H' := Aside0.mk H
   clear H
   have hcz9_0 : w3.cell? ⟨gb101,0,none⟩ = some (.int .i64 a0_0) := (blk_cell BK101.out 0).trans rfl
   have hcz9_1 : w3.cell? ⟨gb101,1,none⟩ = some (.int .i64 a0_1) := (blk_cell BK101.out 1).trans rfl
   have hcz9_2 : w3.cell? ⟨gb101,2,none⟩ = some (.int .i64 a0_2) := (blk_cell BK101.out 2).trans rfl
   have hcz9_3 : w3.cell? ⟨gb101,3,none⟩ = some (.int .i64 a0_3) := (blk_cell BK101.out 3).trans rfl
   have hcz9_4 : w3.cell? ⟨gb101,4,none⟩ = some (.int .i64 a0_4) := (blk_cell BK101.out 4).trans rfl
   have hcz9_5 : w3.cell? ⟨gb101,5,none⟩ = some (.int .i64 a0_5) := (blk_cell BK101.out 5).trans rfl
   have hcz9_6 : w3.cell? ⟨gb101,6,none⟩ = some (.int .i64 a0_6) := (blk_cell BK101.out 6).trans rfl
   have hcz9_7 : w3.cell? ⟨gb101,7,none⟩ = some (.int .i64 a0_7) := (blk_cell BK101.out 7).trans rfl
   have hcz9_8 : w3.cell? ⟨gb101,8,none⟩ = some (.int .i64 a0_8) := (blk_cell BK101.out 8).trans rfl
   have hcz9_9 : w3.cell? ⟨gb101,9,none⟩ = some (.int .i64 a0_9) := (blk_cell BK101.out 9).trans rfl
   have hcz9_10 : w3.cell? ⟨gb101,10,none⟩ = some (.int .i64 a0_10) := (blk_cell BK101.out 10).trans rfl
   have hcz9_11 : w3.cell? ⟨gb101,11,none⟩ = some (.int .i64 a0_11) := (blk_cell BK101.out 11).trans rfl
   have hcz9_12 : w3.cell? ⟨gb101,12,none⟩ = some (.int .i64 a0_12) := (blk_cell BK101.out 12).trans rfl
   have hcz9_13 : w3.cell? ⟨gb101,13,none⟩ = some (.int .i64 a0_13) := (blk_cell BK101.out 13).trans rfl
   have hcz9_14 : w3.cell? ⟨gb101,14,none⟩ = some (.int .i64 a0_14) := (blk_cell BK101.out 14).trans rfl
   have hfz9_0 := blk_frozen BK101.out 0
   have hfz9_1 := blk_frozen BK101.out 1
   have hfz9_2 := blk_frozen BK101.out 2
   have hfz9_3 := blk_frozen BK101.out 3
   have hfz9_4 := blk_frozen BK101.out 4
   have hfz9_5 := blk_frozen BK101.out 5
   have hfz9_6 := blk_frozen BK101.out 6
   have hfz9_7 := blk_frozen BK101.out 7
   have hfz9_8 := blk_frozen BK101.out 8
   have hfz9_9 := blk_frozen BK101.out 9
   have hfz9_10 := blk_frozen BK101.out 10
   have hfz9_11 := blk_frozen BK101.out 11
   have hfz9_12 := blk_frozen BK101.out 12
   have hfz9_13 := blk_frozen BK101.out 13
   have hfz9_14 := blk_frozen BK101.out 14
   go_wp2_with (first | ((with_reducible refine gate_callee (f := 29) rfl ?_);refine goesL_ (some 6) rfl rfl Try.func29 (by kernel_rfl) rfl #[.agg #[.int .i64 a0_0,.int .i64 a0_1,.int .i64 a0_2,.int .i64 a0_3,.int .i64 a0_4,.int .i64 a0_5,.int .i64 a0_6,.int .i64 a0_7,.int .i64 a0_8,.int .i64 a0_9,.int .i64 a0_10,.int .i64 a0_11,.int .i64 a0_12,.int .i64 a0_13,.int .i64 a0_14]] rfl (by (try simp only [List.map_toArray,List.map_cons,List.map_nil]);first | done | rfl | (simp only [List.length_drop,List.length_take];rfl)) ?_;(with_reducible refine (pacemakerref09_Is.calls k a0_0 a0_1 a0_2 a0_3 a0_4 a0_5 a0_6 a0_7 a0_8 a0_9 a0_10 a0_11 a0_12 a0_13 a0_14 false _ A4.out).mono ?_);rintro e w10 ⟨rfl,hb⟩;refine ⟨_,rfl,?_⟩;have n0_ := Aside0.mk (blk_below (g := gb101) (o := .cells #[.int .i64 a0_0,.int .i64 a0_1,.int .i64 a0_2,.int .i64 a0_3,.int .i64 a0_4,.int .i64 a0_5,.int .i64 a0_6,.int .i64 a0_7,.int .i64 a0_8,.int .i64 a0_9,.int .i64 a0_10,.int .i64 a0_11,.int .i64 a0_12,.int .i64 a0_13,.int .i64 a0_14] 29 (0,0)) (by (with_reducible repeat (first | refine blk_drewN ?_ _ | refine blk_drew ?_ | refine blk_alloc ?_ _));exact BK101.out) hb);have n1_ := Aside0.mk (below_step (by repeat (first | (with_reducible first | exact HB.out | apply below_alloc | apply pw_below_drewN | apply below_drew1 | refine below_set ?_ GE101.out) | exact HB.out)) hb);clear BK101;clear HB;have BK101 := n0_;have HB := n1_;clear n0_ n1_;(try clear hb);(try clear hb2);(try clear hk);(try clear hi)))
   go_meet
   case rel => exact ⟨_,(true),(by first | rfl | (simp;done) | (simp [*];done)),H',⟨by first | omega | exact Nat.le_refl _⟩,⟨by (with_reducible repeat (first | refine blk_drewN ?_ _ | refine blk_drew ?_ | refine blk_alloc ?_ _));exact BK101.out⟩,⟨by repeat (first | (with_reducible first | exact HB.out | apply below_alloc | apply pw_below_drewN | apply below_drew1 | refine below_set ?_ GE101.out) | exact HB.out)⟩⟩
 case rest =>
  clear HC2
  try clear c1
  try clear c2
  try clear p2
  try clear c5
  try clear hcz6_0
  try clear hcz6_1
  try clear hcz6_10
  try clear hcz6_11
  try clear hcz6_12
  try clear hcz6_13
  try clear hcz6_14
  try clear hcz6_2
  try clear hcz6_3
  try clear hcz6_4
  try clear hcz6_5
  try clear hcz6_6
  try clear hcz6_7
  try clear hcz6_8
  try clear hcz6_9
  try clear hcz8_0
  try clear hcz8_1
  try clear hcz8_10
  try clear hcz8_11
  try clear hcz8_12
  try clear hcz8_13
  try clear hcz8_14
  try clear hcz8_2
  try clear hcz8_3
  try clear hcz8_4
  try clear hcz8_5
  try clear hcz8_6
  try clear hcz8_7
  try clear hcz8_8
  try clear hcz8_9
  try clear hcz9_0
  try clear hcz9_1
  try clear hcz9_10
  try clear hcz9_11
  try clear hcz9_12
  try clear hcz9_13
  try clear hcz9_14
  try clear hcz9_2
  try clear hcz9_3
  try clear hcz9_4
  try clear hcz9_5
  try clear hcz9_6
  try clear hcz9_7
  try clear hcz9_8
  try clear hcz9_9
  try clear hfz6_0
  try clear hfz6_1
  try clear hfz6_10
  try clear hfz6_11
  try clear hfz6_12
  try clear hfz6_13
  try clear hfz6_14
  try clear hfz6_2
  try clear hfz6_3
  try clear hfz6_4
  try clear hfz6_5
  try clear hfz6_6
  try clear hfz6_7
  try clear hfz6_8
  try clear hfz6_9
  try clear hfz8_0
  try clear hfz8_1
  try clear hfz8_10
  try clear hfz8_11
  try clear hfz8_12
  try clear hfz8_13
  try clear hfz8_14
  try clear hfz8_2
  try clear hfz8_3
  try clear hfz8_4
  try clear hfz8_5
  try clear hfz8_6
  try clear hfz8_7
  try clear hfz8_8
  try clear hfz8_9
  try clear hfz9_0
  try clear hfz9_1
  try clear hfz9_10
  try clear hfz9_11
  try clear hfz9_12
  try clear hfz9_13
  try clear hfz9_14
  try clear hfz9_2
  try clear hfz9_3
  try clear hfz9_4
  try clear hfz9_5
  try clear hfz9_6
  try clear hfz9_7
  try clear hfz9_8
  try clear hfz9_9
  obtain ⟨kq,x12_1,rfl,HA,HJ1,BK101,HB⟩ := hcut
  cases kq with
  | zero => exact absurd HA.out (by simp [pacemakerref10_Dev.j0])
  | succ kj1 =>
   have H := HA.out
   clear HA
   simp only [pacemakerref10_Dev.j0] at H
   by_cases c11 : x12_1 = true
   ·subst c11
    have H1 : (some 0) = some r := by rw [if_pos rfl] at H;exact H
    clear H
    have H := H1
    clear H1
    obtain rfl := Option.some.inj H
    go_wp2
    go_ret
    exact ⟨by first | rfl | (simp [errW_none,errW_some] <;> rfl) | (simp [*,errW_none,errW_some] <;> rfl),by repeat (first | (with_reducible first | exact HB.out | apply below_alloc | apply pw_below_drewN | apply below_drew1 | refine below_set ?_ GE101.out) | exact HB.out)⟩
   ·replace c11 := Bool.eq_false_iff.mpr c11
    subst c11
    have H1 : ((pacemakerref10_product.f a0_9 a0_14).bind fun bt103 => ((pacemakerref10_product.f a0_11 a0_11).bind fun bt106 => ((pacemakerref10_less.f bt103.1 bt103.2 bt106.1 bt106.2).bind fun t109 => (if t109 = true then (some 0) else ((pacemakerref10_minus.f bt103.1 bt103.2 bt106.1 bt106.2).bind fun bt110 => ((pacemakerref03_SqrtWide.f kj1 bt110.1 bt110.2).bind fun t112 => ((pacemakerref10_Ratio.f kj1 0 t112 0 (IntKind.u64.wrap (a0_9))).bind fun t113 => (some t113)))))))) = some r := by rw [if_neg (show ¬ (false = true) by decide)] at H;exact H
    clear H
    have H := H1
    clear H1
    replace H := Option.bind_eq_some_iff.mp H
    obtain ⟨⟨t103,t104⟩,A120,H⟩ := H
    replace H : ((pacemakerref10_product.f a0_11 a0_11).bind fun bt106 => ((pacemakerref10_less.f t103 t104 bt106.1 bt106.2).bind fun t109 => (if t109 = true then (some 0) else ((pacemakerref10_minus.f t103 t104 bt106.1 bt106.2).bind fun bt110 => ((pacemakerref03_SqrtWide.f kj1 bt110.1 bt110.2).bind fun t112 => ((pacemakerref10_Ratio.f kj1 0 t112 0 (IntKind.u64.wrap (a0_9))).bind fun t113 => (some t113))))))) = some r := H
    have A12 := Aside0.mk A120
    clear A120
    replace H := Option.bind_eq_some_iff.mp H
    obtain ⟨⟨t106,t107⟩,A130,H⟩ := H
    replace H : ((pacemakerref10_less.f t103 t104 t106 t107).bind fun t109 => (if t109 = true then (some 0) else ((pacemakerref10_minus.f t103 t104 t106 t107).bind fun bt110 => ((pacemakerref03_SqrtWide.f kj1 bt110.1 bt110.2).bind fun t112 => ((pacemakerref10_Ratio.f kj1 0 t112 0 (IntKind.u64.wrap (a0_9))).bind fun t113 => (some t113)))))) = some r := H
    have A13 := Aside0.mk A130
    clear A130
    replace H := Option.bind_eq_some_iff.mp H
    obtain ⟨t109,A140,H⟩ := H
    replace H : (if t109 = true then (some 0) else ((pacemakerref10_minus.f t103 t104 t106 t107).bind fun bt110 => ((pacemakerref03_SqrtWide.f kj1 bt110.1 bt110.2).bind fun t112 => ((pacemakerref10_Ratio.f kj1 0 t112 0 (IntKind.u64.wrap (a0_9))).bind fun t113 => (some t113))))) = some r := H
    have A14 := Aside0.mk A140
    clear A140
    by_cases c15 : t109 = true
    ·subst c15
     have H1 : (some 0) = some r := by rw [if_pos rfl] at H;exact H
     clear H
     have H := H1
     clear H1
     obtain rfl := Option.some.inj H
     have hcz16_0 : wc.cell? ⟨gb101,0,none⟩ = some (.int .i64 a0_0) := (blk_cell BK101.out 0).trans rfl
     have hcz16_1 : wc.cell? ⟨gb101,1,none⟩ = some (.int .i64 a0_1) := (blk_cell BK101.out 1).trans rfl
     have hcz16_2 : wc.cell? ⟨gb101,2,none⟩ = some (.int .i64 a0_2) := (blk_cell BK101.out 2).trans rfl
     have hcz16_3 : wc.cell? ⟨gb101,3,none⟩ = some (.int .i64 a0_3) := (blk_cell BK101.out 3).trans rfl
     have hcz16_4 : wc.cell? ⟨gb101,4,none⟩ = some (.int .i64 a0_4) := (blk_cell BK101.out 4).trans rfl
     have hcz16_5 : wc.cell? ⟨gb101,5,none⟩ = some (.int .i64 a0_5) := (blk_cell BK101.out 5).trans rfl
     have hcz16_6 : wc.cell? ⟨gb101,6,none⟩ = some (.int .i64 a0_6) := (blk_cell BK101.out 6).trans rfl
     have hcz16_7 : wc.cell? ⟨gb101,7,none⟩ = some (.int .i64 a0_7) := (blk_cell BK101.out 7).trans rfl
     have hcz16_8 : wc.cell? ⟨gb101,8,none⟩ = some (.int .i64 a0_8) := (blk_cell BK101.out 8).trans rfl
     have hcz16_9 : wc.cell? ⟨gb101,9,none⟩ = some (.int .i64 a0_9) := (blk_cell BK101.out 9).trans rfl
     have hcz16_10 : wc.cell? ⟨gb101,10,none⟩ = some (.int .i64 a0_10) := (blk_cell BK101.out 10).trans rfl
     have hcz16_11 : wc.cell? ⟨gb101,11,none⟩ = some (.int .i64 a0_11) := (blk_cell BK101.out 11).trans rfl
     have hcz16_12 : wc.cell? ⟨gb101,12,none⟩ = some (.int .i64 a0_12) := (blk_cell BK101.out 12).trans rfl
     have hcz16_13 : wc.cell? ⟨gb101,13,none⟩ = some (.int .i64 a0_13) := (blk_cell BK101.out 13).trans rfl
     have hcz16_14 : wc.cell? ⟨gb101,14,none⟩ = some (.int .i64 a0_14) := (blk_cell BK101.out 14).trans rfl
     have hfz16_0 := blk_frozen BK101.out 0
     have hfz16_1 := blk_frozen BK101.out 1
     have hfz16_2 := blk_frozen BK101.out 2
     have hfz16_3 := blk_frozen BK101.out 3
     have hfz16_4 := blk_frozen BK101.out 4
     have hfz16_5 := blk_frozen BK101.out 5
     have hfz16_6 := blk_frozen BK101.out 6
     have hfz16_7 := blk_frozen BK101.out 7
     have hfz16_8 := blk_frozen BK101.out 8
     have hfz16_9 := blk_frozen BK101.out 9
     have hfz16_10 := blk_frozen BK101.out 10
     have hfz16_11 := blk_frozen BK101.out 11
     have hfz16_12 := blk_frozen BK101.out 12
     have hfz16_13 := blk_frozen BK101.out 13
     have hfz16_14 := blk_frozen BK101.out 14
     go_wp2_with (first | ((with_reducible refine gate_callee (f := 32) rfl ?_);refine goesL_ (some 17) rfl rfl Try.func32 (by kernel_rfl) rfl #[.int .i64 a0_9,.int .i64 a0_14] rfl (by (try simp only [List.map_toArray,List.map_cons,List.map_nil]);first | done | rfl | (simp only [List.length_drop,List.length_take];rfl)) ?_;(with_reducible refine (pacemakerref10_product.calls a0_9 a0_14 t103 t104 _ A12.out).mono ?_);rintro e w17 ⟨rfl,hb⟩;refine ⟨_,rfl,?_⟩;have n0_ := Aside0.mk (blk_below (g := gb101) (o := .cells #[.int .i64 a0_0,.int .i64 a0_1,.int .i64 a0_2,.int .i64 a0_3,.int .i64 a0_4,.int .i64 a0_5,.int .i64 a0_6,.int .i64 a0_7,.int .i64 a0_8,.int .i64 a0_9,.int .i64 a0_10,.int .i64 a0_11,.int .i64 a0_12,.int .i64 a0_13,.int .i64 a0_14] 29 (0,0)) (by (with_reducible repeat (first | refine blk_drewN ?_ _ | refine blk_drew ?_ | refine blk_alloc ?_ _));exact BK101.out) hb);have n1_ := Aside0.mk (below_step (by repeat (first | (with_reducible first | exact HB.out | apply below_alloc | apply pw_below_drewN | apply below_drew1 | refine below_set ?_ GE101.out) | exact HB.out)) hb);clear BK101;clear HB;have BK101 := n0_;have HB := n1_;clear n0_ n1_;(try clear hb);(try clear hb2);(try clear hk);(try clear hi)) | ((with_reducible refine gate_dst (N := 3) rfl ?_);refine box_event ?hg (N := 3) ?hd (cs := #[.int .u64 0,.int .u64 0]) (t := 24) ?hr ?_;(case hd => rfl);(case hg => rfl);(case hr => first | (go_simp;done) | (go_simp;rfl));intro gb105 hg w18 hbox hb;have n0_ := Aside0.mk (blk_below (g := gb101) (o := .cells #[.int .i64 a0_0,.int .i64 a0_1,.int .i64 a0_2,.int .i64 a0_3,.int .i64 a0_4,.int .i64 a0_5,.int .i64 a0_6,.int .i64 a0_7,.int .i64 a0_8,.int .i64 a0_9,.int .i64 a0_10,.int .i64 a0_11,.int .i64 a0_12,.int .i64 a0_13,.int .i64 a0_14] 29 (0,0)) (by (with_reducible repeat (first | refine blk_drewN ?_ _ | refine blk_drew ?_ | refine blk_alloc ?_ _));exact BK101.out) hb);have n1_ := Aside0.mk (below_step (by repeat (first | (with_reducible first | exact HB.out | apply below_alloc | apply pw_below_drewN | apply below_drew1 | refine below_set ?_ GE101.out) | exact HB.out)) hb);have n2_ := Aside0.mk (hbox);have n3_ := Aside0.mk ((by rw [hg];exact (below_size (by repeat (first | (with_reducible first | exact HB.out | apply below_alloc | apply pw_below_drewN | apply below_drew1 | refine below_set ?_ GE101.out) | exact HB.out))) : w.heap.size ≤ gb105));have n4_ := Aside0.mk ((by rw [hg];exact (below_size (by repeat (first | (with_reducible first | exact HB.out | apply below_alloc | apply pw_below_drewN | apply below_drew1 | refine below_set ?_ GE101.out) | exact HB.out))) : w.heap.size ≤ gb105));have n5_ := Aside0.mk ((by rw [hg];exact Nat.ne_of_lt (blk_lt (g := gb101) (o := .cells #[.int .i64 a0_0,.int .i64 a0_1,.int .i64 a0_2,.int .i64 a0_3,.int .i64 a0_4,.int .i64 a0_5,.int .i64 a0_6,.int .i64 a0_7,.int .i64 a0_8,.int .i64 a0_9,.int .i64 a0_10,.int .i64 a0_11,.int .i64 a0_12,.int .i64 a0_13,.int .i64 a0_14] 29 (0,0)) (by (with_reducible repeat (first | refine blk_drewN ?_ _ | refine blk_drew ?_ | refine blk_alloc ?_ _));exact BK101.out)) : gb101 ≠ gb105));have n6_ := Aside0.mk ((by rw [hg];exact Nat.ne_of_gt (blk_lt (g := gb101) (o := .cells #[.int .i64 a0_0,.int .i64 a0_1,.int .i64 a0_2,.int .i64 a0_3,.int .i64 a0_4,.int .i64 a0_5,.int .i64 a0_6,.int .i64 a0_7,.int .i64 a0_8,.int .i64 a0_9,.int .i64 a0_10,.int .i64 a0_11,.int .i64 a0_12,.int .i64 a0_13,.int .i64 a0_14] 29 (0,0)) (by (with_reducible repeat (first | refine blk_drewN ?_ _ | refine blk_drew ?_ | refine blk_alloc ?_ _));exact BK101.out)) : gb105 ≠ gb101));clear BK101;clear HB;have BK101 := n0_;have HB := n1_;have BK105 := n2_;have GW105 := n3_;have GE105 := n4_;have NB101_105 := n5_;have NB105_101 := n6_;clear n0_ n1_ n2_ n3_ n4_ n5_ n6_;clear hb hbox hg;have hnb19 := NB105_101.out;have hnc19 := NB101_105.out;have hcz20_0 : w18.cell? ⟨gb105,0,none⟩ = some (.int .u64 0) := (blk_cell BK105.out 0).trans rfl;have hcz20_1 : w18.cell? ⟨gb105,1,none⟩ = some (.int .u64 0) := (blk_cell BK105.out 1).trans rfl;have hfz20_0 := blk_frozen BK105.out 0;have hfz20_1 := blk_frozen BK105.out 1;have hcz21_0 : w18.cell? ⟨gb101,0,none⟩ = some (.int .i64 a0_0) := (blk_cell BK101.out 0).trans rfl;have hcz21_1 : w18.cell? ⟨gb101,1,none⟩ = some (.int .i64 a0_1) := (blk_cell BK101.out 1).trans rfl;have hcz21_2 : w18.cell? ⟨gb101,2,none⟩ = some (.int .i64 a0_2) := (blk_cell BK101.out 2).trans rfl;have hcz21_3 : w18.cell? ⟨gb101,3,none⟩ = some (.int .i64 a0_3) := (blk_cell BK101.out 3).trans rfl;have hcz21_4 : w18.cell? ⟨gb101,4,none⟩ = some (.int .i64 a0_4) := (blk_cell BK101.out 4).trans rfl;have hcz21_5 : w18.cell? ⟨gb101,5,none⟩ = some (.int .i64 a0_5) := (blk_cell BK101.out 5).trans rfl;have hcz21_6 : w18.cell? ⟨gb101,6,none⟩ = some (.int .i64 a0_6) := (blk_cell BK101.out 6).trans rfl;have hcz21_7 : w18.cell? ⟨gb101,7,none⟩ = some (.int .i64 a0_7) := (blk_cell BK101.out 7).trans rfl;have hcz21_8 : w18.cell? ⟨gb101,8,none⟩ = some (.int .i64 a0_8) := (blk_cell BK101.out 8).trans rfl;have hcz21_9 : w18.cell? ⟨gb101,9,none⟩ = some (.int .i64 a0_9) := (blk_cell BK101.out 9).trans rfl;have hcz21_10 : w18.cell? ⟨gb101,10,none⟩ = some (.int .i64 a0_10) := (blk_cell BK101.out 10).trans rfl;have hcz21_11 : w18.cell? ⟨gb101,11,none⟩ = some (.int .i64 a0_11) := (blk_cell BK101.out 11).trans rfl;have hcz21_12 : w18.cell? ⟨gb101,12,none⟩ = some (.int .i64 a0_12) := (blk_cell BK101.out 12).trans rfl;have hcz21_13 : w18.cell? ⟨gb101,13,none⟩ = some (.int .i64 a0_13) := (blk_cell BK101.out 13).trans rfl;have hcz21_14 : w18.cell? ⟨gb101,14,none⟩ = some (.int .i64 a0_14) := (blk_cell BK101.out 14).trans rfl;have hfz21_0 := blk_frozen BK101.out 0;have hfz21_1 := blk_frozen BK101.out 1;have hfz21_2 := blk_frozen BK101.out 2;have hfz21_3 := blk_frozen BK101.out 3;have hfz21_4 := blk_frozen BK101.out 4;have hfz21_5 := blk_frozen BK101.out 5;have hfz21_6 := blk_frozen BK101.out 6;have hfz21_7 := blk_frozen BK101.out 7;have hfz21_8 := blk_frozen BK101.out 8;have hfz21_9 := blk_frozen BK101.out 9;have hfz21_10 := blk_frozen BK101.out 10;have hfz21_11 := blk_frozen BK101.out 11;have hfz21_12 := blk_frozen BK101.out 12;have hfz21_13 := blk_frozen BK101.out 13;have hfz21_14 := blk_frozen BK101.out 14) | ((with_reducible refine gate_callee (f := 32) rfl ?_);refine goesL_ (some 22) rfl rfl Try.func32 (by kernel_rfl) rfl #[.int .i64 a0_11,.int .i64 a0_11] rfl (by (try simp only [List.map_toArray,List.map_cons,List.map_nil]);first | done | rfl | (simp only [List.length_drop,List.length_take];rfl)) ?_;(with_reducible refine (pacemakerref10_product.calls a0_11 a0_11 t106 t107 _ A13.out).mono ?_);rintro e w22 ⟨rfl,hb⟩;refine ⟨_,rfl,?_⟩;have n0_ := Aside0.mk (blk_below (g := gb101) (o := .cells #[.int .i64 a0_0,.int .i64 a0_1,.int .i64 a0_2,.int .i64 a0_3,.int .i64 a0_4,.int .i64 a0_5,.int .i64 a0_6,.int .i64 a0_7,.int .i64 a0_8,.int .i64 a0_9,.int .i64 a0_10,.int .i64 a0_11,.int .i64 a0_12,.int .i64 a0_13,.int .i64 a0_14] 29 (0,0)) (by (with_reducible repeat (first | refine blk_drewN ?_ _ | refine blk_drew ?_ | refine blk_alloc ?_ _));refine blk_far ?_ NB101_105.out _;(with_reducible repeat (first | refine blk_drewN ?_ _ | refine blk_drew ?_ | refine blk_alloc ?_ _));refine blk_far ?_ NB101_105.out _;(with_reducible repeat (first | refine blk_drewN ?_ _ | refine blk_drew ?_ | refine blk_alloc ?_ _));exact BK101.out) hb);have n1_ := Aside0.mk (blk_below (g := gb105) (o := .cells #[.int .u64 t103,.int .u64 t104] 24 (0,0)) (by (with_reducible repeat (first | refine blk_drewN ?_ _ | refine blk_drew ?_ | refine blk_alloc ?_ _));refine blk_put (cs := #[.int .u64 t103,.int .u64 0]) ?_ 1 _ rfl;(with_reducible repeat (first | refine blk_drewN ?_ _ | refine blk_drew ?_ | refine blk_alloc ?_ _));refine blk_put (cs := #[.int .u64 0,.int .u64 0]) ?_ 0 _ rfl;(with_reducible repeat (first | refine blk_drewN ?_ _ | refine blk_drew ?_ | refine blk_alloc ?_ _));exact BK105.out) hb);have n2_ := Aside0.mk (below_step (by repeat (first | (with_reducible first | exact HB.out | apply below_alloc | apply pw_below_drewN | apply below_drew1 | refine below_set ?_ GE101.out | refine below_set ?_ GE105.out) | exact HB.out)) hb);clear BK101;clear BK105;clear HB;have BK101 := n0_;have BK105 := n1_;have HB := n2_;clear n0_ n1_ n2_;(try clear hb);(try clear hb2);(try clear hk);(try clear hi)) | ((with_reducible refine gate_dst (N := 4) rfl ?_);refine box_event ?hg (N := 4) ?hd (cs := #[.int .u64 0,.int .u64 0]) (t := 24) ?hr ?_;(case hd => rfl);(case hg => rfl);(case hr => first | (go_simp;done) | (go_simp;rfl));intro gb108 hg w23 hbox hb;have n0_ := Aside0.mk (blk_below (g := gb101) (o := .cells #[.int .i64 a0_0,.int .i64 a0_1,.int .i64 a0_2,.int .i64 a0_3,.int .i64 a0_4,.int .i64 a0_5,.int .i64 a0_6,.int .i64 a0_7,.int .i64 a0_8,.int .i64 a0_9,.int .i64 a0_10,.int .i64 a0_11,.int .i64 a0_12,.int .i64 a0_13,.int .i64 a0_14] 29 (0,0)) (by (with_reducible repeat (first | refine blk_drewN ?_ _ | refine blk_drew ?_ | refine blk_alloc ?_ _));exact BK101.out) hb);have n1_ := Aside0.mk (blk_below (g := gb105) (o := .cells #[.int .u64 t103,.int .u64 t104] 24 (0,0)) (by (with_reducible repeat (first | refine blk_drewN ?_ _ | refine blk_drew ?_ | refine blk_alloc ?_ _));exact BK105.out) hb);have n2_ := Aside0.mk (below_step (by repeat (first | (with_reducible first | exact HB.out | apply below_alloc | apply pw_below_drewN | apply below_drew1 | refine below_set ?_ GE101.out | refine below_set ?_ GE105.out) | exact HB.out)) hb);have n3_ := Aside0.mk (hbox);have n4_ := Aside0.mk ((by rw [hg];exact (below_size (by repeat (first | (with_reducible first | exact HB.out | apply below_alloc | apply pw_below_drewN | apply below_drew1 | refine below_set ?_ GE101.out | refine below_set ?_ GE105.out) | exact HB.out))) : w.heap.size ≤ gb108));have n5_ := Aside0.mk ((by rw [hg];exact (below_size (by repeat (first | (with_reducible first | exact HB.out | apply below_alloc | apply pw_below_drewN | apply below_drew1 | refine below_set ?_ GE101.out | refine below_set ?_ GE105.out) | exact HB.out))) : w.heap.size ≤ gb108));have n6_ := Aside0.mk ((by rw [hg];exact Nat.ne_of_lt (blk_lt (g := gb101) (o := .cells #[.int .i64 a0_0,.int .i64 a0_1,.int .i64 a0_2,.int .i64 a0_3,.int .i64 a0_4,.int .i64 a0_5,.int .i64 a0_6,.int .i64 a0_7,.int .i64 a0_8,.int .i64 a0_9,.int .i64 a0_10,.int .i64 a0_11,.int .i64 a0_12,.int .i64 a0_13,.int .i64 a0_14] 29 (0,0)) (by (with_reducible repeat (first | refine blk_drewN ?_ _ | refine blk_drew ?_ | refine blk_alloc ?_ _));exact BK101.out)) : gb101 ≠ gb108));have n7_ := Aside0.mk ((by rw [hg];exact Nat.ne_of_gt (blk_lt (g := gb101) (o := .cells #[.int .i64 a0_0,.int .i64 a0_1,.int .i64 a0_2,.int .i64 a0_3,.int .i64 a0_4,.int .i64 a0_5,.int .i64 a0_6,.int .i64 a0_7,.int .i64 a0_8,.int .i64 a0_9,.int .i64 a0_10,.int .i64 a0_11,.int .i64 a0_12,.int .i64 a0_13,.int .i64 a0_14] 29 (0,0)) (by (with_reducible repeat (first | refine blk_drewN ?_ _ | refine blk_drew ?_ | refine blk_alloc ?_ _));exact BK101.out)) : gb108 ≠ gb101));have n8_ := Aside0.mk ((by rw [hg];exact Nat.ne_of_lt (blk_lt (g := gb105) (o := .cells #[.int .u64 t103,.int .u64 t104] 24 (0,0)) (by (with_reducible repeat (first | refine blk_drewN ?_ _ | refine blk_drew ?_ | refine blk_alloc ?_ _));exact BK105.out)) : gb105 ≠ gb108));have n9_ := Aside0.mk ((by rw [hg];exact Nat.ne_of_gt (blk_lt (g := gb105) (o := .cells #[.int .u64 t103,.int .u64 t104] 24 (0,0)) (by (with_reducible repeat (first | refine blk_drewN ?_ _ | refine blk_drew ?_ | refine blk_alloc ?_ _));exact BK105.out)) : gb108 ≠ gb105));clear BK101;clear BK105;clear HB;have BK101 := n0_;have BK105 := n1_;have HB := n2_;have BK108 := n3_;have GW108 := n4_;have GE108 := n5_;have NB101_108 := n6_;have NB108_101 := n7_;have NB105_108 := n8_;have NB108_105 := n9_;clear n0_ n1_ n2_ n3_ n4_ n5_ n6_ n7_ n8_ n9_;clear hb hbox hg;have hnb24 := NB108_101.out;have hnc24 := NB101_108.out;have hnb25 := NB108_105.out;have hnc25 := NB105_108.out;have hcz26_0 : w23.cell? ⟨gb108,0,none⟩ = some (.int .u64 0) := (blk_cell BK108.out 0).trans rfl;have hcz26_1 : w23.cell? ⟨gb108,1,none⟩ = some (.int .u64 0) := (blk_cell BK108.out 1).trans rfl;have hfz26_0 := blk_frozen BK108.out 0;have hfz26_1 := blk_frozen BK108.out 1;have hcz27_0 : w23.cell? ⟨gb105,0,none⟩ = some (.int .u64 t103) := (blk_cell BK105.out 0).trans rfl;have hcz27_1 : w23.cell? ⟨gb105,1,none⟩ = some (.int .u64 t104) := (blk_cell BK105.out 1).trans rfl;have hfz27_0 := blk_frozen BK105.out 0;have hfz27_1 := blk_frozen BK105.out 1) | ((with_reducible refine gate_callee (f := 25) rfl ?_);refine goesL_ (some 25) rfl rfl Try.func25 (by kernel_rfl) rfl #[.agg #[.int .u64 t103,.int .u64 t104],.agg #[.int .u64 t106,.int .u64 t107]] rfl (by (try simp only [List.map_toArray,List.map_cons,List.map_nil]);first | done | rfl | (simp only [List.length_drop,List.length_take];rfl)) ?_;(with_reducible refine (pacemakerref10_less.calls t103 t104 t106 t107 true _ A14.out).mono ?_);rintro e w28 ⟨rfl,hb⟩;refine ⟨_,rfl,?_⟩;have n0_ := Aside0.mk (blk_below (g := gb101) (o := .cells #[.int .i64 a0_0,.int .i64 a0_1,.int .i64 a0_2,.int .i64 a0_3,.int .i64 a0_4,.int .i64 a0_5,.int .i64 a0_6,.int .i64 a0_7,.int .i64 a0_8,.int .i64 a0_9,.int .i64 a0_10,.int .i64 a0_11,.int .i64 a0_12,.int .i64 a0_13,.int .i64 a0_14] 29 (0,0)) (by (with_reducible repeat (first | refine blk_drewN ?_ _ | refine blk_drew ?_ | refine blk_alloc ?_ _));refine blk_far ?_ NB101_108.out _;(with_reducible repeat (first | refine blk_drewN ?_ _ | refine blk_drew ?_ | refine blk_alloc ?_ _));refine blk_far ?_ NB101_108.out _;(with_reducible repeat (first | refine blk_drewN ?_ _ | refine blk_drew ?_ | refine blk_alloc ?_ _));exact BK101.out) hb);have n1_ := Aside0.mk (blk_below (g := gb105) (o := .cells #[.int .u64 t103,.int .u64 t104] 24 (0,0)) (by (with_reducible repeat (first | refine blk_drewN ?_ _ | refine blk_drew ?_ | refine blk_alloc ?_ _));refine blk_far ?_ NB105_108.out _;(with_reducible repeat (first | refine blk_drewN ?_ _ | refine blk_drew ?_ | refine blk_alloc ?_ _));refine blk_far ?_ NB105_108.out _;(with_reducible repeat (first | refine blk_drewN ?_ _ | refine blk_drew ?_ | refine blk_alloc ?_ _));exact BK105.out) hb);have n2_ := Aside0.mk (blk_below (g := gb108) (o := .cells #[.int .u64 t106,.int .u64 t107] 24 (0,0)) (by (with_reducible repeat (first | refine blk_drewN ?_ _ | refine blk_drew ?_ | refine blk_alloc ?_ _));refine blk_put (cs := #[.int .u64 t106,.int .u64 0]) ?_ 1 _ rfl;(with_reducible repeat (first | refine blk_drewN ?_ _ | refine blk_drew ?_ | refine blk_alloc ?_ _));refine blk_put (cs := #[.int .u64 0,.int .u64 0]) ?_ 0 _ rfl;(with_reducible repeat (first | refine blk_drewN ?_ _ | refine blk_drew ?_ | refine blk_alloc ?_ _));exact BK108.out) hb);have n3_ := Aside0.mk (below_step (by repeat (first | (with_reducible first | exact HB.out | apply below_alloc | apply pw_below_drewN | apply below_drew1 | refine below_set ?_ GE101.out | refine below_set ?_ GE105.out | refine below_set ?_ GE108.out) | exact HB.out)) hb);clear BK101;clear BK105;clear BK108;clear HB;have BK101 := n0_;have BK105 := n1_;have BK108 := n2_;have HB := n3_;clear n0_ n1_ n2_ n3_;(try clear hb);(try clear hb2);(try clear hk);(try clear hi)))
     go_ret
     exact ⟨by first | rfl | (simp [errW_none,errW_some] <;> rfl) | (simp [*,errW_none,errW_some] <;> rfl),by repeat (first | (with_reducible first | exact HB.out | apply below_alloc | apply pw_below_drewN | apply below_drew1 | refine below_set ?_ GE101.out | refine below_set ?_ GE105.out | refine below_set ?_ GE108.out) | exact HB.out)⟩
    ·replace c15 := Bool.eq_false_iff.mpr c15
     subst c15
     have H1 : ((pacemakerref10_minus.f t103 t104 t106 t107).bind fun bt110 => ((pacemakerref03_SqrtWide.f kj1 bt110.1 bt110.2).bind fun t112 => ((pacemakerref10_Ratio.f kj1 0 t112 0 (IntKind.u64.wrap (a0_9))).bind fun t113 => (some t113)))) = some r := by rw [if_neg (show ¬ (false = true) by decide)] at H;exact H
     clear H
     have H := H1
     clear H1
     replace H := Option.bind_eq_some_iff.mp H
     obtain ⟨⟨t110,t111⟩,A290,H⟩ := H
     replace H : ((pacemakerref03_SqrtWide.f kj1 t110 t111).bind fun t112 => ((pacemakerref10_Ratio.f kj1 0 t112 0 (IntKind.u64.wrap (a0_9))).bind fun t113 => (some t113))) = some r := H
     have A29 := Aside0.mk A290
     clear A290
     replace H := Option.bind_eq_some_iff.mp H
     obtain ⟨t112,A300,H⟩ := H
     replace H : ((pacemakerref10_Ratio.f kj1 0 t112 0 (IntKind.u64.wrap (a0_9))).bind fun t113 => (some t113)) = some r := H
     have A30 := Aside0.mk A300
     clear A300
     replace H := Option.bind_eq_some_iff.mp H
     obtain ⟨t113,A310,H⟩ := H
     replace H : (some t113) = some r := H
     have A31 := Aside0.mk A310
     clear A310
     obtain rfl := Option.some.inj H
     have hcz32_0 : wc.cell? ⟨gb101,0,none⟩ = some (.int .i64 a0_0) := (blk_cell BK101.out 0).trans rfl
     have hcz32_1 : wc.cell? ⟨gb101,1,none⟩ = some (.int .i64 a0_1) := (blk_cell BK101.out 1).trans rfl
     have hcz32_2 : wc.cell? ⟨gb101,2,none⟩ = some (.int .i64 a0_2) := (blk_cell BK101.out 2).trans rfl
     have hcz32_3 : wc.cell? ⟨gb101,3,none⟩ = some (.int .i64 a0_3) := (blk_cell BK101.out 3).trans rfl
     have hcz32_4 : wc.cell? ⟨gb101,4,none⟩ = some (.int .i64 a0_4) := (blk_cell BK101.out 4).trans rfl
     have hcz32_5 : wc.cell? ⟨gb101,5,none⟩ = some (.int .i64 a0_5) := (blk_cell BK101.out 5).trans rfl
     have hcz32_6 : wc.cell? ⟨gb101,6,none⟩ = some (.int .i64 a0_6) := (blk_cell BK101.out 6).trans rfl
     have hcz32_7 : wc.cell? ⟨gb101,7,none⟩ = some (.int .i64 a0_7) := (blk_cell BK101.out 7).trans rfl
     have hcz32_8 : wc.cell? ⟨gb101,8,none⟩ = some (.int .i64 a0_8) := (blk_cell BK101.out 8).trans rfl
     have hcz32_9 : wc.cell? ⟨gb101,9,none⟩ = some (.int .i64 a0_9) := (blk_cell BK101.out 9).trans rfl
     have hcz32_10 : wc.cell? ⟨gb101,10,none⟩ = some (.int .i64 a0_10) := (blk_cell BK101.out 10).trans rfl
     have hcz32_11 : wc.cell? ⟨gb101,11,none⟩ = some (.int .i64 a0_11) := (blk_cell BK101.out 11).trans rfl
     have hcz32_12 : wc.cell? ⟨gb101,12,none⟩ = some (.int .i64 a0_12) := (blk_cell BK101.out 12).trans rfl
     have hcz32_13 : wc.cell? ⟨gb101,13,none⟩ = some (.int .i64 a0_13) := (blk_cell BK101.out 13).trans rfl
     have hcz32_14 : wc.cell? ⟨gb101,14,none⟩ = some (.int .i64 a0_14) := (blk_cell BK101.out 14).trans rfl
     have hfz32_0 := blk_frozen BK101.out 0
     have hfz32_1 := blk_frozen BK101.out 1
     have hfz32_2 := blk_frozen BK101.out 2
     have hfz32_3 := blk_frozen BK101.out 3
     have hfz32_4 := blk_frozen BK101.out 4
     have hfz32_5 := blk_frozen BK101.out 5
     have hfz32_6 := blk_frozen BK101.out 6
     have hfz32_7 := blk_frozen BK101.out 7
     have hfz32_8 := blk_frozen BK101.out 8
     have hfz32_9 := blk_frozen BK101.out 9
     have hfz32_10 := blk_frozen BK101.out 10
     have hfz32_11 := blk_frozen BK101.out 11
     have hfz32_12 := blk_frozen BK101.out 12
     have hfz32_13 := blk_frozen BK101.out 13
     have hfz32_14 := blk_frozen BK101.out 14
     try go_wp2_with (first | ((with_reducible refine gate_callee (f := 32) rfl ?_);refine goesL_ (some 17) rfl rfl Try.func32 (by kernel_rfl) rfl #[.int .i64 a0_9,.int .i64 a0_14] rfl (by (try simp only [List.map_toArray,List.map_cons,List.map_nil]);first | done | rfl | (simp only [List.length_drop,List.length_take];rfl)) ?_;(with_reducible refine (pacemakerref10_product.calls a0_9 a0_14 t103 t104 _ A12.out).mono ?_);rintro e w33 ⟨rfl,hb⟩;refine ⟨_,rfl,?_⟩;have n0_ := Aside0.mk (blk_below (g := gb101) (o := .cells #[.int .i64 a0_0,.int .i64 a0_1,.int .i64 a0_2,.int .i64 a0_3,.int .i64 a0_4,.int .i64 a0_5,.int .i64 a0_6,.int .i64 a0_7,.int .i64 a0_8,.int .i64 a0_9,.int .i64 a0_10,.int .i64 a0_11,.int .i64 a0_12,.int .i64 a0_13,.int .i64 a0_14] 29 (0,0)) (by (with_reducible repeat (first | refine blk_drewN ?_ _ | refine blk_drew ?_ | refine blk_alloc ?_ _));exact BK101.out) hb);have n1_ := Aside0.mk (below_step (by repeat (first | (with_reducible first | exact HB.out | apply below_alloc | apply pw_below_drewN | apply below_drew1 | refine below_set ?_ GE101.out) | exact HB.out)) hb);clear BK101;clear HB;have BK101 := n0_;have HB := n1_;clear n0_ n1_;(try clear hb);(try clear hb2);(try clear hk);(try clear hi)) | ((with_reducible refine gate_dst (N := 3) rfl ?_);refine box_event ?hg (N := 3) ?hd (cs := #[.int .u64 0,.int .u64 0]) (t := 24) ?hr ?_;(case hd => rfl);(case hg => rfl);(case hr => first | (go_simp;done) | (go_simp;rfl));intro gb105 hg w34 hbox hb;have n0_ := Aside0.mk (blk_below (g := gb101) (o := .cells #[.int .i64 a0_0,.int .i64 a0_1,.int .i64 a0_2,.int .i64 a0_3,.int .i64 a0_4,.int .i64 a0_5,.int .i64 a0_6,.int .i64 a0_7,.int .i64 a0_8,.int .i64 a0_9,.int .i64 a0_10,.int .i64 a0_11,.int .i64 a0_12,.int .i64 a0_13,.int .i64 a0_14] 29 (0,0)) (by (with_reducible repeat (first | refine blk_drewN ?_ _ | refine blk_drew ?_ | refine blk_alloc ?_ _));exact BK101.out) hb);have n1_ := Aside0.mk (below_step (by repeat (first | (with_reducible first | exact HB.out | apply below_alloc | apply pw_below_drewN | apply below_drew1 | refine below_set ?_ GE101.out) | exact HB.out)) hb);have n2_ := Aside0.mk (hbox);have n3_ := Aside0.mk ((by rw [hg];exact (below_size (by repeat (first | (with_reducible first | exact HB.out | apply below_alloc | apply pw_below_drewN | apply below_drew1 | refine below_set ?_ GE101.out) | exact HB.out))) : w.heap.size ≤ gb105));have n4_ := Aside0.mk ((by rw [hg];exact (below_size (by repeat (first | (with_reducible first | exact HB.out | apply below_alloc | apply pw_below_drewN | apply below_drew1 | refine below_set ?_ GE101.out) | exact HB.out))) : w.heap.size ≤ gb105));have n5_ := Aside0.mk ((by rw [hg];exact Nat.ne_of_lt (blk_lt (g := gb101) (o := .cells #[.int .i64 a0_0,.int .i64 a0_1,.int .i64 a0_2,.int .i64 a0_3,.int .i64 a0_4,.int .i64 a0_5,.int .i64 a0_6,.int .i64 a0_7,.int .i64 a0_8,.int .i64 a0_9,.int .i64 a0_10,.int .i64 a0_11,.int .i64 a0_12,.int .i64 a0_13,.int .i64 a0_14] 29 (0,0)) (by (with_reducible repeat (first | refine blk_drewN ?_ _ | refine blk_drew ?_ | refine blk_alloc ?_ _));exact BK101.out)) : gb101 ≠ gb105));have n6_ := Aside0.mk ((by rw [hg];exact Nat.ne_of_gt (blk_lt (g := gb101) (o := .cells #[.int .i64 a0_0,.int .i64 a0_1,.int .i64 a0_2,.int .i64 a0_3,.int .i64 a0_4,.int .i64 a0_5,.int .i64 a0_6,.int .i64 a0_7,.int .i64 a0_8,.int .i64 a0_9,.int .i64 a0_10,.int .i64 a0_11,.int .i64 a0_12,.int .i64 a0_13,.int .i64 a0_14] 29 (0,0)) (by (with_reducible repeat (first | refine blk_drewN ?_ _ | refine blk_drew ?_ | refine blk_alloc ?_ _));exact BK101.out)) : gb105 ≠ gb101));clear BK101;clear HB;have BK101 := n0_;have HB := n1_;have BK105 := n2_;have GW105 := n3_;have GE105 := n4_;have NB101_105 := n5_;have NB105_101 := n6_;clear n0_ n1_ n2_ n3_ n4_ n5_ n6_;clear hb hbox hg;have hnb35 := NB105_101.out;have hnc35 := NB101_105.out;have hcz36_0 : w34.cell? ⟨gb105,0,none⟩ = some (.int .u64 0) := (blk_cell BK105.out 0).trans rfl;have hcz36_1 : w34.cell? ⟨gb105,1,none⟩ = some (.int .u64 0) := (blk_cell BK105.out 1).trans rfl;have hfz36_0 := blk_frozen BK105.out 0;have hfz36_1 := blk_frozen BK105.out 1;have hcz37_0 : w34.cell? ⟨gb101,0,none⟩ = some (.int .i64 a0_0) := (blk_cell BK101.out 0).trans rfl;have hcz37_1 : w34.cell? ⟨gb101,1,none⟩ = some (.int .i64 a0_1) := (blk_cell BK101.out 1).trans rfl;have hcz37_2 : w34.cell? ⟨gb101,2,none⟩ = some (.int .i64 a0_2) := (blk_cell BK101.out 2).trans rfl;have hcz37_3 : w34.cell? ⟨gb101,3,none⟩ = some (.int .i64 a0_3) := (blk_cell BK101.out 3).trans rfl;have hcz37_4 : w34.cell? ⟨gb101,4,none⟩ = some (.int .i64 a0_4) := (blk_cell BK101.out 4).trans rfl;have hcz37_5 : w34.cell? ⟨gb101,5,none⟩ = some (.int .i64 a0_5) := (blk_cell BK101.out 5).trans rfl;have hcz37_6 : w34.cell? ⟨gb101,6,none⟩ = some (.int .i64 a0_6) := (blk_cell BK101.out 6).trans rfl;have hcz37_7 : w34.cell? ⟨gb101,7,none⟩ = some (.int .i64 a0_7) := (blk_cell BK101.out 7).trans rfl;have hcz37_8 : w34.cell? ⟨gb101,8,none⟩ = some (.int .i64 a0_8) := (blk_cell BK101.out 8).trans rfl;have hcz37_9 : w34.cell? ⟨gb101,9,none⟩ = some (.int .i64 a0_9) := (blk_cell BK101.out 9).trans rfl;have hcz37_10 : w34.cell? ⟨gb101,10,none⟩ = some (.int .i64 a0_10) := (blk_cell BK101.out 10).trans rfl;have hcz37_11 : w34.cell? ⟨gb101,11,none⟩ = some (.int .i64 a0_11) := (blk_cell BK101.out 11).trans rfl;have hcz37_12 : w34.cell? ⟨gb101,12,none⟩ = some (.int .i64 a0_12) := (blk_cell BK101.out 12).trans rfl;have hcz37_13 : w34.cell? ⟨gb101,13,none⟩ = some (.int .i64 a0_13) := (blk_cell BK101.out 13).trans rfl;have hcz37_14 : w34.cell? ⟨gb101,14,none⟩ = some (.int .i64 a0_14) := (blk_cell BK101.out 14).trans rfl;have hfz37_0 := blk_frozen BK101.out 0;have hfz37_1 := blk_frozen BK101.out 1;have hfz37_2 := blk_frozen BK101.out 2;have hfz37_3 := blk_frozen BK101.out 3;have hfz37_4 := blk_frozen BK101.out 4;have hfz37_5 := blk_frozen BK101.out 5;have hfz37_6 := blk_frozen BK101.out 6;have hfz37_7 := blk_frozen BK101.out 7;have hfz37_8 := blk_frozen BK101.out 8;have hfz37_9 := blk_frozen BK101.out 9;have hfz37_10 := blk_frozen BK101.out 10;have hfz37_11 := blk_frozen BK101.out 11;have hfz37_12 := blk_frozen BK101.out 12;have hfz37_13 := blk_frozen BK101.out 13;have hfz37_14 := blk_frozen BK101.out 14) | ((with_reducible refine gate_callee (f := 32) rfl ?_);refine goesL_ (some 22) rfl rfl Try.func32 (by kernel_rfl) rfl #[.int .i64 a0_11,.int .i64 a0_11] rfl (by (try simp only [List.map_toArray,List.map_cons,List.map_nil]);first | done | rfl | (simp only [List.length_drop,List.length_take];rfl)) ?_;(with_reducible refine (pacemakerref10_product.calls a0_11 a0_11 t106 t107 _ A13.out).mono ?_);rintro e w38 ⟨rfl,hb⟩;refine ⟨_,rfl,?_⟩;have n0_ := Aside0.mk (blk_below (g := gb101) (o := .cells #[.int .i64 a0_0,.int .i64 a0_1,.int .i64 a0_2,.int .i64 a0_3,.int .i64 a0_4,.int .i64 a0_5,.int .i64 a0_6,.int .i64 a0_7,.int .i64 a0_8,.int .i64 a0_9,.int .i64 a0_10,.int .i64 a0_11,.int .i64 a0_12,.int .i64 a0_13,.int .i64 a0_14] 29 (0,0)) (by (with_reducible repeat (first | refine blk_drewN ?_ _ | refine blk_drew ?_ | refine blk_alloc ?_ _));refine blk_far ?_ NB101_105.out _;(with_reducible repeat (first | refine blk_drewN ?_ _ | refine blk_drew ?_ | refine blk_alloc ?_ _));refine blk_far ?_ NB101_105.out _;(with_reducible repeat (first | refine blk_drewN ?_ _ | refine blk_drew ?_ | refine blk_alloc ?_ _));exact BK101.out) hb);have n1_ := Aside0.mk (blk_below (g := gb105) (o := .cells #[.int .u64 t103,.int .u64 t104] 24 (0,0)) (by (with_reducible repeat (first | refine blk_drewN ?_ _ | refine blk_drew ?_ | refine blk_alloc ?_ _));refine blk_put (cs := #[.int .u64 t103,.int .u64 0]) ?_ 1 _ rfl;(with_reducible repeat (first | refine blk_drewN ?_ _ | refine blk_drew ?_ | refine blk_alloc ?_ _));refine blk_put (cs := #[.int .u64 0,.int .u64 0]) ?_ 0 _ rfl;(with_reducible repeat (first | refine blk_drewN ?_ _ | refine blk_drew ?_ | refine blk_alloc ?_ _));exact BK105.out) hb);have n2_ := Aside0.mk (below_step (by repeat (first | (with_reducible first | exact HB.out | apply below_alloc | apply pw_below_drewN | apply below_drew1 | refine below_set ?_ GE101.out | refine below_set ?_ GE105.out) | exact HB.out)) hb);clear BK101;clear BK105;clear HB;have BK101 := n0_;have BK105 := n1_;have HB := n2_;clear n0_ n1_ n2_;(try clear hb);(try clear hb2);(try clear hk);(try clear hi)) | ((with_reducible refine gate_dst (N := 4) rfl ?_);refine box_event ?hg (N := 4) ?hd (cs := #[.int .u64 0,.int .u64 0]) (t := 24) ?hr ?_;(case hd => rfl);(case hg => rfl);(case hr => first | (go_simp;done) | (go_simp;rfl));intro gb108 hg w39 hbox hb;have n0_ := Aside0.mk (blk_below (g := gb101) (o := .cells #[.int .i64 a0_0,.int .i64 a0_1,.int .i64 a0_2,.int .i64 a0_3,.int .i64 a0_4,.int .i64 a0_5,.int .i64 a0_6,.int .i64 a0_7,.int .i64 a0_8,.int .i64 a0_9,.int .i64 a0_10,.int .i64 a0_11,.int .i64 a0_12,.int .i64 a0_13,.int .i64 a0_14] 29 (0,0)) (by (with_reducible repeat (first | refine blk_drewN ?_ _ | refine blk_drew ?_ | refine blk_alloc ?_ _));exact BK101.out) hb);have n1_ := Aside0.mk (blk_below (g := gb105) (o := .cells #[.int .u64 t103,.int .u64 t104] 24 (0,0)) (by (with_reducible repeat (first | refine blk_drewN ?_ _ | refine blk_drew ?_ | refine blk_alloc ?_ _));exact BK105.out) hb);have n2_ := Aside0.mk (below_step (by repeat (first | (with_reducible first | exact HB.out | apply below_alloc | apply pw_below_drewN | apply below_drew1 | refine below_set ?_ GE101.out | refine below_set ?_ GE105.out) | exact HB.out)) hb);have n3_ := Aside0.mk (hbox);have n4_ := Aside0.mk ((by rw [hg];exact (below_size (by repeat (first | (with_reducible first | exact HB.out | apply below_alloc | apply pw_below_drewN | apply below_drew1 | refine below_set ?_ GE101.out | refine below_set ?_ GE105.out) | exact HB.out))) : w.heap.size ≤ gb108));have n5_ := Aside0.mk ((by rw [hg];exact (below_size (by repeat (first | (with_reducible first | exact HB.out | apply below_alloc | apply pw_below_drewN | apply below_drew1 | refine below_set ?_ GE101.out | refine below_set ?_ GE105.out) | exact HB.out))) : w.heap.size ≤ gb108));have n6_ := Aside0.mk ((by rw [hg];exact Nat.ne_of_lt (blk_lt (g := gb101) (o := .cells #[.int .i64 a0_0,.int .i64 a0_1,.int .i64 a0_2,.int .i64 a0_3,.int .i64 a0_4,.int .i64 a0_5,.int .i64 a0_6,.int .i64 a0_7,.int .i64 a0_8,.int .i64 a0_9,.int .i64 a0_10,.int .i64 a0_11,.int .i64 a0_12,.int .i64 a0_13,.int .i64 a0_14] 29 (0,0)) (by (with_reducible repeat (first | refine blk_drewN ?_ _ | refine blk_drew ?_ | refine blk_alloc ?_ _));exact BK101.out)) : gb101 ≠ gb108));have n7_ := Aside0.mk ((by rw [hg];exact Nat.ne_of_gt (blk_lt (g := gb101) (o := .cells #[.int .i64 a0_0,.int .i64 a0_1,.int .i64 a0_2,.int .i64 a0_3,.int .i64 a0_4,.int .i64 a0_5,.int .i64 a0_6,.int .i64 a0_7,.int .i64 a0_8,.int .i64 a0_9,.int .i64 a0_10,.int .i64 a0_11,.int .i64 a0_12,.int .i64 a0_13,.int .i64 a0_14] 29 (0,0)) (by (with_reducible repeat (first | refine blk_drewN ?_ _ | refine blk_drew ?_ | refine blk_alloc ?_ _));exact BK101.out)) : gb108 ≠ gb101));have n8_ := Aside0.mk ((by rw [hg];exact Nat.ne_of_lt (blk_lt (g := gb105) (o := .cells #[.int .u64 t103,.int .u64 t104] 24 (0,0)) (by (with_reducible repeat (first | refine blk_drewN ?_ _ | refine blk_drew ?_ | refine blk_alloc ?_ _));exact BK105.out)) : gb105 ≠ gb108));have n9_ := Aside0.mk ((by rw [hg];exact Nat.ne_of_gt (blk_lt (g := gb105) (o := .cells #[.int .u64 t103,.int .u64 t104] 24 (0,0)) (by (with_reducible repeat (first | refine blk_drewN ?_ _ | refine blk_drew ?_ | refine blk_alloc ?_ _));exact BK105.out)) : gb108 ≠ gb105));clear BK101;clear BK105;clear HB;have BK101 := n0_;have BK105 := n1_;have HB := n2_;have BK108 := n3_;have GW108 := n4_;have GE108 := n5_;have NB101_108 := n6_;have NB108_101 := n7_;have NB105_108 := n8_;have NB108_105 := n9_;clear n0_ n1_ n2_ n3_ n4_ n5_ n6_ n7_ n8_ n9_;clear hb hbox hg;have hnb40 := NB108_101.out;have hnc40 := NB101_108.out;have hnb41 := NB108_105.out;have hnc41 := NB105_108.out;have hcz42_0 : w39.cell? ⟨gb108,0,none⟩ = some (.int .u64 0) := (blk_cell BK108.out 0).trans rfl;have hcz42_1 : w39.cell? ⟨gb108,1,none⟩ = some (.int .u64 0) := (blk_cell BK108.out 1).trans rfl;have hfz42_0 := blk_frozen BK108.out 0;have hfz42_1 := blk_frozen BK108.out 1;have hcz43_0 : w39.cell? ⟨gb105,0,none⟩ = some (.int .u64 t103) := (blk_cell BK105.out 0).trans rfl;have hcz43_1 : w39.cell? ⟨gb105,1,none⟩ = some (.int .u64 t104) := (blk_cell BK105.out 1).trans rfl;have hfz43_0 := blk_frozen BK105.out 0;have hfz43_1 := blk_frozen BK105.out 1) | ((with_reducible refine gate_callee (f := 25) rfl ?_);refine goesL_ (some 25) rfl rfl Try.func25 (by kernel_rfl) rfl #[.agg #[.int .u64 t103,.int .u64 t104],.agg #[.int .u64 t106,.int .u64 t107]] rfl (by (try simp only [List.map_toArray,List.map_cons,List.map_nil]);first | done | rfl | (simp only [List.length_drop,List.length_take];rfl)) ?_;(with_reducible refine (pacemakerref10_less.calls t103 t104 t106 t107 false _ A14.out).mono ?_);rintro e w44 ⟨rfl,hb⟩;refine ⟨_,rfl,?_⟩;have n0_ := Aside0.mk (blk_below (g := gb101) (o := .cells #[.int .i64 a0_0,.int .i64 a0_1,.int .i64 a0_2,.int .i64 a0_3,.int .i64 a0_4,.int .i64 a0_5,.int .i64 a0_6,.int .i64 a0_7,.int .i64 a0_8,.int .i64 a0_9,.int .i64 a0_10,.int .i64 a0_11,.int .i64 a0_12,.int .i64 a0_13,.int .i64 a0_14] 29 (0,0)) (by (with_reducible repeat (first | refine blk_drewN ?_ _ | refine blk_drew ?_ | refine blk_alloc ?_ _));refine blk_far ?_ NB101_108.out _;(with_reducible repeat (first | refine blk_drewN ?_ _ | refine blk_drew ?_ | refine blk_alloc ?_ _));refine blk_far ?_ NB101_108.out _;(with_reducible repeat (first | refine blk_drewN ?_ _ | refine blk_drew ?_ | refine blk_alloc ?_ _));exact BK101.out) hb);have n1_ := Aside0.mk (blk_below (g := gb105) (o := .cells #[.int .u64 t103,.int .u64 t104] 24 (0,0)) (by (with_reducible repeat (first | refine blk_drewN ?_ _ | refine blk_drew ?_ | refine blk_alloc ?_ _));refine blk_far ?_ NB105_108.out _;(with_reducible repeat (first | refine blk_drewN ?_ _ | refine blk_drew ?_ | refine blk_alloc ?_ _));refine blk_far ?_ NB105_108.out _;(with_reducible repeat (first | refine blk_drewN ?_ _ | refine blk_drew ?_ | refine blk_alloc ?_ _));exact BK105.out) hb);have n2_ := Aside0.mk (blk_below (g := gb108) (o := .cells #[.int .u64 t106,.int .u64 t107] 24 (0,0)) (by (with_reducible repeat (first | refine blk_drewN ?_ _ | refine blk_drew ?_ | refine blk_alloc ?_ _));refine blk_put (cs := #[.int .u64 t106,.int .u64 0]) ?_ 1 _ rfl;(with_reducible repeat (first | refine blk_drewN ?_ _ | refine blk_drew ?_ | refine blk_alloc ?_ _));refine blk_put (cs := #[.int .u64 0,.int .u64 0]) ?_ 0 _ rfl;(with_reducible repeat (first | refine blk_drewN ?_ _ | refine blk_drew ?_ | refine blk_alloc ?_ _));exact BK108.out) hb);have n3_ := Aside0.mk (below_step (by repeat (first | (with_reducible first | exact HB.out | apply below_alloc | apply pw_below_drewN | apply below_drew1 | refine below_set ?_ GE101.out | refine below_set ?_ GE105.out | refine below_set ?_ GE108.out) | exact HB.out)) hb);clear BK101;clear BK105;clear BK108;clear HB;have BK101 := n0_;have BK105 := n1_;have BK108 := n2_;have HB := n3_;clear n0_ n1_ n2_ n3_;(try clear hb);(try clear hb2);(try clear hk);(try clear hi)))
     have n0_ := Aside0.mk (blk_drew BK101.out)
     have n1_ := Aside0.mk (blk_drew BK105.out)
     have n2_ := Aside0.mk (blk_drew BK108.out)
     have n3_ := Aside0.mk (below_drew1 HB.out)
     clear BK101
     clear BK105
     clear BK108
     clear HB
     have BK101 := n0_
     have BK105 := n1_
     have BK108 := n2_
     have HB := n3_
     clear n0_ n1_ n2_ n3_
     refine start_ (n := 11) (S := fun w' => w'.cell? ⟨gb105,0,none⟩ = some (.int .u64 t103) ∧ w'.cell? ⟨gb105,1,none⟩ = some (.int .u64 t104) ∧ w'.cell? ⟨gb108,0,none⟩ = some (.int .u64 t106) ∧ w'.cell? ⟨gb108,1,none⟩ = some (.int .u64 t107) ∧ w'.cell? ⟨gb101,0,none⟩ = some (.int .i64 a0_0) ∧ w'.cell? ⟨gb101,1,none⟩ = some (.int .i64 a0_1) ∧ w'.cell? ⟨gb101,2,none⟩ = some (.int .i64 a0_2) ∧ w'.cell? ⟨gb101,3,none⟩ = some (.int .i64 a0_3) ∧ w'.cell? ⟨gb101,4,none⟩ = some (.int .i64 a0_4) ∧ w'.cell? ⟨gb101,5,none⟩ = some (.int .i64 a0_5) ∧ w'.cell? ⟨gb101,6,none⟩ = some (.int .i64 a0_6) ∧ w'.cell? ⟨gb101,7,none⟩ = some (.int .i64 a0_7) ∧ w'.cell? ⟨gb101,8,none⟩ = some (.int .i64 a0_8) ∧ w'.cell? ⟨gb101,9,none⟩ = some (.int .i64 a0_9) ∧ w'.cell? ⟨gb101,10,none⟩ = some (.int .i64 a0_10) ∧ w'.cell? ⟨gb101,11,none⟩ = some (.int .i64 a0_11) ∧ w'.cell? ⟨gb101,12,none⟩ = some (.int .i64 a0_12) ∧ w'.cell? ⟨gb101,13,none⟩ = some (.int .i64 a0_13) ∧ w'.cell? ⟨gb101,14,none⟩ = some (.int .i64 a0_14)) (ds := []) #[false,false,false,false,false,false,false,false,false,false,false] (by kernel_rfl) rfl rfl ⟨(blk_cell BK105.out 0).trans rfl,(blk_cell BK105.out 1).trans rfl,(blk_cell BK108.out 0).trans rfl,(blk_cell BK108.out 1).trans rfl,(blk_cell BK101.out 0).trans rfl,(blk_cell BK101.out 1).trans rfl,(blk_cell BK101.out 2).trans rfl,(blk_cell BK101.out 3).trans rfl,(blk_cell BK101.out 4).trans rfl,(blk_cell BK101.out 5).trans rfl,(blk_cell BK101.out 6).trans rfl,(blk_cell BK101.out 7).trans rfl,(blk_cell BK101.out 8).trans rfl,(blk_cell BK101.out 9).trans rfl,(blk_cell BK101.out 10).trans rfl,(blk_cell BK101.out 11).trans rfl,(blk_cell BK101.out 12).trans rfl,(blk_cell BK101.out 13).trans rfl,(blk_cell BK101.out 14).trans rfl⟩ (fun hHeld => ?_);refine with_tabW pacemakerref10_Dev.tab7 pacemakerref10_Dev.bits7 (fun HT_ HW_ => ?_)
     generalize w44.drew = w45 at BK101 BK105 BK108 HB hHeld ⊢
     refine pure_ (i := 5) (N := some 31) (v := ?_) (a' := ?_) #[false,false,false,false,false,true,false,false,false,false,false] rfl rfl (any_of HT_.out (by kernel_rfl)) (fun _ _ _ h => h) (Or.inl ⟨by rfl,?_⟩) ?_ ?_
     rotate_left
     ·intro w'
      go_simp
      with_reducible rfl
     rotate_left
     ·simp only [Act.put,List.setIfInBounds_toArray,List.set_cons_zero,List.set_cons_succ,i64_w,i32_w]
      rfl
     refine take_ (i := 0) (N := some 26) (v := ?_) (a' := ?_) #[true,false,false,false,false,true,false,false,false,false,false] rfl rfl (take_ofW HT_.out HW_.out (by kernel_rfl)) (fun _ _ _ h => h) (Or.inl ⟨by rfl,?_⟩) hHeld ?_ ?_
     rotate_left
     ·rintro w' ⟨s0,s1,s2,s3,s4,s5,s6,s7,s8,s9,s10,s11,s12,s13,s14,s15,s16,s17,s18⟩
      go_simp
      with_reducible rfl
     rotate_left
     ·simp only [Act.put,List.setIfInBounds_toArray,List.set_cons_zero,List.set_cons_succ,i64_w,i32_w]
      rfl
     refine take_ (i := 1) (N := some 27) (v := ?_) (a' := ?_) #[true,true,false,false,false,true,false,false,false,false,false] rfl rfl (take_ofW HT_.out HW_.out (by kernel_rfl)) (fun _ _ _ h => h) (Or.inl ⟨by rfl,?_⟩) hHeld ?_ ?_
     rotate_left
     ·rintro w' ⟨s0,s1,s2,s3,s4,s5,s6,s7,s8,s9,s10,s11,s12,s13,s14,s15,s16,s17,s18⟩
      go_simp
      with_reducible rfl
     rotate_left
     ·simp only [Act.put,List.setIfInBounds_toArray,List.set_cons_zero,List.set_cons_succ,i64_w,i32_w]
      rfl
     refine take_ (i := 6) (N := some 32) (v := ?_) (a' := ?_) #[true,true,false,false,false,true,true,false,false,false,false] rfl rfl (take_ofW HT_.out HW_.out (by kernel_rfl)) (fun _ _ _ h => h) (Or.inl ⟨by rfl,?_⟩) hHeld ?_ ?_
     rotate_left
     ·rintro w' ⟨s0,s1,s2,s3,s4,s5,s6,s7,s8,s9,s10,s11,s12,s13,s14,s15,s16,s17,s18⟩
      go_simp
      with_reducible rfl
     rotate_left
     ·simp only [Act.put,List.setIfInBounds_toArray,List.set_cons_zero,List.set_cons_succ,i64_w,i32_w]
      rfl
     refine pure_ (i := 7) (N := some 33) (v := ?_) (a' := ?_) #[true,true,false,false,false,true,true,true,false,false,false] rfl rfl (any_of HT_.out (by kernel_rfl)) (fun _ _ _ h => h) (Or.inl ⟨by rfl,?_⟩) ?_ ?_
     rotate_left
     ·intro w'
      go_simp
      with_reducible rfl
     rotate_left
     ·simp only [Act.put,List.setIfInBounds_toArray,List.set_cons_zero,List.set_cons_succ,i64_w,i32_w]
      rfl
     refine pure_ (i := 8) (N := some 34) (v := ?_) (a' := ?_) #[true,true,false,false,false,true,true,true,true,false,false] rfl rfl (any_of HT_.out (by kernel_rfl)) (fun _ _ _ h => h) (Or.inl ⟨by rfl,?_⟩) ?_ ?_
     rotate_left
     ·intro w'
      go_simp
      with_reducible rfl
     rotate_left
     ·simp only [Act.put,List.setIfInBounds_toArray,List.set_cons_zero,List.set_cons_succ,i64_w,i32_w]
      rfl
     refine one_ (i := 2) (N := some 28) #[true,true,true,false,false,true,true,true,true,false,false] rfl rfl (one_of HT_.out (by kernel_rfl)) (by decide) (fun K hK => ?_)
     refine goes_ Try.func26 (by kernel_rfl) rfl #[.agg #[.int .u64 t103,.int .u64 t104],.agg #[.int .u64 t106,.int .u64 t107]] (by rfl) rfl rfl (by (try simp only [List.map_toArray,List.map_cons,List.map_nil]);first | done | rfl | (simp only [List.length_drop,List.length_take];rfl)) ?_
     with_reducible refine (pacemakerref10_minus.calls t103 t104 t106 t107 t110 t111 _ A29.out).mono ?_
     rintro e w46 ⟨rfl,hb⟩
     refine ⟨_,rfl,?_⟩
     have n0_ := Aside0.mk (blk_below (g := gb101) (o := .cells #[.int .i64 a0_0,.int .i64 a0_1,.int .i64 a0_2,.int .i64 a0_3,.int .i64 a0_4,.int .i64 a0_5,.int .i64 a0_6,.int .i64 a0_7,.int .i64 a0_8,.int .i64 a0_9,.int .i64 a0_10,.int .i64 a0_11,.int .i64 a0_12,.int .i64 a0_13,.int .i64 a0_14] 29 (0,0)) (by (with_reducible repeat (first | refine blk_drewN ?_ _ | refine blk_drew ?_ | refine blk_alloc ?_ _));exact BK101.out) hb)
     have n1_ := Aside0.mk (blk_below (g := gb105) (o := .cells #[.int .u64 t103,.int .u64 t104] 24 (0,0)) (by (with_reducible repeat (first | refine blk_drewN ?_ _ | refine blk_drew ?_ | refine blk_alloc ?_ _));exact BK105.out) hb)
     have n2_ := Aside0.mk (blk_below (g := gb108) (o := .cells #[.int .u64 t106,.int .u64 t107] 24 (0,0)) (by (with_reducible repeat (first | refine blk_drewN ?_ _ | refine blk_drew ?_ | refine blk_alloc ?_ _));exact BK108.out) hb)
     have n3_ := Aside0.mk (below_step (by repeat (first | (with_reducible first | exact HB.out | apply below_alloc | apply pw_below_drewN | apply below_drew1 | refine below_set ?_ GE101.out | refine below_set ?_ GE105.out | refine below_set ?_ GE108.out) | exact HB.out)) hb)
     clear BK101
     clear BK105
     clear BK108
     clear HB
     have BK101 := n0_
     have BK105 := n1_
     have BK108 := n2_
     have HB := n3_
     clear n0_ n1_ n2_ n3_
     (try clear hb)
     (try clear hb2)
     (try clear hk)
     (try clear hi)
     refine hK.out _ _ ⟨(blk_cell BK105.out 0).trans rfl,(blk_cell BK105.out 1).trans rfl,(blk_cell BK108.out 0).trans rfl,(blk_cell BK108.out 1).trans rfl,(blk_cell BK101.out 0).trans rfl,(blk_cell BK101.out 1).trans rfl,(blk_cell BK101.out 2).trans rfl,(blk_cell BK101.out 3).trans rfl,(blk_cell BK101.out 4).trans rfl,(blk_cell BK101.out 5).trans rfl,(blk_cell BK101.out 6).trans rfl,(blk_cell BK101.out 7).trans rfl,(blk_cell BK101.out 8).trans rfl,(blk_cell BK101.out 9).trans rfl,(blk_cell BK101.out 10).trans rfl,(blk_cell BK101.out 11).trans rfl,(blk_cell BK101.out 12).trans rfl,(blk_cell BK101.out 13).trans rfl,(blk_cell BK101.out 14).trans rfl⟩ (fun hHeld => ?_)
     clear hK K
     refine norm_ (a' := ?_) ?_ ?_
     rotate_left
     ·show Act.put _ (some 28) _ = _
      simp only [Act.put,List.setIfInBounds_toArray,List.set_cons_zero,List.set_cons_succ,i64_w,i32_w]
      rfl
     refine one_ (i := 3) (N := some 29) #[true,true,true,true,false,true,true,true,true,false,false] rfl rfl (one_of HT_.out (by kernel_rfl)) (by decide) (fun K hK => ?_)
     refine goes_ Try.func33 (by kernel_rfl) rfl #[.agg #[.int .u64 t110,.int .u64 t111]] (by rfl) rfl rfl (by (try simp only [List.map_toArray,List.map_cons,List.map_nil]);first | done | rfl | (simp only [List.length_drop,List.length_take];rfl)) ?_
     with_reducible refine (pacemakerref03_SqrtWide.calls kj1 t110 t111 t112 _ A30.out).mono ?_
     rintro e w47 ⟨rfl,hb⟩
     refine ⟨_,rfl,?_⟩
     have n0_ := Aside0.mk (blk_below (g := gb101) (o := .cells #[.int .i64 a0_0,.int .i64 a0_1,.int .i64 a0_2,.int .i64 a0_3,.int .i64 a0_4,.int .i64 a0_5,.int .i64 a0_6,.int .i64 a0_7,.int .i64 a0_8,.int .i64 a0_9,.int .i64 a0_10,.int .i64 a0_11,.int .i64 a0_12,.int .i64 a0_13,.int .i64 a0_14] 29 (0,0)) (by (with_reducible repeat (first | refine blk_drewN ?_ _ | refine blk_drew ?_ | refine blk_alloc ?_ _));exact BK101.out) hb)
     have n1_ := Aside0.mk (blk_below (g := gb105) (o := .cells #[.int .u64 t103,.int .u64 t104] 24 (0,0)) (by (with_reducible repeat (first | refine blk_drewN ?_ _ | refine blk_drew ?_ | refine blk_alloc ?_ _));exact BK105.out) hb)
     have n2_ := Aside0.mk (blk_below (g := gb108) (o := .cells #[.int .u64 t106,.int .u64 t107] 24 (0,0)) (by (with_reducible repeat (first | refine blk_drewN ?_ _ | refine blk_drew ?_ | refine blk_alloc ?_ _));exact BK108.out) hb)
     have n3_ := Aside0.mk (below_step (by repeat (first | (with_reducible first | exact HB.out | apply below_alloc | apply pw_below_drewN | apply below_drew1 | refine below_set ?_ GE101.out | refine below_set ?_ GE105.out | refine below_set ?_ GE108.out) | exact HB.out)) hb)
     clear BK101
     clear BK105
     clear BK108
     clear HB
     have BK101 := n0_
     have BK105 := n1_
     have BK108 := n2_
     have HB := n3_
     clear n0_ n1_ n2_ n3_
     (try clear hb)
     (try clear hb2)
     (try clear hk)
     (try clear hi)
     refine hK.out _ _ ⟨(blk_cell BK105.out 0).trans rfl,(blk_cell BK105.out 1).trans rfl,(blk_cell BK108.out 0).trans rfl,(blk_cell BK108.out 1).trans rfl,(blk_cell BK101.out 0).trans rfl,(blk_cell BK101.out 1).trans rfl,(blk_cell BK101.out 2).trans rfl,(blk_cell BK101.out 3).trans rfl,(blk_cell BK101.out 4).trans rfl,(blk_cell BK101.out 5).trans rfl,(blk_cell BK101.out 6).trans rfl,(blk_cell BK101.out 7).trans rfl,(blk_cell BK101.out 8).trans rfl,(blk_cell BK101.out 9).trans rfl,(blk_cell BK101.out 10).trans rfl,(blk_cell BK101.out 11).trans rfl,(blk_cell BK101.out 12).trans rfl,(blk_cell BK101.out 13).trans rfl,(blk_cell BK101.out 14).trans rfl⟩ (fun hHeld => ?_)
     clear hK K
     refine norm_ (a' := ?_) ?_ ?_
     rotate_left
     ·show Act.put _ (some 29) _ = _
      simp only [Act.put,List.setIfInBounds_toArray,List.set_cons_zero,List.set_cons_succ,i64_w,i32_w]
      rfl
     refine pure_ (i := 4) (N := some 30) (v := ?_) (a' := ?_) #[true,true,true,true,true,true,true,true,true,false,false] rfl rfl (any_of HT_.out (by kernel_rfl)) (fun _ _ _ h => h) (Or.inl ⟨by rfl,?_⟩) ?_ ?_
     rotate_left
     ·intro w'
      go_simp
      with_reducible rfl
     rotate_left
     ·simp only [Act.put,List.setIfInBounds_toArray,List.set_cons_zero,List.set_cons_succ,i64_w,i32_w]
      rfl
     refine one_ (i := 9) (N := some 35) #[true,true,true,true,true,true,true,true,true,true,false] rfl rfl (one_of HT_.out (by kernel_rfl)) (by decide) (fun K hK => ?_)
     refine goes_ Try.func11 (by kernel_rfl) rfl #[.agg #[.int .u64 0,.int .u64 t112],.agg #[.int .u64 0,.int .u64 (IntKind.u64.wrap (a0_9))]] (by rfl) rfl rfl (by (try simp only [List.map_toArray,List.map_cons,List.map_nil]);first | done | rfl | (simp only [List.length_drop,List.length_take];rfl)) ?_
     with_reducible refine (pacemakerref10_Ratio.calls kj1 0 t112 0 (IntKind.u64.wrap (a0_9)) t113 _ A31.out).mono ?_
     rintro e w48 ⟨rfl,hb⟩
     refine ⟨_,rfl,?_⟩
     have n0_ := Aside0.mk (blk_below (g := gb101) (o := .cells #[.int .i64 a0_0,.int .i64 a0_1,.int .i64 a0_2,.int .i64 a0_3,.int .i64 a0_4,.int .i64 a0_5,.int .i64 a0_6,.int .i64 a0_7,.int .i64 a0_8,.int .i64 a0_9,.int .i64 a0_10,.int .i64 a0_11,.int .i64 a0_12,.int .i64 a0_13,.int .i64 a0_14] 29 (0,0)) (by (with_reducible repeat (first | refine blk_drewN ?_ _ | refine blk_drew ?_ | refine blk_alloc ?_ _));exact BK101.out) hb)
     have n1_ := Aside0.mk (blk_below (g := gb105) (o := .cells #[.int .u64 t103,.int .u64 t104] 24 (0,0)) (by (with_reducible repeat (first | refine blk_drewN ?_ _ | refine blk_drew ?_ | refine blk_alloc ?_ _));exact BK105.out) hb)
     have n2_ := Aside0.mk (blk_below (g := gb108) (o := .cells #[.int .u64 t106,.int .u64 t107] 24 (0,0)) (by (with_reducible repeat (first | refine blk_drewN ?_ _ | refine blk_drew ?_ | refine blk_alloc ?_ _));exact BK108.out) hb)
     have n3_ := Aside0.mk (below_step (by repeat (first | (with_reducible first | exact HB.out | apply below_alloc | apply pw_below_drewN | apply below_drew1 | refine below_set ?_ GE101.out | refine below_set ?_ GE105.out | refine below_set ?_ GE108.out) | exact HB.out)) hb)
     clear BK101
     clear BK105
     clear BK108
     clear HB
     have BK101 := n0_
     have BK105 := n1_
     have BK108 := n2_
     have HB := n3_
     clear n0_ n1_ n2_ n3_
     (try clear hb)
     (try clear hb2)
     (try clear hk)
     (try clear hi)
     refine hK.out _ _ ⟨(blk_cell BK105.out 0).trans rfl,(blk_cell BK105.out 1).trans rfl,(blk_cell BK108.out 0).trans rfl,(blk_cell BK108.out 1).trans rfl,(blk_cell BK101.out 0).trans rfl,(blk_cell BK101.out 1).trans rfl,(blk_cell BK101.out 2).trans rfl,(blk_cell BK101.out 3).trans rfl,(blk_cell BK101.out 4).trans rfl,(blk_cell BK101.out 5).trans rfl,(blk_cell BK101.out 6).trans rfl,(blk_cell BK101.out 7).trans rfl,(blk_cell BK101.out 8).trans rfl,(blk_cell BK101.out 9).trans rfl,(blk_cell BK101.out 10).trans rfl,(blk_cell BK101.out 11).trans rfl,(blk_cell BK101.out 12).trans rfl,(blk_cell BK101.out 13).trans rfl,(blk_cell BK101.out 14).trans rfl⟩ (fun hHeld => ?_)
     clear hK K
     refine norm_ (a' := ?_) ?_ ?_
     rotate_left
     ·show Act.put _ (some 35) _ = _
      simp only [Act.put,List.setIfInBounds_toArray,List.set_cons_zero,List.set_cons_succ,i64_w,i32_w]
      rfl
     refine pure_ (i := 10) (N := some 2) (v := ?_) (a' := ?_) #[true,true,true,true,true,true,true,true,true,true,true] rfl rfl (any_of HT_.out (by kernel_rfl)) (fun _ _ _ h => h) (Or.inl ⟨by rfl,?_⟩) ?_ ?_
     rotate_left
     ·intro w'
      go_simp
      with_reducible rfl
     rotate_left
     ·simp only [Act.put,List.setIfInBounds_toArray,List.set_cons_zero,List.set_cons_succ,i64_w,i32_w]
      rfl
     refine done_ (done_of HT_.out (by kernel_rfl)) ?_
     try go_wp2
     go_ret
     exact ⟨by first | rfl | (simp [errW_none,errW_some] <;> rfl) | (simp [*,errW_none,errW_some] <;> rfl),by repeat (first | (with_reducible first | exact HB.out | apply below_alloc | apply pw_below_drewN | apply below_drew1 | refine below_set ?_ GE101.out | refine below_set ?_ GE105.out | refine below_set ?_ GE108.out) | exact HB.out)⟩

end Go.Proofs.Ytcmbogdilplmlaa.P
