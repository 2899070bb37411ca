import Derived.Test.YtcmbogdilplmlaaS13
import Derived.Test.YtcmbogdilplmlaaPx6
namespace Go.Proofs.Ytcmbogdilplmlaa.P
open Go.RowKit Go.Proofs.YtcmbogdilplmlaaW.PrintWords Go.Proofs.YtcmbogdilplmlaaW.PrintLast Go.Proofs.YtcmbogdilplmlaaW.PrintMore Go.Proofs.YtcmbogdilplmlaaX
attribute [local go_sem] max2_int min2_int max_two min_two max_three min_three max_four min_four
set_option linter.unusedVariables false
set_option linter.unusedSimpArgs false
open Go.Proofs.Th
theorem of_eq {n : Int} (h0 : -4398046511104 ≤ n) (h1 : n ≤ 4398046511104) : fix_Of.f n = some (n * 1048576) := by
  unfold fix_Of.f mx mn
  congr 1
  repeat' split
  all_goals omega
theorem samp1 : pacemakerlaw10_sampled.f [(⟨0, 10⟩ : S36), (⟨10, 30⟩ : S36), (⟨20, 50⟩ : S36)] = some (0, 0, -1, 3, 3, 0, 3, 3, 0, 3, 30, 90, 500, 1300, 3500, true) := by
  unfold pacemakerlaw10_sampled.f
  rw [if_pos (by decide +kernel)]
  rfl
theorem samp2 : pacemakerlaw10_sampled.f [(⟨5, 7⟩ : S36), (⟨5, 9⟩ : S36)] = some (0, 0, -1, 2, 2, 0, 2, 2, 0, 2, 10, 16, 50, 80, 130, true) := by
  unfold pacemakerlaw10_sampled.f
  rw [if_pos (by decide +kernel)]
  rfl
theorem fitted_eq (k : Nat) (hk : 100 ≤ k) : pacemakerlaw10_fitted.f k = some true := by
  have r1 : rightB 0 0 (-1) 3 3 0 3 3 0 3 30 90 500 1300 3500 = true := by decide +kernel
  have r2 : rightB 0 0 (-1) 2 2 0 2 2 0 2 10 16 50 80 130 = true := by decide +kernel
  have m1 := mean_yes _ _ _ _ _ _ _ _ _ _ _ _ _ _ _ r1 (by decide)
  have m2 := mean_yes _ _ _ _ _ _ _ _ _ _ _ _ _ _ _ r2 (by decide)
  have d1 := dev_yes _ _ _ _ _ _ _ _ _ _ _ _ _ _ _ k (by omega) r1 (by decide)
  have d2 := dev_yes _ _ _ _ _ _ _ _ _ _ _ _ _ _ _ k (by omega) r2 (by decide)
  have g1 := grade_yes _ _ _ _ _ _ _ _ _ _ _ _ _ _ _ k (by omega) r1 (by decide)
  have g2 := grade_yes _ _ _ _ _ _ _ _ _ _ _ _ _ _ _ k (by omega) r2 (by decide)
  have v1 : ratioI 90 3 = 31457280 := by decide +kernel
  have v2 : ratioI 16 2 = 8388608 := by decide +kernel
  have v3 : devI 3 90 3500 = 16777216 := by
    unfold devI
    rw [if_neg (by decide), show (3 : Int) * 3500 - 90 * 90 = 2400 by decide, isq_eq (a := 2400) (s := 48) (by decide) (by decide) (by decide)]
    decide +kernel
  have v4 : devI 2 16 130 = 1048576 := by
    unfold devI
    rw [if_neg (by decide), show (2 : Int) * 130 - 16 * 16 = 4 by decide, isq_eq (a := 4) (s := 2) (by decide) (by decide) (by decide)]
    decide +kernel
  have v5 : gradeI 3 30 90 500 1300 = 2097152 := by decide +kernel
  have v6 : gradeI 2 10 16 50 80 = 0 := by decide +kernel
  have v7 : slope_Ratio.f 0 1 0 3 = some 349525 := by decide +kernel
  rw [v1] at m1
  rw [v2] at m2
  rw [v3] at d1
  rw [v4] at d2
  rw [v5] at g1
  rw [v6] at g2
  have o1 : fix_Of.f 30 = some 31457280 := of_eq (by decide) (by decide)
  have o2 : fix_Of.f 16 = some 16777216 := of_eq (by decide) (by decide)
  have o3 : fix_Of.f 2 = some 2097152 := of_eq (by decide) (by decide)
  have o4 : fix_Of.f 8 = some 8388608 := of_eq (by decide) (by decide)
  have o5 : fix_Of.f 1 = some 1048576 := of_eq (by decide) (by decide)
  unfold pacemakerlaw10_fitted.f
  simp only [samp1, samp2, Option.bind_some, if_true, m1, m2, d1, d2, g1, g2, o1, o2, o3, o4, o5, v7]
  first | rfl | decide +kernel
open Go.Proofs.Th
theorem sm_sg (f : S36 → Int) (l : List S36) : sm f l = sg f l := by
  induction l with
  | nil => rfl
  | cons x l ih => simp only [sm, sg, ih]
theorem good_ok {l : List S36} (h : goodB l = true) : l.length ≤ 100 ∧ ∀ x ∈ l, okS x := by
  unfold goodB at h
  rw [Bool.and_eq_true, decide_eq_true_eq] at h
  exact ⟨h.1, all_ok.1 h.2⟩
theorem ok_good {l : List S36} (h : l.length ≤ 100) (h1 : ∀ x ∈ l, okS x) : goodB l = true := by
  unfold goodB
  rw [decide_eq_true h, all_ok.2 h1]; rfl
def f2 (f g : S36 → Int) (x : S36) : Int := f x * g x
theorem sampled_good {l : List S36} (h : goodB l = true) : pacemakerlaw10_sampled.f l = some (0, 0, -1, (l.length : Int), (l.length : Int), 0, (l.length : Int), (l.length : Int), 0, (l.length : Int), sg S36.f0 l, sg S36.f1 l, sg (fun x => x.f0 * x.f0) l, sg (fun x => x.f0 * x.f1) l, sg (fun x => x.f1 * x.f1) l, true) := by
  unfold pacemakerlaw10_sampled.f
  rw [if_pos h, sm_sg, sm_sg, sm_sg, sm_sg, sm_sg]
theorem sampled_bad {l : List S36} (h : ¬ goodB l = true) : pacemakerlaw10_sampled.f l = some (0, 0, 0, 0, 0, 0, 0, 0, 0, 0, 0, 0, 0, 0, 0, false) := by
  unfold pacemakerlaw10_sampled.f
  rw [if_neg h]
theorem good_bd {l : List S36} (h : goodB l = true) : (0 ≤ sg S36.f0 l ∧ sg S36.f0 l ≤ l.length * 60000000) ∧ (0 ≤ sg S36.f1 l ∧ sg S36.f1 l ≤ l.length * 60000000) ∧ (0 ≤ sg (fun x => x.f0 * x.f0) l ∧ sg (fun x => x.f0 * x.f0) l ≤ l.length * 3600000000000000) ∧ (0 ≤ sg (fun x => x.f0 * x.f1) l ∧ sg (fun x => x.f0 * x.f1) l ≤ l.length * 3600000000000000) ∧ (0 ≤ sg (fun x => x.f1 * x.f1) l ∧ sg (fun x => x.f1 * x.f1) l ≤ l.length * 3600000000000000) := by
  obtain ⟨hl, ho⟩ := good_ok h
  have b0 := sm_bd S36.f0 60000000 (fun x h => ⟨h.1, h.2.1⟩) _ ho
  have b1 := sm_bd S36.f1 60000000 (fun x h => ⟨h.2.2.1, h.2.2.2⟩) _ ho
  have b2 := sm_bd (fun x => x.f0 * x.f0) 3600000000000000 (fun x h => mul_bd h.1 h.2.1 h.1 h.2.1) _ ho
  have b3 := sm_bd (fun x => x.f0 * x.f1) 3600000000000000 (fun x h => mul_bd h.1 h.2.1 h.2.2.1 h.2.2.2) _ ho
  have b4 := sm_bd (fun x => x.f1 * x.f1) 3600000000000000 (fun x h => mul_bd h.2.2.1 h.2.2.2 h.2.2.1 h.2.2.2) _ ho
  rw [sm_sg] at b0 b1 b2 b3 b4
  exact ⟨b0, b1, b2, b3, b4⟩
theorem good_right {l : List S36} (h : goodB l = true) : rightB 0 0 (-1) (l.length : Int) (l.length : Int) 0 (l.length : Int) (l.length : Int) 0 (l.length : Int) (sg S36.f0 l) (sg S36.f1 l) (sg (fun x => x.f0 * x.f0) l) (sg (fun x => x.f0 * x.f1) l) (sg (fun x => x.f1 * x.f1) l) = true := by
  obtain ⟨b0, b1, b2, b3, b4⟩ := good_bd h
  have := (good_ok h).1
  exact right2 _ _ _ _ _ _ _ (by omega) (by omega) (by omega) b0 b1 b2 b3 b4
def meanL (l : List S36) : Int := if l.length = 0 then 0 else ratioI (sg S36.f1 l) l.length
def devL (l : List S36) : Int := if l.length = 0 then 0 else ratioI (isq (cov S36.f1 S36.f1 l)) l.length
def gradeG (d n : Int) : Int := if d ≤ 0 then 0 else if n < 0 then -(ratioI (-n) d) else ratioI n d
def gradeL (l : List S36) : Int := if l.length = 0 then 0 else gradeG (cov S36.f0 S36.f0 l) (cov S36.f0 S36.f1 l)
theorem mean_l {l : List S36} (h : goodB l = true) : slope_Mean.f 0 0 (-1) (l.length : Int) (l.length : Int) 0 (l.length : Int) (l.length : Int) 0 (l.length : Int) (sg S36.f0 l) (sg S36.f1 l) (sg (fun x => x.f0 * x.f0) l) (sg (fun x => x.f0 * x.f1) l) (sg (fun x => x.f1 * x.f1) l) = some (meanL l) := by
  unfold meanL
  by_cases z : l.length = 0
  · rw [if_pos z]
    exact mean_no _ _ _ _ _ _ _ _ _ _ _ _ _ _ _ (.inr (by omega))
  · rw [if_neg z]
    exact mean_yes _ _ _ _ _ _ _ _ _ _ _ _ _ _ _ (good_right h) (by omega)
theorem dev_l {l : List S36} (h : goodB l = true) (k : Nat) (hk : 70 ≤ k) : slope_Dev.f k 0 0 (-1) (l.length : Int) (l.length : Int) 0 (l.length : Int) (l.length : Int) 0 (l.length : Int) (sg S36.f0 l) (sg S36.f1 l) (sg (fun x => x.f0 * x.f0) l) (sg (fun x => x.f0 * x.f1) l) (sg (fun x => x.f1 * x.f1) l) = some (devL l) := by
  unfold devL
  by_cases z : l.length = 0
  · rw [if_pos z]
    exact dev_no _ _ _ _ _ _ _ _ _ _ _ _ _ _ _ k (.inr (by omega))
  · rw [if_neg z, dev_yes _ _ _ _ _ _ _ _ _ _ _ _ _ _ _ k hk (good_right h) (by omega)]
    have c := cov_nn S36.f1 l
    unfold cov at c ⊢
    unfold devI
    rw [if_neg (by omega)]
theorem grade_l {l : List S36} (h : goodB l = true) (k : Nat) (hk : 1 ≤ k) : slope_Grade.f k 0 0 (-1) (l.length : Int) (l.length : Int) 0 (l.length : Int) (l.length : Int) 0 (l.length : Int) (sg S36.f0 l) (sg S36.f1 l) (sg (fun x => x.f0 * x.f0) l) (sg (fun x => x.f0 * x.f1) l) (sg (fun x => x.f1 * x.f1) l) = some (gradeL l) := by
  unfold gradeL
  by_cases z : l.length = 0
  · rw [if_pos z]
    exact grade_no _ _ _ _ _ _ _ _ _ _ _ _ _ _ _ k (.inr (by omega))
  · rw [if_neg z, grade_yes _ _ _ _ _ _ _ _ _ _ _ _ _ _ _ k hk (good_right h) (by omega)]
    rfl
theorem grade_turn (d n : Int) : gradeG d (-n) = -(gradeG d n) := by
  unfold gradeG
  by_cases c : d ≤ 0
  · rw [if_pos c, if_pos c]; rfl
  · rw [if_neg c, if_neg c]
    by_cases e : n < 0
    · rw [if_neg (by omega), if_pos e, Int.neg_neg]
    · rw [if_neg e]
      by_cases z : n = 0
      · subst z
        have r : ratioI 0 d = 0 := rfl
        rw [if_neg (by decide), show (-0 : Int) = 0 from rfl, r]; rfl
      · rw [if_pos (by omega), Int.neg_neg]
theorem grade_rng {d n : Int} : -4611686018427387904 ≤ gradeG d n ∧ gradeG d n ≤ 4611686018427387904 := by
  unfold gradeG
  by_cases c : d ≤ 0
  · rw [if_pos c]; omega
  · rw [if_neg c]
    by_cases e : n < 0
    · have := ratio_rng (A := -n) (B := d) (by omega) (by omega)
      rw [if_pos e]; omega
    · have := ratio_rng (A := n) (B := d) (by omega) (by omega)
      rw [if_neg e]; omega
theorem rd_mem {l : List S36} {i : Nat} (h : i < l.length) : rd_T36 l (i : Int) = l[i] := by
  unfold rd_T36
  simp [List.getD, h]
theorem take_snoc {α : Type} {l : List S36} (g : S36 → α) {i : Nat} (h : i < l.length) : (l.take (i + 1)).map g = (l.take i).map g ++ [g (rd_T36 l (i : Int))] := by
  rw [List.take_succ_eq_append_getElem h, List.map_append, rd_mem h]; rfl

end Go.Proofs.Ytcmbogdilplmlaa.P
