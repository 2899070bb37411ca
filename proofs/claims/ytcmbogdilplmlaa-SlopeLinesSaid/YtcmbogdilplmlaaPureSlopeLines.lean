/- Samples on a line have its grade; all the same on their way have no spread, and no grade. -/
import Derived.Test.YtcmbogdilplmlaaPx17
import Derived.Test.YtcmbogdilplmlaaS14
set_option linter.unusedVariables false
set_option linter.unusedSimpArgs false
namespace Go.Proofs.Ytcmbogdilplmlaa.Pure
open Go.RowKit Go.Proofs.Th Go.Proofs.YtcmbogdilplmlaaW.PrintWords Go.Proofs.YtcmbogdilplmlaaW.PrintMore Go.Proofs.YtcmbogdilplmlaaW.PrintLast Go.Proofs.Ytcmbogdilplmlaa.P
theorem mul_line {r y : Int} (h0 : 0 ≤ r) (h1 : r ≤ 50) (h2 : 0 ≤ y) (h3 : y ≤ 1000000) : 0 ≤ r * y ∧ r * y ≤ 50000000 :=
  ⟨Int.mul_nonneg h0 h2, Int.mul_le_mul h1 h3 h2 (by decide)⟩
def onLine (b r x : Int) : S36 := ⟨x, b + r * x⟩
def onFlat (b x : Int) : S36 := ⟨x, b⟩
def same (x : Int) : Int := x
theorem line_good {b r : Int} {l : List Int} (hb0 : 0 ≤ b) (hb1 : b ≤ 1000000) (hr0 : 0 ≤ r) (hr1 : r ≤ 50) (hl : l.length ≤ 100) (h : ∀ x ∈ l, 0 ≤ x ∧ x ≤ 1000000) : goodB (l.map (onLine b r)) = true := by
  refine ok_good (by simpa using hl) fun x hx => ?_
  obtain ⟨y, hy, rfl⟩ := List.mem_map.1 hx
  obtain ⟨y0, y1⟩ := h y hy
  have p := mul_line hr0 hr1 y0 y1
  refine ⟨y0, ?_, ?_, ?_⟩
  · show y ≤ 60000000; omega
  · show 0 ≤ b + r * y; omega
  · show b + r * y ≤ 60000000; omega
theorem flat_good {b : Int} {l : List Int} (hb0 : 0 ≤ b) (hb1 : b ≤ 1000000) (hl : l.length ≤ 100) (h : ∀ x ∈ l, 0 ≤ x ∧ x ≤ 1000000) : goodB (l.map (onFlat b)) = true := by
  refine ok_good (by simpa using hl) fun x hx => ?_
  obtain ⟨y, hy, rfl⟩ := List.mem_map.1 hx
  obtain ⟨y0, y1⟩ := h y hy
  refine ⟨y0, ?_, ?_, ?_⟩
  · show y ≤ 60000000; omega
  · show 0 ≤ b; omega
  · show b ≤ 60000000; omega
theorem line_d (b r : Int) (l : List Int) : cov S36.f0 S36.f0 (l.map (onLine b r)) = cov same same l := by rw [cov_map]; rfl
theorem line_n (b r : Int) (l : List Int) : cov S36.f0 S36.f1 (l.map (onLine b r)) = r * cov same same l := by
  rw [cov_map]
  exact cov_shift same same b r l
theorem flat_n (b : Int) (l : List Int) : cov S36.f0 S36.f1 (l.map (onFlat b)) = 0 := by
  rw [cov_map]
  exact cov_const same b l
theorem flat_v (b : Int) (l : List Int) : cov S36.f1 S36.f1 (l.map (onFlat b)) = 0 := by
  rw [cov_map]
  exact cov_const (fun _ => b) b l
theorem flat_s (b : Int) (l : List Int) : sg S36.f1 (l.map (onFlat b)) = b * l.length := by
  rw [sg_map]
  have := sg_const b l
  rw [Int.mul_comm b]
  exact this
theorem grade_zero (d : Int) : gradeG d 0 = 0 := by
  unfold gradeG
  split
  · rfl
  · rw [if_neg (by decide)]; rfl
theorem flat_grade (b : Int) (l : List Int) : gradeL (l.map (onFlat b)) = 0 := by
  unfold gradeL
  rw [flat_n, grade_zero, ite_self]
theorem isq_zero : isq 0 = 0 := isq_eq (a := 0) (s := 0) (by decide) (by decide) (by decide)
theorem flat_dev (b : Int) (l : List Int) : devL (l.map (onFlat b)) = 0 := by
  unfold devL
  have e : ratioI 0 ((l.map (onFlat b)).length : Int) = 0 := rfl
  rw [flat_v, isq_zero, e, ite_self]
theorem flat_mean {b : Int} {l : List Int} (hb0 : 0 ≤ b) (hb1 : b ≤ 1000000) (z : l.length ≠ 0) : meanL (l.map (onFlat b)) = b * 1048576 := by
  unfold meanL
  rw [flat_s, List.length_map, if_neg z, ratio_mul (by omega) hb0 (by omega)]
/-- Are two not at one time? As the loop asks it: is one of them not the first one's. -/
def twoB (l : List Int) (i : Nat) : Bool := (l.take i).any fun x => x != rd l 0
theorem rd_int {l : List Int} {i : Nat} (h : i < l.length) : rd l (i : Int) = l[i] := by
  unfold rd
  simp [List.getD, h]
theorem two_step {l : List Int} {i : Nat} (h : i < l.length) : twoB l (i + 1) = (twoB l i || (rd l (i : Int) != rd l 0)) := by
  unfold twoB
  rw [List.take_succ_eq_append_getElem h, List.any_append, rd_int h]
  simp
theorem line_grade {b r : Int} {l : List Int} (hr0 : 0 ≤ r) (hr1 : r ≤ 50) : gradeL (l.map (onLine b r)) = if twoB l l.length = true then r * 1048576 else 0 := by
  unfold gradeL twoB
  rw [line_d, line_n, List.length_map, List.take_length]
  match l with
  | [] => rfl
  | x :: l =>
    have e0 : rd (x :: l) 0 = x := rfl
    rw [e0, if_neg (by simp)]
    by_cases c : (x :: l).any (fun y => y != x) = true
    · rw [if_pos c]
      obtain ⟨y, hy, hn⟩ := List.any_eq_true.1 c
      have hn : y ≠ x := by simpa using hn
      have hp : 0 < cov same same (x :: l) := by
        refine cov_pos same x l ?_
        rcases List.mem_cons.1 hy with h | h
        · exact absurd h hn
        · exact ⟨y, h, hn⟩
      have hrp := Int.mul_nonneg hr0 (Int.le_of_lt hp)
      unfold gradeG
      rw [if_neg (by omega), if_neg (by omega), ratio_mul hp hr0 (by omega)]
    · rw [if_neg c]
      have hz : cov same same (x :: l) = 0 := by
        refine cov_same same (x :: l) x fun y hy => ?_
        by_cases e : y = x
        · exact e
        · exact absurd (List.any_eq_true.2 ⟨y, hy, by simpa using e⟩) c
      rw [hz]
      rfl
theorem snoc {α : Type} {l : List Int} (g : Int → α) {i : Nat} (h : i < l.length) : (l.take (i + 1)).map g = (l.take i).map g ++ [g (rd l (i : Int))] := by
  rw [List.take_succ_eq_append_getElem h, List.map_append, rd_int h]; rfl
/-- A row of rounds: up to the first time that may not be, or to the end. -/
theorem lines_l0 {l : List Int} (hl : l.length ≤ 100) {b r : Int} (hb0 : 0 ≤ b) (hb1 : b ≤ 1000000) (hr0 : 0 ≤ r) (hr1 : r ≤ 50) (V : Option Bool) (k : Nat) (hk : 200 ≤ k) (hf : V = some true)
    (hend : (∀ x ∈ l, 0 ≤ x ∧ x ≤ 1000000) → pacemakerlaw10_SlopeLines.l0 k l b r (l.map (onLine b r)) (l.map (onFlat b)) (twoB l l.length) (l.length : Int) = V) :
    ∀ (n i : Nat), i + n = l.length → (∀ x ∈ l.take i, 0 ≤ x ∧ x ≤ 1000000) →
    pacemakerlaw10_SlopeLines.l0 (k + 2 * n) l b r ((l.take i).map (onLine b r)) ((l.take i).map (onFlat b)) (twoB l i) (i : Int) = V
  | 0, i, h, hx => by
    have e : i = l.length := by omega
    subst e
    rw [List.take_length] at hx ⊢
    exact hend hx
  | n + 1, i, h, hx => by
    have hi : i < l.length := by omega
    rw [show k + 2 * (n + 1) = (k + 2 * n + 1) + 1 by omega]
    simp only [pacemakerlaw10_SlopeLines.l0]
    rw [if_pos (by omega), if_pos (by omega)]
    by_cases c0 : rd l (i : Int) < 0
    · rw [if_pos c0, fitted_eq (k + 2 * n + 1) (by omega), hf]; rfl
    rw [if_neg c0]
    by_cases c1 : rd l (i : Int) > 1000000
    · rw [if_pos c1, fitted_eq (k + 2 * n + 1) (by omega), hf]; rfl
    rw [if_neg c1]
    have p := mul_line (r := r) (y := rd l (i : Int)) hr0 hr1 (by omega) (show rd l (i : Int) ≤ 1000000 by omega)
    have ih := lines_l0 hl hb0 hb1 hr0 hr1 V k hk hf hend n (i + 1) (by omega) (fun x hx' => by
      rw [List.take_succ_eq_append_getElem hi, List.mem_append] at hx'
      rcases hx' with h | h
      · exact hx x h
      · rw [List.mem_singleton] at h
        rw [h, ← rd_int hi]
        omega)
    have ln1 : ((l.take i).map (onLine b r)).length < 8796093022208 := by rw [List.length_map, List.length_take]; omega
    have ln2 : ((l.take i).map (onFlat b)).length < 8796093022208 := by rw [List.length_map, List.length_take]; omega
    rw [snoc (onLine b r) hi, snoc (onFlat b) hi, two_step hi] at ih
    have st : ∀ t : Bool, pacemakerlaw10_SlopeLines.l0 (k + 2 * n) l b r ((l.take i).map (onLine b r) ++ [onLine b r (rd l (i : Int))]) ((l.take i).map (onFlat b) ++ [onFlat b (rd l (i : Int))]) t ((i + 1 : Nat) : Int) = V → pacemakerlaw10_SlopeLines.j2 (k + 2 * n + 1) l b r ((l.take i).map (onLine b r)) ((l.take i).map (onFlat b)) t (i : Int) = V := by
      intro t e
      simp only [pacemakerlaw10_SlopeLines.j2]
      rw [wrap64_id (x := r * rd l (i : Int)) (by omega) (by omega), wrap64_id (x := b + r * rd l (i : Int)) (by omega) (by omega), wrap64_id (x := (i : Int) + 1) (by omega) (by omega), if_pos (by omega), if_pos (by omega), if_pos ln1, if_pos ln2]
      exact e
    by_cases t : twoB l i = true
    · rw [t, Bool.true_or] at ih
      rw [if_pos t]
      exact st true ih
    · rw [Bool.eq_false_iff.2 t, Bool.false_or] at ih
      rw [if_neg t, if_pos (by omega)]
      exact st _ ih
theorem lines_skip (k : Nat) (hk : 101 ≤ k) (l : List Int) (b r : Int) : pacemakerlaw10_SlopeLines.j0 k l b r true = some true := by
  obtain ⟨k, rfl⟩ : ∃ m, k = m + 1 := ⟨k - 1, by omega⟩
  simp only [pacemakerlaw10_SlopeLines.j0, if_true]
  rw [fitted_eq k (by omega)]; rfl
theorem lines_end {l : List Int} (hl : l.length ≤ 100) {b r : Int} (hb0 : 0 ≤ b) (hb1 : b ≤ 1000000) (hr0 : 0 ≤ r) (hr1 : r ≤ 50) (k : Nat) (hk : 200 ≤ k) (h : ∀ x ∈ l, 0 ≤ x ∧ x ≤ 1000000) :
    pacemakerlaw10_SlopeLines.l0 k l b r (l.map (onLine b r)) (l.map (onFlat b)) (twoB l l.length) (l.length : Int) = some true := by
  obtain ⟨k, rfl⟩ : ∃ m, k = m + 3 := ⟨k - 3, by omega⟩
  have g1 := line_good hb0 hb1 hr0 hr1 hl h
  have g2 := flat_good hb0 hb1 hl h
  rw [show k + 3 = (k + 2) + 1 from rfl]
  simp only [pacemakerlaw10_SlopeLines.l0]
  rw [if_neg (by omega), sampled_good g1, sampled_good g2]
  simp only [Option.bind_some, if_true]
  rw [show k + 2 = (k + 1) + 1 from rfl]
  simp only [pacemakerlaw10_SlopeLines.j3]
  by_cases z : l.length = 0
  · rw [show ((l.length : Int) == 0) = true by rw [beq_iff_eq]; omega, if_pos rfl, fitted_eq (k + 1) (by omega)]; rfl
  rw [show ((l.length : Int) == 0) = false by rw [beq_eq_false_iff_ne]; omega, if_neg (by decide), of_eq (n := r) (by omega) (by omega)]
  simp only [Option.bind_some]
  have e := line_grade (b := b) (l := l) hr0 hr1
  have fin : ∀ w : Int, gradeL (l.map (onLine b r)) = w → pacemakerlaw10_SlopeLines.j4 (k + 1) b w 0 0 (-1) ((l.map (onLine b r)).length : Int) ((l.map (onLine b r)).length : Int) 0 ((l.map (onLine b r)).length : Int) ((l.map (onLine b r)).length : Int) 0 ((l.map (onLine b r)).length : Int) (sg S36.f0 (l.map (onLine b r))) (sg S36.f1 (l.map (onLine b r))) (sg (fun x => x.f0 * x.f0) (l.map (onLine b r))) (sg (fun x => x.f0 * x.f1) (l.map (onLine b r))) (sg (fun x => x.f1 * x.f1) (l.map (onLine b r)))
      0 0 (-1) ((l.map (onFlat b)).length : Int) ((l.map (onFlat b)).length : Int) 0 ((l.map (onFlat b)).length : Int) ((l.map (onFlat b)).length : Int) 0 ((l.map (onFlat b)).length : Int) (sg S36.f0 (l.map (onFlat b))) (sg S36.f1 (l.map (onFlat b))) (sg (fun x => x.f0 * x.f0) (l.map (onFlat b))) (sg (fun x => x.f0 * x.f1) (l.map (onFlat b))) (sg (fun x => x.f1 * x.f1) (l.map (onFlat b))) = some true := by
    intro w hw
    simp only [pacemakerlaw10_SlopeLines.j4]
    rw [fitted_eq k (by omega)]
    simp only [Option.bind_some, if_true]
    rw [grade_l g1 k (by omega), grade_l g2 k (by omega), dev_l g2 k (by omega), mean_l g2, of_eq (n := b) (by omega) (by omega), flat_grade, flat_dev, flat_mean hb0 hb1 z]
    simp only [Option.bind_some, if_true]
    rw [if_pos hw, beq_self_eq_true]
  by_cases t : twoB l l.length = true
  · rw [if_pos t] at e ⊢
    exact fin _ e
  · rw [if_neg t] at e ⊢
    exact fin _ e
theorem SlopeLines : pacemakerlaw10_SlopeLines.Pure := by
  intro l b r hl8 hl9 hw hw1 hw2
  refine ⟨1000, ?_⟩
  unfold pacemakerlaw10_SlopeLines.f
  have sk := lines_skip 1000 (by decide) l b r
  by_cases c0 : (l.length : Int) > 100
  · rw [if_pos c0, sk]
  rw [if_neg c0]
  by_cases c1 : b < 0
  · rw [if_pos c1, sk]
  rw [if_neg c1]
  by_cases c2 : b > 1000000
  · rw [if_pos c2, sk]
  rw [if_neg c2]
  by_cases c3 : r < 0
  · rw [if_pos c3, sk]
  rw [if_neg c3]
  by_cases c4 : r > 50
  · rw [decide_eq_true c4, sk]
  rw [decide_eq_false c4]
  have e : (1000 : Nat) = (999 - 2 * l.length + 2 * l.length) + 1 := by omega
  rw [e]
  simp only [pacemakerlaw10_SlopeLines.j0, Bool.false_eq_true, if_false]
  have z := lines_l0 (l := l) (by omega) (b := b) (r := r) (by omega) (by omega) (by omega) (by omega) (some true) (999 - 2 * l.length) (by omega) rfl (fun h => lines_end (by omega) (by omega) (by omega) (by omega) (by omega) (999 - 2 * l.length) (by omega) h) l.length 0 (by omega) (fun x hx => by simp at hx)
  rw [List.take_zero, List.map_nil, List.map_nil] at z
  exact z
end Go.Proofs.Ytcmbogdilplmlaa.Pure
