/- Samples told backwards have the grade turned, the same mean and spread. -/
import Derived.Test.YtcmbogdilplmlaaPx18
import Derived.Test.YtcmbogdilplmlaaS14
set_option linter.unusedVariables false
set_option linter.unusedSimpArgs false
namespace Go.Proofs.Ytcmbogdilplmlaa.Pure
open Go.RowKit Go.Proofs.Th Go.Proofs.YtcmbogdilplmlaaW.PrintWords Go.Proofs.YtcmbogdilplmlaaW.PrintMore Go.Proofs.Ytcmbogdilplmlaa.P
def turn (x : S36) : S36 := ⟨60000000 - x.f0, x.f1⟩
theorem turn_ok {x : S36} (h : okS x) : okS (turn x) := by unfold okS turn at *; exact ⟨by show 0 ≤ 60000000 - x.f0; omega, by show 60000000 - x.f0 ≤ 60000000; omega, h.2.2⟩
theorem turn_good {l : List S36} (h : goodB l = true) : goodB (l.map turn) = true := by
  obtain ⟨hl, ho⟩ := good_ok h
  refine ok_good (by simpa using hl) fun x hx => ?_
  obtain ⟨y, hy, rfl⟩ := List.mem_map.1 hx
  exact turn_ok (ho y hy)
theorem turn_d (l : List S36) : cov S36.f0 S36.f0 (l.map turn) = cov S36.f0 S36.f0 l := by
  rw [cov_map]
  have e : (fun x => S36.f0 (turn x)) = fun x : S36 => 60000000 + -1 * x.f0 := by funext x; show 60000000 - x.f0 = _; omega
  rw [e, cov_shift (fun x => 60000000 + -1 * S36.f0 x) S36.f0, cov_comm (fun x => 60000000 + -1 * S36.f0 x) S36.f0, cov_shift S36.f0 S36.f0]
  omega
theorem turn_n (l : List S36) : cov S36.f0 S36.f1 (l.map turn) = -cov S36.f0 S36.f1 l := by
  rw [cov_map, cov_comm]
  have e : (fun x => S36.f0 (turn x)) = fun x : S36 => 60000000 + -1 * x.f0 := by funext x; show 60000000 - x.f0 = _; omega
  have e1 : (fun x => S36.f1 (turn x)) = S36.f1 := rfl
  rw [e, e1, cov_shift S36.f1 S36.f0, cov_comm S36.f1]
  omega
theorem turn_grade (l : List S36) : gradeL (l.map turn) = -gradeL l := by
  unfold gradeL
  rw [turn_d, turn_n, grade_turn, List.length_map]
  split <;> rfl
theorem turn_mean (l : List S36) : meanL (l.map turn) = meanL l := by
  unfold meanL
  rw [sg_map, List.length_map]; rfl
theorem turn_dev (l : List S36) : devL (l.map turn) = devL l := by
  unfold devL
  rw [cov_map, List.length_map]; rfl
theorem turns_l0 {l : List S36} (hg : goodB l = true) (m0 m1 m2 m3 m4 m5 m6 m7 m8 m9 m10 m11 m12 m13 m14 : Int) : ∀ (n k i : Nat), i + n = l.length →
    pacemakerlaw10_SlopeTurns.l0 (k + n) l ((l.take i).map turn) (i : Int) m0 m1 m2 m3 m4 m5 m6 m7 m8 m9 m10 m11 m12 m13 m14 = pacemakerlaw10_SlopeTurns.l0 k l (l.map turn) (l.length : Int) m0 m1 m2 m3 m4 m5 m6 m7 m8 m9 m10 m11 m12 m13 m14
  | 0, k, i, h => by rw [show i = l.length by omega, List.take_length]; rfl
  | n + 1, k, i, h => by
    obtain ⟨hl, ho⟩ := good_ok hg
    have hi : i < l.length := by omega
    have hx := ho _ (List.getElem_mem hi)
    rw [← rd_mem hi] at hx
    unfold okS at hx
    have ih := turns_l0 hg m0 m1 m2 m3 m4 m5 m6 m7 m8 m9 m10 m11 m12 m13 m14 n k (i + 1) (by omega)
    rw [show k + (n + 1) = k + n + 1 by omega]
    simp only [pacemakerlaw10_SlopeTurns.l0]
    rw [if_pos (by omega), if_pos (by omega), if_pos (by simp; omega), wrap64_id (by omega) (by omega), wrap64_id (by omega) (by omega), ← ih, take_snoc turn hi]
    rfl
theorem SlopeTurns (l : List S36) (w : ∀ s ∈ l, (Lit.int .i64 s.f0).wf = true ∧ (Lit.int .i64 s.f1).wf = true) :
    ∃ k, P.pacemakerlaw10_SlopeTurns.f k l = some true := by
  refine ⟨1000, ?_⟩
  unfold P.pacemakerlaw10_SlopeTurns.f
  by_cases hg : goodB l = true
  · obtain ⟨hl, ho⟩ := good_ok hg
    rw [sampled_good hg]
    simp only [Option.bind_some]
    rw [if_neg (by omega)]
    have e : (1000 : Nat) = (999 - l.length + l.length) + 1 := by omega
    rw [e]
    simp only [pacemakerlaw10_SlopeTurns.j0, Bool.not_true, Bool.false_eq_true, if_false]
    have r := turns_l0 hg 0 0 (-1) (l.length : Int) (l.length : Int) 0 (l.length : Int) (l.length : Int) 0 (l.length : Int) (sg S36.f0 l) (sg S36.f1 l) (sg (fun x => x.f0 * x.f0) l) (sg (fun x => x.f0 * x.f1) l) (sg (fun x => x.f1 * x.f1) l) l.length (999 - l.length) 0 (by omega)
    rw [List.take_zero, List.map_nil] at r
    refine Eq.trans r ?_
    obtain ⟨k, hk⟩ : ∃ k, 999 - l.length = k + 1 := ⟨998 - l.length, by omega⟩
    rw [hk]
    have ht := turn_good hg
    simp only [pacemakerlaw10_SlopeTurns.l0]
    have hgr := grade_rng (d := cov S36.f0 S36.f0 l) (n := cov S36.f0 S36.f1 l)
    have hgl : -4611686018427387904 ≤ gradeL l ∧ gradeL l ≤ 4611686018427387904 := by unfold gradeL; split <;> omega
    rw [if_neg (by omega), sampled_good ht, fitted_eq k (by omega)]
    simp only [Option.bind_some, if_true]
    rw [grade_l ht k (by omega), grade_l hg k (by omega), mean_l ht, mean_l hg, dev_l ht k (by omega), dev_l hg k (by omega), turn_grade, turn_mean, turn_dev]
    simp only [Option.bind_some]
    rw [wrap64_id (by omega) (by omega)]
    simp only [if_true, beq_self_eq_true]
  · rw [sampled_bad hg]
    simp only [Option.bind_some, Bool.not_false]
    have e : P.pacemakerlaw10_SlopeTurns.j0 1000 l true 0 0 0 0 0 0 0 0 0 0 0 0 0 0 0 = some true := by
      simp only [pacemakerlaw10_SlopeTurns.j0, if_true]
      rw [fitted_eq 999 (by decide)]; rfl
    rw [e, ite_self]
end Go.Proofs.Ytcmbogdilplmlaa.Pure
