/- As many microseconds more on the way of each sample turn neither spread nor grade, and add just these to the mean. -/
import Derived.Test.YtcmbogdilplmlaaPx16
import Derived.Test.YtcmbogdilplmlaaS14
set_option linter.unusedVariables false
set_option linter.unusedSimpArgs false
namespace Go.Proofs.Ytcmbogdilplmlaa.Pure
open Go.RowKit Go.Proofs.Th Go.Proofs.YtcmbogdilplmlaaW.PrintWords Go.Proofs.YtcmbogdilplmlaaW.PrintMore Go.Proofs.Ytcmbogdilplmlaa.P
def later (by_ : Int) (x : S36) : S36 := ⟨x.f0, x.f1 + by_⟩
theorem later_d (b : Int) (l : List S36) : cov S36.f0 S36.f0 (l.map (later b)) = cov S36.f0 S36.f0 l := by rw [cov_map]; rfl
theorem later_fun (b : Int) : (fun x => S36.f1 (later b x)) = fun x : S36 => b + 1 * x.f1 := by funext x; show x.f1 + b = _; omega
theorem later_n (b : Int) (l : List S36) : cov S36.f0 S36.f1 (l.map (later b)) = cov S36.f0 S36.f1 l := by
  rw [cov_map, later_fun]
  have e : (fun x => S36.f0 (later b x)) = S36.f0 := rfl
  rw [e, cov_shift, Int.one_mul]
theorem later_v (b : Int) (l : List S36) : cov S36.f1 S36.f1 (l.map (later b)) = cov S36.f1 S36.f1 l := by
  rw [cov_map, later_fun, cov_shift (fun x => b + 1 * S36.f1 x) S36.f1, cov_comm (fun x => b + 1 * S36.f1 x) S36.f1, cov_shift S36.f1 S36.f1]
  omega
theorem later_s (b : Int) (l : List S36) : sg S36.f1 (l.map (later b)) = sg S36.f1 l + b * l.length := by
  rw [sg_map, later_fun, sg_add (fun _ => b), sg_const, sg_mul, Int.mul_comm b]
  omega
theorem later_grade (b : Int) (l : List S36) : gradeL (l.map (later b)) = gradeL l := by
  unfold gradeL
  rw [later_d, later_n, List.length_map]
theorem later_dev (b : Int) (l : List S36) : devL (l.map (later b)) = devL l := by
  unfold devL
  rw [later_v, List.length_map]
theorem later_mean {b : Int} {l : List S36} (hg : goodB l = true) (h0 : 0 ≤ b) (h1 : b ≤ 60000000) (z : l.length ≠ 0) : meanL (l.map (later b)) = meanL l + b * 1048576 := by
  have sb := (good_bd hg).2.1
  have hn : 0 < (l.length : Int) := by omega
  have hq : sg S36.f1 l * 1048576 / l.length ≤ 60000000 * 1048576 := by
    have := Int.ediv_le_ediv hn (show sg S36.f1 l * 1048576 ≤ 60000000 * 1048576 * l.length by omega)
    rwa [Int.mul_ediv_cancel _ (by omega)] at this
  unfold meanL
  rw [later_s, List.length_map, if_neg z, if_neg z, ratio_add sb.1 hn h0 (by omega)]
theorem moves_l0 {l : List S36} (hg : goodB l = true) (b : Int) (h0 : 0 ≤ b) (h1 : b ≤ 60000000) (m0 m1 m2 m3 m4 m5 m6 m7 m8 m9 m10 m11 m12 m13 m14 : Int) : ∀ (n k i : Nat), i + n = l.length →
    pacemakerlaw10_SlopeMoves.l0 (k + n) l b ((l.take i).map (later b)) (i : Int) m0 m1 m2 m3 m4 m5 m6 m7 m8 m9 m10 m11 m12 m13 m14 = pacemakerlaw10_SlopeMoves.l0 k l b (l.map (later b)) (l.length : Int) m0 m1 m2 m3 m4 m5 m6 m7 m8 m9 m10 m11 m12 m13 m14
  | 0, k, i, h => by rw [show i = l.length by omega, List.take_length]; rfl
  | n + 1, k, i, h => by
    obtain ⟨hl, ho⟩ := good_ok hg
    have hi : i < l.length := by omega
    have hx := ho _ (List.getElem_mem hi)
    rw [← rd_mem hi] at hx
    unfold okS at hx
    have ih := moves_l0 hg b h0 h1 m0 m1 m2 m3 m4 m5 m6 m7 m8 m9 m10 m11 m12 m13 m14 n k (i + 1) (by omega)
    rw [show k + (n + 1) = k + n + 1 by omega]
    simp only [pacemakerlaw10_SlopeMoves.l0]
    rw [if_pos (by omega), if_pos (by omega), if_pos (by simp; omega), wrap64_id (by omega) (by omega), wrap64_id (by omega) (by omega), ← ih, take_snoc (later b) hi]
    rfl
theorem moves_skip (k : Nat) (hk : 101 ≤ k) (l : List S36) (b : Int) (m0 m1 m2 m3 m4 m5 m6 m7 m8 m9 m10 m11 m12 m13 m14 : Int) : pacemakerlaw10_SlopeMoves.j0 k l b true m0 m1 m2 m3 m4 m5 m6 m7 m8 m9 m10 m11 m12 m13 m14 = some true := by
  obtain ⟨k, rfl⟩ : ∃ m, k = m + 1 := ⟨k - 1, by omega⟩
  simp only [pacemakerlaw10_SlopeMoves.j0, if_true]
  rw [fitted_eq k (by omega)]; rfl
theorem moves_none (k : Nat) (hk : 101 ≤ k) (b : Int) (m0 m1 m2 m3 m4 m5 m6 m7 m8 m9 m10 m11 m12 m13 m14 n0 n1 n2 n3 n4 n5 n6 n7 n8 n9 n10 n11 n12 n13 n14 : Int) : pacemakerlaw10_SlopeMoves.j2 k b true m0 m1 m2 m3 m4 m5 m6 m7 m8 m9 m10 m11 m12 m13 m14 n0 n1 n2 n3 n4 n5 n6 n7 n8 n9 n10 n11 n12 n13 n14 = some true := by
  obtain ⟨k, rfl⟩ : ∃ m, k = m + 1 := ⟨k - 1, by omega⟩
  simp only [pacemakerlaw10_SlopeMoves.j2, if_true]
  rw [fitted_eq k (by omega)]; rfl
theorem SlopeMoves (l : List S36) (b : Int) (w : ∀ s ∈ l, (Lit.int .i64 s.f0).wf = true ∧ (Lit.int .i64 s.f1).wf = true) (w1 : (Lit.int .i64 b).wf = true) :
    ∃ k, P.pacemakerlaw10_SlopeMoves.f k l b = some true := by
  refine ⟨1000, ?_⟩
  unfold P.pacemakerlaw10_SlopeMoves.f
  by_cases hg : goodB l = true
  · obtain ⟨hl, ho⟩ := good_ok hg
    rw [sampled_good hg]
    simp only [Option.bind_some]
    rw [if_neg (by omega), if_pos trivial]
    by_cases hb0 : b < 0
    · rw [if_pos hb0, moves_skip 1000 (by decide)]
    rw [if_neg hb0]
    by_cases hb1 : b > 60000000
    · rw [decide_eq_true hb1, moves_skip 1000 (by decide)]
    rw [decide_eq_false hb1]
    have e : (1000 : Nat) = (999 - l.length + l.length) + 1 := by omega
    rw [e]
    simp only [pacemakerlaw10_SlopeMoves.j0, Bool.false_eq_true, if_false]
    have r := moves_l0 hg b (by omega) (by omega) 0 0 (-1) (l.length : Int) (l.length : Int) 0 (l.length : Int) (l.length : Int) 0 (l.length : Int) (sg S36.f0 l) (sg S36.f1 l) (sg (fun x => x.f0 * x.f0) l) (sg (fun x => x.f0 * x.f1) l) (sg (fun x => x.f1 * x.f1) l) l.length (999 - l.length) 0 (by omega)
    rw [List.take_zero, List.map_nil] at r
    refine Eq.trans r ?_
    obtain ⟨k, hk⟩ : ∃ k, 999 - l.length = k + 2 := ⟨997 - l.length, by omega⟩
    rw [hk, show k + 2 = (k + 1) + 1 from rfl]
    simp only [pacemakerlaw10_SlopeMoves.l0]
    rw [if_neg (by omega)]
    by_cases ht : goodB (l.map (later b)) = true
    · rw [sampled_good ht]
      simp only [Option.bind_some, if_true]
      by_cases z : l.length = 0
      · rw [show ((l.length : Int) == 0) = true by rw [beq_iff_eq]; omega, moves_none (k + 1) (by omega)]
      rw [show ((l.length : Int) == 0) = false by rw [beq_eq_false_iff_ne]; omega]
      simp only [pacemakerlaw10_SlopeMoves.j2, Bool.false_eq_true, if_false]
      have mr := ratio_rng (A := sg S36.f1 l) (B := (l.length : Int)) (good_bd hg).2.1.1 (by omega)
      have mb : 0 ≤ meanL l ∧ meanL l ≤ 4611686018427387904 := by unfold meanL; rw [if_neg z]; exact mr
      rw [fitted_eq k (by omega)]
      simp only [Option.bind_some, if_true]
      rw [dev_l ht k (by omega), dev_l hg k (by omega), grade_l ht k (by omega), grade_l hg k (by omega), mean_l ht, mean_l hg, of_eq (by omega) (by omega), later_dev, later_grade, later_mean hg (by omega) (by omega) z]
      simp only [Option.bind_some, if_true]
      rw [wrap64_id (by omega) (by omega), beq_self_eq_true]
    · rw [sampled_bad ht]
      simp only [Option.bind_some, Bool.false_eq_true, if_false]
      rw [moves_none (k + 1) (by omega)]
  · rw [sampled_bad hg]
    simp only [Option.bind_some, Bool.false_eq_true, if_false]
    rw [moves_skip 1000 (by decide), ite_self]
end Go.Proofs.Ytcmbogdilplmlaa.Pure
