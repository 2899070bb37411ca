/- The mean is between the least and the greatest sample; the spread is not more than both are apart. -/
import Derived.Test.YtcmbogdilplmlaaPx19
import Derived.Test.YtcmbogdilplmlaaS14
set_option linter.unusedVariables false
set_option linter.unusedSimpArgs false
namespace Go.Proofs.Ytcmbogdilplmlaa.Pure
open Go.RowKit Go.Proofs.Th Go.Proofs.YtcmbogdilplmlaaW.PrintWords Go.Proofs.YtcmbogdilplmlaaW.PrintMore Go.Proofs.Ytcmbogdilplmlaa.P
theorem within_l0 {l : List S36} (hg : goodB l = true) (m0 m1 m2 m3 m4 m5 m6 m7 m8 m9 m10 m11 m12 m13 m14 : Int) : ∀ (n k i : Nat) (lo hi : Int), i + n = l.length → 0 ≤ lo → lo ≤ hi → hi ≤ 60000000 →
    ∃ lo' hi' : Int, 0 ≤ lo' ∧ lo' ≤ lo ∧ hi ≤ hi' ∧ hi' ≤ 60000000 ∧ (∀ (j : Nat) (hj : j < l.length), i ≤ j → lo' ≤ l[j].f1 ∧ l[j].f1 ≤ hi') ∧
    pacemakerlaw10_SlopeWithin.l0 (k + n) l lo hi (i : Int) m0 m1 m2 m3 m4 m5 m6 m7 m8 m9 m10 m11 m12 m13 m14 = pacemakerlaw10_SlopeWithin.l0 k l lo' hi' (l.length : Int) m0 m1 m2 m3 m4 m5 m6 m7 m8 m9 m10 m11 m12 m13 m14
  | 0, k, i, lo, hi, h, h0, h1, h2 => ⟨lo, hi, h0, Int.le_refl _, Int.le_refl _, h2, fun j hj hij => by omega, by rw [show i = l.length by omega]; rfl⟩
  | n + 1, k, i, lo, hi, h, h0, h1, h2 => by
    obtain ⟨hl, ho⟩ := good_ok hg
    have hi' : i < l.length := by omega
    have hx := ho _ (List.getElem_mem hi')
    unfold okS at hx
    have hm : mn lo (l[i].f1) ≤ lo ∧ mn lo (l[i].f1) ≤ l[i].f1 ∧ 0 ≤ mn lo (l[i].f1) := by unfold mn; split <;> omega
    have hM : hi ≤ mx hi (l[i].f1) ∧ l[i].f1 ≤ mx hi (l[i].f1) ∧ mx hi (l[i].f1) ≤ 60000000 := by unfold mx; split <;> omega
    obtain ⟨lo', hi'', e0, e1, e2, e3, e4, e5⟩ := within_l0 hg m0 m1 m2 m3 m4 m5 m6 m7 m8 m9 m10 m11 m12 m13 m14 n k (i + 1) (mn lo (l[i].f1)) (mx hi (l[i].f1)) (by omega) (by omega) (by omega) (by omega)
    refine ⟨lo', hi'', e0, by omega, by omega, e3, fun j hj hij => ?_, ?_⟩
    · by_cases c : j = i
      · subst c; omega
      · exact e4 j hj (by omega)
    · rw [← e5, show k + (n + 1) = k + n + 1 by omega]
      simp only [pacemakerlaw10_SlopeWithin.l0]
      rw [if_pos (by omega), if_pos (by omega), wrap64_id (by omega) (by omega), rd_mem hi']
      rfl
theorem isq_le_of {a s : Int} (h0 : 0 ≤ a) (hs : 0 ≤ s) (h : a ≤ s * s) : isq a ≤ s := by
  have e : (s + 1) * (s + 1) = s * s + 2 * s + 1 := by rw [Int.add_mul, Int.mul_add]; omega
  have := isq_lt_of h0 (show 0 ≤ s + 1 by omega) (by omega)
  omega
theorem SlopeWithin (l : List S36) (w : ∀ s ∈ l, (Lit.int .i64 s.f0).wf = true ∧ (Lit.int .i64 s.f1).wf = true) :
    ∃ k, P.pacemakerlaw10_SlopeWithin.f k l = some true := by
  refine ⟨1000, ?_⟩
  unfold P.pacemakerlaw10_SlopeWithin.f
  by_cases hg : goodB l = true
  · obtain ⟨hl, ho⟩ := good_ok hg
    rw [sampled_good hg]
    simp only [Option.bind_some]
    rw [if_neg (by omega), if_pos trivial]
    by_cases z : l.length = 0
    · rw [show ((l.length : Int) == 0) = true by rw [beq_iff_eq]; omega]
      simp only [pacemakerlaw10_SlopeWithin.j0, if_true]
      rw [fitted_eq 999 (by decide)]; rfl
    rw [show ((l.length : Int) == 0) = false by rw [beq_eq_false_iff_ne]; omega]
    have e : (1000 : Nat) = (999 - l.length + l.length) + 1 := by omega
    have hz : 0 < l.length := by omega
    have hx := ho _ (List.getElem_mem hz)
    unfold okS at hx
    have r0 : rd_T36 l 0 = l[0] := rd_mem hz
    obtain ⟨lo, hi, e0, e1, e2, e3, e4, e5⟩ := within_l0 hg 0 0 (-1) (l.length : Int) (l.length : Int) 0 (l.length : Int) (l.length : Int) 0 (l.length : Int) (sg S36.f0 l) (sg S36.f1 l) (sg (fun x => x.f0 * x.f0) l) (sg (fun x => x.f0 * x.f1) l) (sg (fun x => x.f1 * x.f1) l) l.length (999 - l.length) 0 (l[0].f1) (l[0].f1) (by omega) (by omega) (by omega) (by omega)
    rw [e]
    simp only [pacemakerlaw10_SlopeWithin.j0, Bool.false_eq_true, if_false]
    rw [if_pos (by omega), r0]
    refine Eq.trans e5 ?_
    obtain ⟨k, hk⟩ : ∃ k, 999 - l.length = k + 1 := ⟨998 - l.length, by omega⟩
    rw [hk]
    have hin : ∀ x ∈ l, lo ≤ x.f1 ∧ x.f1 ≤ lo + (hi - lo) := fun x hx => by
      obtain ⟨j, hj, rfl⟩ := List.getElem_of_mem hx
      have := e4 j hj (by omega)
      omega
    have s0 : l.length * lo ≤ sg S36.f1 l := by rw [← sg_const]; exact sg_le fun x hx => (hin x hx).1
    have s1 : sg S36.f1 l ≤ l.length * hi := by rw [← sg_const]; exact sg_le fun x hx => by have := hin x hx; omega
    have sb := (good_bd hg).2.1
    have hn : 0 < (l.length : Int) := by omega
    have c0 : lo * 1048576 ≤ meanL l := by unfold meanL; rw [if_neg z]; exact ratio_ge hn e0 (by rw [Int.mul_comm]; exact s0) (by omega)
    have c1 : meanL l ≤ hi * 1048576 := by unfold meanL; rw [if_neg z]; exact ratio_le sb.1 hn (by rw [Int.mul_comm hi]; exact s1) (by omega)
    have cv := cov_far S36.f1 l lo (hi - lo) hin
    have cn := cov_nn S36.f1 l
    have d0 : 0 ≤ devL l := by unfold devL; rw [if_neg z]; exact (ratio_rng (isq_nn _) (by omega)).1
    have d1 : devL l ≤ (hi - lo) * 1048576 := by
      unfold devL
      rw [if_neg z]
      exact ratio_le (isq_nn _) hn (by rw [Int.mul_comm (hi - lo)]; exact isq_le_of cn (Int.mul_nonneg (by omega) (by omega)) cv) (by omega)
    simp only [pacemakerlaw10_SlopeWithin.l0]
    rw [if_neg (by omega), mean_l hg, dev_l hg k (by omega), fitted_eq k (by omega)]
    simp only [Option.bind_some, if_true]
    rw [of_eq (n := lo) (by omega) (by omega)]
    simp only [Option.bind_some]
    rw [if_pos c0, of_eq (n := hi) (by omega) (by omega)]
    simp only [Option.bind_some]
    rw [if_pos c1, if_pos d0, wrap64_id (by omega) (by omega), of_eq (n := hi - lo) (by omega) (by omega)]
    simp only [Option.bind_some]
    rw [decide_eq_true d1]
  · rw [sampled_bad hg]
    simp only [Option.bind_some, Bool.false_eq_true, if_false]
    have e : P.pacemakerlaw10_SlopeWithin.j0 1000 l true 0 0 0 0 0 0 0 0 0 0 0 0 0 0 0 = some true := by
      simp only [pacemakerlaw10_SlopeWithin.j0, if_true]
      rw [fitted_eq 999 (by decide)]; rfl
    rw [e, ite_self]
end Go.Proofs.Ytcmbogdilplmlaa.Pure
