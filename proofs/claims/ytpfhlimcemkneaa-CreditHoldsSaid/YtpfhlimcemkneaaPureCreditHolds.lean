/- From any step of a row to any later one no more is taken than the rates give in it, and one burst. -/
import Derived.Test.YtpfhlimcemkneaaPx30
import Derived.Test.YtpfhlimcemkneaaCr
set_option linter.unusedVariables false
set_option linter.unusedSimpArgs false
namespace Go.Proofs.Ytpfhlimcemkneaa.Pure
open Go.RowKit Go.Proofs.Th Go.Proofs.YtpfhlimcemkneaaW.PrintWords Go.Proofs.YtpfhlimcemkneaaW.PrintMore Go.Proofs.Ytpfhlimcemkneaa.P
theorem holds_take {b t h s : Int} (hi : CIs b t h) : takeC b t h s = (0, 0, 9) ∨ takeC b t h s = (0, 0, 13) ∨ (1 ≤ s ∧ s ≤ 9000 ∧ s * 1000000 ≤ h ∧ takeC b t h s = (t, h - s * 1000000, 0)) := by
  unfold takeC
  rw [if_pos hi]
  by_cases c : s < 1 ∨ 9000 < s
  · rw [if_pos c]; exact .inl rfl
  · rw [if_neg c]
    by_cases c2 : h < s * 1000000
    · rw [if_pos c2]; exact .inr (.inl rfl)
    · rw [if_neg c2]; exact .inr (.inr ⟨by omega, by omega, by omega, rfl⟩)
theorem holds_fill {b t h r u : Int} (hi : CIs b t h) : fillC b t h r u = (0, 0, 8) ∨ fillC b t h r u = (0, 0, 10) ∨ (1 ≤ r ∧ r ≤ 1000000000 ∧ 0 ≤ u ∧ u ≤ 1099511627776 ∧ t ≤ u ∧ fillC b t h r u = (u, min (b * 1000000) (h + r * (u - t)), 0)) := by
  unfold fillC
  rw [if_pos hi]
  by_cases c : r < 1 ∨ 1000000000 < r
  · rw [if_pos c]; exact .inl rfl
  · rw [if_neg c]
    by_cases c2 : 0 ≤ u ∧ u ≤ 1099511627776 ∧ t ≤ u
    · rw [if_pos c2]; exact .inr (.inr ⟨by omega, by omega, c2.1, c2.2.1, c2.2.2, rfl⟩)
    · rw [if_neg c2]; exact .inr (.inl rfl)
theorem wrap_succ {i : Nat} (h : i ≤ 1000) : wrap64 ((i : Int) + 1) = ((i + 1 : Nat) : Int) := by rw [wrap64_id (by omega) (by omega)]; omega
theorem rd_set {l : List Int} {i : Nat} {v : Int} {j : Nat} (hi : i < l.length) : rd (l.set i v) (j : Int) = if j = i then v else rd l (j : Int) := by
  unfold rd
  simp only [Int.toNat_natCast, List.getD, List.getElem?_set]
  by_cases h : i = j
  · subst h; simp [hi]
  · have h2 : ¬ j = i := fun x => h x.symm
    simp [h, h2]
theorem rd_rep (n j : Nat) : rd (List.replicate n 0) (j : Int) = 0 := by
  unfold rd
  simp only [Int.toNat_natCast, List.getD, List.getElem?_replicate]
  split <;> rfl
/-- What was taken and given so far, and what was there behind each step. -/
def Good (B : Int) (g t : List Int) (i : Nat) (cur : Int) : Prop :=
  (∀ j : Nat, i ≤ j → rd g j = 0 ∧ rd t j = 0) ∧ ∃ H : Nat → Int, (i = 0 ∨ H (i - 1) = cur) ∧
    ∀ j : Nat, j < i → 0 ≤ H j ∧ H j + rd t j ≤ B ∧ 0 ≤ rd g j ∧ rd g j ≤ 1000000000000000 ∧ 0 ≤ rd t j ∧ rd t j ≤ 9000000000 ∧ (j = 0 ∨ H j + rd t j ≤ H (j - 1) + rd g j)
theorem good_next {B : Int} {g t : List Int} {i : Nat} {cur x a new : Int} (h : Good B g t i cur) (hg : i < g.length) (ht : i < t.length) (c0 : 0 ≤ new) (c1 : new + a ≤ B) (c2 : 0 ≤ x) (c3 : x ≤ 1000000000000000) (c4 : 0 ≤ a) (c5 : a ≤ 9000000000) (c6 : new + a ≤ cur + x) :
    Good B (g.set i x) (t.set i a) (i + 1) new := by
  obtain ⟨hz, H, h1, h2⟩ := h
  refine ⟨fun j hj => ?_, fun j => if j = i then new else H j, .inr ?_, fun j hj => ?_⟩
  · rw [rd_set hg, rd_set ht, if_neg (by omega), if_neg (by omega)]
    exact hz j (by omega)
  · simp
  · rw [rd_set hg, rd_set ht]
    by_cases e : j = i
    · subst e
      simp only [if_true]
      refine ⟨c0, c1, c2, c3, c4, c5, ?_⟩
      by_cases z : j = 0
      · exact .inl z
      · right
        rw [if_neg (by omega)]
        rcases h1 with h1 | h1
        · omega
        · omega
    · simp only [if_neg e]
      have k := h2 j (by omega)
      refine ⟨k.1, k.2.1, k.2.2.1, k.2.2.2.1, k.2.2.2.2.1, k.2.2.2.2.2.1, ?_⟩
      rcases k.2.2.2.2.2.2 with k | k
      · exact .inl k
      · by_cases z : j = 0
        · exact .inl z
        · right
          rw [if_neg (by omega)]
          exact k
theorem set_same {l : List Int} {i : Nat} (hi : i < l.length) (h : rd l (i : Int) = 0) : l.set i 0 = l := by
  unfold rd at h
  simp only [Int.toNat_natCast, List.getD] at h
  have e : l[i]? = some l[i] := List.getElem?_eq_getElem hi
  rw [e] at h
  simp only [Option.getD_some] at h
  apply List.ext_getElem?
  intro j
  rw [List.getElem?_set]
  split
  · rename_i hj
    subst hj
    rw [e, h]
  · rfl
theorem holds_l2 {b : Int} {row : List S41} {g t : List Int} {H : Nat → Int} (b0 : 1 ≤ b) (b1 : b ≤ 1048576) (hr : row.length ≤ 60) (hg : g.length = row.length) (ht : t.length = row.length)
    (hH : ∀ j : Nat, j < row.length → 0 ≤ H j ∧ H j + rd t j ≤ b * 1000000 ∧ 0 ≤ rd g j ∧ rd g j ≤ 1000000000000000 ∧ 0 ≤ rd t j ∧ rd t j ≤ 9000000000 ∧ (j = 0 ∨ H j + rd t j ≤ H (j - 1) + rd g j))
    (i : Nat) (d : Nat) : ∀ (k m : Nat) (x y : Int), d + 1 ≤ k → m + d = row.length → i ≤ m → 0 ≤ x → x ≤ (m : Int) * 1000000000000000 → 0 ≤ y → y ≤ (m : Int) * 9000000000 → (m = i ∧ x = 0 ∧ y = 0 ∨ i < m ∧ y + H (m - 1) ≤ x + b * 1000000) →
    (∀ k' : Nat, k ≤ k' + d + 1 → P.pacemakerlaw25_CreditHolds.l1 k' b row g t ((i : Int) + 1) = some true) →
    P.pacemakerlaw25_CreditHolds.l2 k b row g t (i : Int) x y (m : Int) = some true := by
  induction d with
  | zero =>
    intro k m x y hk hm im x0 x1 y0 y1 hxy out
    obtain ⟨k, rfl⟩ : ∃ n, k = n + 1 := ⟨k - 1, by omega⟩
    simp only [P.pacemakerlaw25_CreditHolds.l2]
    rw [if_neg (by omega), wrap64_id (x := (i : Int) + 1) (by omega) (by omega)]
    exact out k (by omega)
  | succ d ih =>
    intro k m x y hk hm im x0 x1 y0 y1 hxy out
    obtain ⟨k, rfl⟩ : ∃ n, k = n + 1 := ⟨k - 1, by omega⟩
    have hj := hH m (by omega)
    simp only [P.pacemakerlaw25_CreditHolds.l2]
    rw [if_pos (by omega)]
    generalize rd g (m : Int) = gm at *
    generalize rd t (m : Int) = tm at *
    rcases hxy with ⟨e, ex, ey⟩ | ⟨lt, le⟩
    · rw [if_neg (by omega), if_pos (by omega), if_pos (by omega), wrap64_id (x := y + tm) (by omega) (by omega), wrap64_id (x := b * 1000000) (by omega) (by omega), wrap64_id (x := x + b * 1000000) (by omega) (by omega), if_neg (by omega), wrap64_id (x := (m : Int) + 1) (by omega) (by omega)]
      exact ih k (m + 1) x (y + tm) (by omega) (by omega) (by omega) (by omega) (by omega) (by omega) (by omega) (.inr ⟨by omega, by show y + tm + H (m + 1 - 1) ≤ _; rw [Nat.add_sub_cancel]; omega⟩) (fun k' hk' => out k' (by omega))
    · have hj7 : H m + tm ≤ H (m - 1) + gm := by rcases hj.2.2.2.2.2.2 with z | z <;> omega
      rw [if_pos (by omega), if_pos (by omega), if_pos (by omega), if_pos (by omega), wrap64_id (x := y + tm) (by omega) (by omega), wrap64_id (x := x + gm) (by omega) (by omega), wrap64_id (x := b * 1000000) (by omega) (by omega), wrap64_id (x := x + gm + b * 1000000) (by omega) (by omega), if_neg (by omega), wrap64_id (x := (m : Int) + 1) (by omega) (by omega)]
      exact ih k (m + 1) (x + gm) (y + tm) (by omega) (by omega) (by omega) (by omega) (by omega) (by omega) (by omega) (.inr ⟨by omega, by show y + tm + H (m + 1 - 1) ≤ _; rw [Nat.add_sub_cancel]; omega⟩) (fun k' hk' => out k' (by omega))
theorem holds_l1 {b : Int} {row : List S41} {g t : List Int} {H : Nat → Int} (b0 : 1 ≤ b) (b1 : b ≤ 1048576) (hr : row.length ≤ 60) (hg : g.length = row.length) (ht : t.length = row.length)
    (hH : ∀ j : Nat, j < row.length → 0 ≤ H j ∧ H j + rd t j ≤ b * 1000000 ∧ 0 ≤ rd g j ∧ rd g j ≤ 1000000000000000 ∧ 0 ≤ rd t j ∧ rd t j ≤ 9000000000 ∧ (j = 0 ∨ H j + rd t j ≤ H (j - 1) + rd g j))
    (d : Nat) : ∀ (k i : Nat), d * 100 + 200 ≤ k → i + d = row.length → P.pacemakerlaw25_CreditHolds.l1 k b row g t (i : Int) = some true := by
  induction d with
  | zero =>
    intro k i hk hi
    obtain ⟨k, rfl⟩ : ∃ n, k = n + 1 := ⟨k - 1, by omega⟩
    simp only [P.pacemakerlaw25_CreditHolds.l1]
    rw [if_neg (by omega), credited_eq k (by omega)]; rfl
  | succ d ih =>
    intro k i hk hi
    obtain ⟨k, rfl⟩ : ∃ n, k = n + 1 := ⟨k - 1, by omega⟩
    simp only [P.pacemakerlaw25_CreditHolds.l1]
    rw [if_pos (by omega)]
    refine holds_l2 b0 b1 hr hg ht hH i (d + 1) k i 0 0 (by omega) hi (Nat.le_refl _) (by decide) (by omega) (by decide) (by omega) (.inl ⟨rfl, rfl, rfl⟩) ?_
    intro k' hk'
    exact ih k' (i + 1) (by omega) (by omega)
theorem holds_l0 {b : Int} {row : List S41} (b0 : 1 ≤ b) (b1 : b ≤ 1048576) (hr : row.length ≤ 60) (d : Nat) : ∀ (k i : Nat) (g t : List Int) (u h : Int), d * 3 + 7000 ≤ k → i + d = row.length → g.length = row.length → t.length = row.length → CIs b u h → Good (b * 1000000) g t i h →
    P.pacemakerlaw25_CreditHolds.l0 k b row g t (i : Int) u h = some true := by
  induction d with
  | zero =>
    intro k i g t u h hk hi hg ht hc hgood
    obtain ⟨k, rfl⟩ : ∃ n, k = n + 1 := ⟨k - 1, by omega⟩
    obtain ⟨_, H, _, hH⟩ := hgood
    simp only [P.pacemakerlaw25_CreditHolds.l0]
    rw [if_neg (by omega)]
    exact holds_l1 b0 b1 hr hg ht (fun j hj => hH j (by omega)) row.length k 0 (by omega) (by omega)
  | succ d ih =>
    intro k i g t u h hk hi hg ht hc hgood
    obtain ⟨k, rfl⟩ : ∃ n, k = n + 1 + 1 + 1 := ⟨k - 3, by omega⟩
    simp only [P.pacemakerlaw25_CreditHolds.l0]
    rw [if_pos (by omega), if_pos (by omega)]
    generalize rd_T41 row (i : Int) = s
    obtain ⟨r, sp, sz⟩ := s
    simp only
    have out : P.pacemakerlaw25_CreditHolds.j2 (k + 1 + 1) b row g t (i : Int) true u h r sp sz = some true := by
      simp only [P.pacemakerlaw25_CreditHolds.j2, if_true]
      rw [credited_eq (k + 1) (by omega)]; rfl
    by_cases c1 : sp < 0
    · rw [if_pos c1]; exact out
    rw [if_neg c1]
    by_cases c2 : sp > 1000000
    · rw [decide_eq_true c2]; exact out
    rw [decide_eq_false c2]
    -- behind the fill
    have j3 : ∀ (g' : List Int) (u' h' x : Int), g'.length = row.length → CIs b u' h' → g' = g.set i x → 0 ≤ x → x ≤ 1000000000000000 → h' ≤ h + x →
        P.pacemakerlaw25_CreditHolds.j3 (k + 1) b row g' t (i : Int) u' h' r sp sz = some true := by
      intro g' u' h' x lg hc' eg x0 x1 hx
      obtain ⟨q1, q2, q3, q4, q5, q6⟩ := hc'
      simp only [P.pacemakerlaw25_CreditHolds.j3]
      rw [credit_Take_eq (k) (by omega)]
      simp only [Option.bind_some]
      have no : (Option.bind (some (decide (CIs b u' h'))) fun t126 => if t126 = true then P.pacemakerlaw25_CreditHolds.l0 k b row g' t (wrap64 ((i : Int) + 1)) u' h' else none) = some true := by
        simp only [Option.bind_some]
        rw [if_pos (decide_eq_true ⟨q1, q2, q3, q4, q5, q6⟩), wrap_succ (by omega)]
        have gn := good_next (x := x) (a := 0) (new := h') hgood (by omega) (by omega) q5 (by omega) x0 x1 (by decide) (by decide) (by omega)
        rw [← eg, set_same (by omega) (hgood.1 i (Nat.le_refl _)).2] at gn
        exact ih k (i + 1) g' t u' h' (by omega) (by omega) lg ht ⟨q1, q2, q3, q4, q5, q6⟩ gn
      rcases holds_take (s := sz) ⟨q1, q2, q3, q4, q5, q6⟩ with e | e | ⟨s0, s1, s2, e⟩
      · rw [e]
        simp only
        rw [if_neg (by decide), credit_Is_eq]
        exact no
      · rw [e]
        simp only
        rw [if_neg (by decide), credit_Is_eq]
        exact no
      · rw [e]
        simp only
        have hc2 : CIs b u' (h' - sz * 1000000) := ⟨q1, q2, q3, q4, by omega, by omega⟩
        rw [if_pos trivial, if_pos (by omega), if_pos (by omega), credit_Is_eq]
        simp only [Option.bind_some]
        rw [if_pos (decide_eq_true hc2), wrap_succ (by omega), wrap64_id (x := sz * 1000000) (by omega) (by omega), Int.toNat_natCast, eg]
        have gn := good_next (x := x) (a := sz * 1000000) (new := h' - sz * 1000000) hgood (by omega) (by omega) (by omega) (by omega) x0 x1 (by omega) (by omega) (by omega)
        exact ih k (i + 1) _ _ u' (h' - sz * 1000000) (by omega) (by omega) (by rw [← eg]; exact lg) (by rw [List.length_set]; exact ht) hc2 gn
    obtain ⟨q1, q2, q3, q4, q5, q6⟩ := hc
    simp only [P.pacemakerlaw25_CreditHolds.j2]
    rw [if_neg (by decide), wrap64_id (x := u + sp) (by omega) (by omega), credit_Fill_eq (k + 1) (by omega)]
    simp only [Option.bind_some]
    rcases holds_fill (r := r) (u := u + sp) ⟨q1, q2, q3, q4, q5, q6⟩ with e | e | ⟨r0, r1, u0, u1, u2, e⟩
    · rw [e]
      simp only
      rw [if_neg (by decide)]
      exact j3 g u h 0 hg ⟨q1, q2, q3, q4, q5, q6⟩ (set_same (by omega) (hgood.1 i (Nat.le_refl _)).1).symm (by decide) (by decide) (by omega)
    · rw [e]
      simp only
      rw [if_neg (by decide)]
      exact j3 g u h 0 hg ⟨q1, q2, q3, q4, q5, q6⟩ (set_same (by omega) (hgood.1 i (Nat.le_refl _)).1).symm (by decide) (by decide) (by omega)
    · rw [e]
      simp only
      have p0 : 0 ≤ r * sp := Int.mul_nonneg (by omega) (by omega)
      have p1 : r * sp ≤ 1000000000 * 1000000 := Int.mul_le_mul r1 (by omega) (by omega) (by decide)
      have es : u + sp - u = sp := by omega
      rw [es, if_pos trivial, if_pos (by omega), if_pos (by omega), wrap64_id (x := r * sp) (by omega) (by omega), Int.toNat_natCast]
      generalize r * sp = p at *
      exact j3 _ (u + sp) _ p (by rw [List.length_set]; exact hg) ⟨q1, q2, u0, u1, by omega, by omega⟩ rfl p0 (by omega) (by omega)
theorem CreditHolds (b at' : Int) (row : List S41) (w0 : (Lit.int .i64 b).wf = true) (w1 : (Lit.int .i64 at').wf = true) (hw : ∀ s ∈ row, (Lit.int .i64 s.f0).wf = true ∧ (Lit.int .i64 s.f1).wf = true ∧ (Lit.int .i64 s.f2).wf = true) : ∃ k, P.pacemakerlaw25_CreditHolds.f k b at' row = some true := by
  obtain ⟨K, hK⟩ : ∃ K : Nat, 10000 ≤ K := ⟨10000, Nat.le_refl _⟩
  refine ⟨K, ?_⟩
  obtain ⟨k, rfl⟩ : ∃ k, K = k + 1 := ⟨K - 1, by omega⟩
  unfold P.pacemakerlaw25_CreditHolds.f
  rw [credit_New_eq (k + 1) (by omega)]
  simp only [Option.bind_some]
  have out : ∀ e u h, (e = 0 ∨ u = 0 ∧ h = 0) → P.pacemakerlaw25_CreditHolds.j0 (k + 1) b row e true u h = some true := by
    intro e u h hu
    simp only [P.pacemakerlaw25_CreditHolds.j0, if_true]
    rw [credited_eq k (by omega)]
    simp only [Option.bind_some, if_true]
    by_cases c : e = 0
    · rw [if_pos c]
    · rw [if_neg c]
      rcases hu with hu | ⟨hu, hh⟩
      · exact absurd hu c
      · rw [hu, hh]; rfl
  have hn : (newC b at').2.2 = 0 ∧ CIs b (newC b at').1 (newC b at').2.1 ∨ (newC b at').2.2 ≠ 0 ∧ (newC b at').1 = 0 ∧ (newC b at').2.1 = 0 := by
    unfold newC
    split
    · right; simp
    · split
      · left
        refine ⟨rfl, ?_⟩
        simp only
        exact ⟨by omega, by omega, by omega, by omega, by omega, by omega⟩
      · right; simp
  generalize newC b at' = n at *
  obtain ⟨u, h, e⟩ := n
  simp only at *
  by_cases c1 : (row.length : Int) > 60
  · rw [if_pos c1]
    exact out e u h (hn.elim (fun x => .inl x.1) (fun x => .inr x.2))
  rw [if_neg c1]
  rcases hn with ⟨he, hc⟩ | ⟨he, hu⟩
  · subst he
    have e0 : ((0 : Int) != 0) = false := by decide
    rw [e0]
    simp only [P.pacemakerlaw25_CreditHolds.j0]
    rw [if_neg (by decide), if_pos (by omega), if_pos (by omega), Int.toNat_natCast]
    refine holds_l0 hc.1 hc.2.1 (by omega) row.length k 0 _ _ u h (by omega) (by omega) (List.length_replicate ..) (List.length_replicate ..) hc ?_
    exact ⟨fun j _ => ⟨rd_rep _ _, rd_rep _ _⟩, fun _ => 0, .inl rfl, fun j hj => by omega⟩
  · have e1 : (e != 0) = true := by simpa using he
    rw [e1]
    exact out e u h (.inr hu)
end Go.Proofs.Ytpfhlimcemkneaa.Pure
