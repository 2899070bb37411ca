/- Who sends packets of one size as often as may be has sent at least what the rate gave, less one packet. -/
import Derived.Test.YtpfhlimcemkneaaPx27
import Derived.Test.YtpfhlimcemkneaaCr
set_option linter.unusedVariables false
set_option linter.unusedSimpArgs false
namespace Go.Proofs.Ytpfhlimcemkneaa.Pure
open Go.RowKit Go.Proofs.Th Go.Proofs.YtpfhlimcemkneaaW.PrintWords Go.Proofs.YtpfhlimcemkneaaW.PrintMore Go.Proofs.Ytpfhlimcemkneaa.P
theorem takes {b t h s : Int} (hi : CIs b t h) (s0 : 1 ≤ s) (s1 : s ≤ 9000) : takeC b t h s = if h < s * 1000000 then (0, 0, 13) else (t, h - s * 1000000, 0) := by
  unfold takeC
  rw [if_pos hi, if_neg (by omega)]
theorem rd_wf {l : List Int} {i : Int} (h : ∀ x ∈ l, (Lit.int .i64 x).wf = true) (i0 : 0 ≤ i) (i1 : i < (l.length : Int)) : -9223372036854775808 ≤ rd l i ∧ rd l i ≤ 9223372036854775807 := by
  unfold rd
  have hl : i.toNat < l.length := by omega
  have e : l.getD i.toNat 0 = l[i.toNat] := by simp [List.getD, hl]
  rw [e]
  exact wf_i64 (h _ (List.getElem_mem hl))

/-- The loop over the packets: it takes as many as there are, and comes back to the steps. -/
theorem flows_l1 {b r s : Int} {l : List Int} (b0 : 1 ≤ b) (b1 : b ≤ 1048576) (s0 : 1 ≤ s) (s1 : s ≤ 9000) (g x i : Int) (t : Int) (t0 : 0 ≤ t) (t1 : t ≤ 1099511627776) (goal : Nat → Int → Int → Prop) (d : Nat) :
    ∀ (k : Nat) (n y h : Int), d + 200 ≤ k → 0 ≤ h → h ≤ b * 1000000 → h < (d : Int) * (s * 1000000) → 0 ≤ n → n + d ≤ 5000 → 0 ≤ y → y + h ≤ 9000000000000000000 →
    (∀ (k' : Nat) (y' h' : Int), k ≤ k' + d → 0 ≤ h' → h' < s * 1000000 → y' + h' = y + h → 0 ≤ y' → P.pacemakerlaw25_CreditFlows.l0 k' b r s l g y' (wrap64 (i + 1)) t h' = some true) →
    P.pacemakerlaw25_CreditFlows.l1 k b r s l g y i n t h = some true := by
  induction d with
  | zero =>
    intro k n y h hk h0 h1 hlt
    exfalso
    simp at hlt
    omega
  | succ d ih =>
    intro k n y h hk h0 h1 hlt n0 n1 y0 y1 out
    obtain ⟨k, rfl⟩ : ∃ m, k = m + 1 := ⟨k - 1, by omega⟩
    have hi : CIs b t h := ⟨b0, b1, t0, t1, h0, h1⟩
    simp only [P.pacemakerlaw25_CreditFlows.l1]
    rw [if_pos (by omega), credit_Take_eq k (by omega), takes hi s0 s1]
    simp only [Option.bind_some]
    by_cases c : h < s * 1000000
    · rw [if_pos c]
      simp only
      rw [if_neg (by decide)]
      exact out k y h (by omega) h0 c rfl y0
    · rw [if_neg c]
      simp only
      rw [if_pos trivial, wrap64_id (x := s * 1000000) (by omega) (by omega), wrap64_id (x := y + s * 1000000) (by omega) (by omega), wrap64_id (x := n + 1) (by omega) (by omega)]
      have e : ((d + 1 : Nat) : Int) * (s * 1000000) = (d : Int) * (s * 1000000) + s * 1000000 := by rw [Int.natCast_add, Int.add_mul]; omega
      rw [e] at hlt
      refine ih k (n + 1) (y + s * 1000000) (h - s * 1000000) (by omega) (by omega) (by omega) (by omega) (by omega) (by omega) (by omega) (by omega) ?_
      intro k' y' h' hk' h0' h1' he y0'
      exact out k' y' h' (by omega) h0' h1' (by omega) y0'
theorem packets {b s h : Int} (D : Nat) (hD : D = 4097) (s0 : 1 ≤ s) (hq : Int.tdiv b s ≤ 4096) (b0 : 1 ≤ b) (h1 : h ≤ b * 1000000) : h < (D : Int) * (s * 1000000) := by
  rw [Int.tdiv_eq_ediv_of_nonneg (by omega)] at hq
  have := Int.lt_ediv_add_one_mul_self b (by omega : 0 < s)
  have h2 : (b / s + 1) * s ≤ 4097 * s := Int.mul_le_mul_of_nonneg_right (by omega) (by omega)
  have e : (D : Int) = 4097 := by omega
  rw [e]
  omega
theorem flows_true {b r s g y i t h : Int} {l : List Int} (k : Nat) (hk : 150 ≤ k) : P.pacemakerlaw25_CreditFlows.j2 k b r s l g y i true t h = some true := by
  obtain ⟨k, rfl⟩ : ∃ m, k = m + 1 := ⟨k - 1, by omega⟩
  simp only [P.pacemakerlaw25_CreditFlows.j2, if_true]
  rw [credited_eq k (by omega)]; rfl
set_option maxRecDepth 100000 in
theorem flows_l0 {b r s : Int} {l : List Int} (hl : l.length ≤ 60) (hw : ∀ x ∈ l, (Lit.int .i64 x).wf = true) (b0 : 1 ≤ b) (b1 : b ≤ 1048576) (r0 : 1 ≤ r) (r1 : r ≤ 1000000000) (s0 : 1 ≤ s) (s1 : s ≤ 9000) (sb : s ≤ b) (hq : Int.tdiv b s ≤ 4096) (m : Nat) :
    ∀ (k : Nat) (i : Nat) (g y t h L : Int), m * 5000 + 300 ≤ k → i + m = l.length → 0 ≤ t → t ≤ (i : Int) * 1000000 → 0 ≤ h → h ≤ b * 1000000 → 0 ≤ y → 0 ≤ g → g ≤ (i : Int) * 2000000000000 → 0 ≤ L → L ≤ (b - s) * 1000000 → y + h + L = b * 1000000 + g → (h < s * 1000000 ∨ L = 0 ∧ g = 0 ∧ y = 0) →
    P.pacemakerlaw25_CreditFlows.l0 k b r s l g y i t h = some true := by
  induction m with
  | zero =>
    intro k i g y t h L hk hi t0 t1 h0 h1 y0 g0 g1 L0 L1 hc hd
    obtain ⟨k, rfl⟩ : ∃ m, k = m + 1 := ⟨k - 1, by omega⟩
    simp only [P.pacemakerlaw25_CreditFlows.l0]
    rw [if_neg (by omega), credited_eq k (by omega)]
    simp only [Option.bind_some, if_true]
    rw [wrap64_id (x := s * 1000000) (by omega) (by omega), wrap64_id (x := b * 1000000) (by omega) (by omega), wrap64_id (x := g - s * 1000000) (by omega) (by omega), wrap64_id (x := g + b * 1000000) (by omega) (by omega), if_pos (by omega), decide_eq_true (by omega)]
  | succ m ih =>
    intro k i g y t h L hk hi t0 t1 h0 h1 y0 g0 g1 L0 L1 hc hd
    obtain ⟨k, rfl⟩ : ∃ m, k = m + 1 + 1 := ⟨k - 2, by omega⟩
    have hb := rd_wf hw (i := (i : Int)) (by omega) (by omega)
    have out := flows_true (b := b) (r := r) (s := s) (g := g) (y := y) (i := i) (t := t) (h := h) (l := l) (k + 1) (by omega)
    simp only [P.pacemakerlaw25_CreditFlows.l0]
    rw [if_pos (by omega), if_pos (by omega)]
    by_cases c1 : rd l i < 0
    · rw [if_pos c1]; exact out
    rw [if_neg c1]
    by_cases c2 : rd l i > 1000000
    · rw [if_pos c2]; exact out
    rw [if_neg c2]
    have p0 : 0 ≤ r * rd l i := Int.mul_nonneg (by omega) (by omega)
    have p1 : r * rd l i ≤ 1000000000 * 1000000 := Int.mul_le_mul r1 (by omega) (by omega) (by decide)
    rw [wrap64_id (x := r * rd l i) (by omega) (by omega), wrap64_id (x := b - s) (by omega) (by omega), wrap64_id (x := (b - s) * 1000000) (by omega) (by omega)]
    by_cases c3 : r * rd l i > (b - s) * 1000000
    · rw [decide_eq_true c3]; exact out
    rw [decide_eq_false c3]
    simp only [P.pacemakerlaw25_CreditFlows.j2]
    rw [if_neg (by decide), if_pos (by omega), if_pos (by omega), wrap64_id (x := t + rd l i) (by omega) (by omega), wrap64_id (x := r * rd l i) (by omega) (by omega), wrap64_id (x := g + r * rd l i) (by omega) (by omega), credit_Fill_eq k (by omega)]
    have ef : fillC b t h r (t + rd l i) = (t + rd l i, min (b * 1000000) (h + r * rd l i), 0) := by
      unfold fillC
      rw [if_pos ⟨b0, b1, t0, by omega, h0, h1⟩, if_neg (by omega), if_pos ⟨by omega, by omega, by omega⟩, show t + rd l i - t = rd l i by omega]
    rw [ef]
    simp only [Option.bind_some, if_true]
    generalize r * rd l i = p at *
    generalize hsp : rd l i = sp at *
    have hh0 : 0 ≤ min (b * 1000000) (h + p) := by omega
    have hh1 : min (b * 1000000) (h + p) ≤ b * 1000000 := by omega
    have gb : g + p ≤ ((i + 1 : Nat) : Int) * 2000000000000 := by omega
    obtain ⟨D, hD⟩ : ∃ D : Nat, D = 4097 := ⟨_, rfl⟩
    refine flows_l1 b0 b1 s0 s1 (g + p) y i (t + sp) (by omega) (by omega) (fun _ _ _ => True) D k 0 y _ (by omega) hh0 hh1 (packets D hD s0 hq b0 hh1) (by omega) (by omega) y0 (by omega) ?_
    intro k' y' h' hk' h0' h1' he' y0'
    rw [wrap64_id (x := (i : Int) + 1) (by omega) (by omega), show (i : Int) + 1 = ((i + 1 : Nat) : Int) by omega]
    -- what the burst's bound lets go
    by_cases hcap : h + p ≤ b * 1000000
    · rw [show min (b * 1000000) (h + p) = h + p by omega] at he'
      exact ih k' (i + 1) (g + p) y' (t + sp) h' L (by omega) (by omega) (by omega) (by omega) h0' (by omega) y0' (by omega) gb L0 L1 (by omega) (.inl h1')
    · rw [show min (b * 1000000) (h + p) = b * 1000000 by omega] at he'
      rcases hd with hd | ⟨hd1, hd2, hd3⟩
      · exfalso; omega
      · exact ih k' (i + 1) (g + p) y' (t + sp) h' p (by omega) (by omega) (by omega) (by omega) h0' (by omega) y0' (by omega) gb p0 (by omega) (by omega) (.inl h1')
theorem flows_j0t {b r s t h : Int} {l : List Int} (k : Nat) (hk : 150 ≤ k) : P.pacemakerlaw25_CreditFlows.j0 k b r s l true t h = some true := by
  obtain ⟨k, rfl⟩ : ∃ m, k = m + 1 := ⟨k - 1, by omega⟩
  simp only [P.pacemakerlaw25_CreditFlows.j0, if_true]
  rw [credited_eq k (by omega)]; rfl
theorem CreditFlows : P.pacemakerlaw25_CreditFlows.Pure := by
  intro b r s l w0 w1 w2 _ _ hw
  obtain ⟨K, hK⟩ : ∃ K : Nat, 400000 ≤ K := ⟨400000, Nat.le_refl _⟩
  refine ⟨K, ?_⟩
  have out := fun t h => flows_j0t (b := b) (r := r) (s := s) (l := l) (t := t) (h := h) K (by omega)
  unfold P.pacemakerlaw25_CreditFlows.f
  rw [credit_New_eq K (by omega)]
  simp only [Option.bind_some]
  by_cases c1 : (l.length : Int) > 60
  · rw [if_pos c1]; exact out _ _
  rw [if_neg c1]
  by_cases c2 : (newC b 0).2.2 = 0
  · rw [if_pos c2]
    have hb : ¬ (b < 1 ∨ 1048576 < b) := by
      intro c
      unfold newC at c2; rw [if_pos c] at c2; simp at c2
    have en : newC b 0 = (0, b * 1000000, 0) := by unfold newC; rw [if_neg hb, if_pos (by decide)]
    rw [en]
    by_cases c3 : r < 1
    · rw [if_pos c3]; exact out _ _
    rw [if_neg c3]
    by_cases c4 : r > 1000000000
    · rw [if_pos c4]; exact out _ _
    rw [if_neg c4]
    by_cases c5 : s < 1
    · rw [if_pos c5]; exact out _ _
    rw [if_neg c5]
    by_cases c6 : s > 9000
    · rw [if_pos c6]; exact out _ _
    rw [if_neg c6]
    by_cases c7 : s > b
    · rw [if_pos c7]; exact out _ _
    rw [if_neg c7, if_neg (by omega)]
    have hq0 : 0 ≤ Int.tdiv b s := by rw [Int.tdiv_eq_ediv_of_nonneg (by omega)]; exact Int.ediv_nonneg (by omega) (by omega)
    have hq1 : Int.tdiv b s ≤ b := by rw [Int.tdiv_eq_ediv_of_nonneg (by omega)]; exact Int.ediv_le_self _ (by omega)
    rw [wrap64_id (x := Int.tdiv b s) (by omega) (by omega)]
    by_cases c8 : Int.tdiv b s > 4096
    · rw [decide_eq_true c8]; exact out _ _
    rw [decide_eq_false c8]
    obtain ⟨k, hk⟩ : ∃ k : Nat, K = k + 1 := ⟨K - 1, by omega⟩
    subst hk
    simp only [P.pacemakerlaw25_CreditFlows.j0]
    rw [if_neg (by decide)]
    exact flows_l0 (by omega) hw (by omega) (by omega) (by omega) (by omega) (by omega) (by omega) (by omega) (by omega) l.length k 0 0 0 0 (b * 1000000) 0 (by omega) (by omega) (by decide) (by decide) (by omega) (by omega) (by decide) (by decide) (by decide) (by decide) (by omega) (by omega) (.inr ⟨rfl, rfl, rfl⟩)
  · rw [if_neg c2]; exact out _ _
end Go.Proofs.Ytpfhlimcemkneaa.Pure
