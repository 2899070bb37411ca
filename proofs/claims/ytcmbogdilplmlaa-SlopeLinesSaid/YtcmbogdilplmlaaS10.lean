import Derived.Test.YtcmbogdilplmlaaS9
import Derived.Test.YtcmbogdilplmlaaPx1
namespace Go.Proofs.Ytcmbogdilplmlaa.P
open Go.RowKit Go.Proofs.YtcmbogdilplmlaaW.PrintWords Go.Proofs.YtcmbogdilplmlaaW.PrintLast Go.Proofs.YtcmbogdilplmlaaW.PrintMore Go.Proofs.YtcmbogdilplmlaaX
attribute [local go_sem] max2_int min2_int max_two min_two max_three min_three max_four min_four
set_option linter.unusedVariables false
set_option linter.unusedSimpArgs false
open Go.Proofs.Th
/-- What Ratio tells of two numbers. -/
def ratioI (A B : Int) : Int := if A = 0 then 0 else if B = 0 then 4611686018427387904 else if 4611686018427387904 ≤ A * 1048576 / B then 4611686018427387904 else if B ≤ 2 * (A * 1048576 % B) then A * 1048576 / B + 1 else A * 1048576 / B
def seekX : Code → Option Code
  | .seq (.label _) b => some b
  | .seq a b => match seekX a with
    | some c => some c
    | none => seekX b
  | .scope c => seekX c
  | _ => none
noncomputable def codeX : Code := (Try.f10.body.bind seekX).getD .skip
def seekB : Code → Option (Code × Code)
  | .seq (.block n c) r => some (.block n c, r)
  | .seq _ b => seekB b
  | _ => none
noncomputable def codeB : Code := ((seekB codeX).map (·.1)).getD .skip
noncomputable def codeR : Code := ((seekB codeX).map (·.2)).getD .skip
theorem ret_i64 {a b : Int} (h : a = b) : Ending.returned (.int .i64 a) = .returned (.int .i64 b) := by rw [h]
theorem ratio_top {A B q R : Int} {n : Nat} (hA : 0 < A) (hB : 0 < B) (h : A * 1048576 / 2 ^ n = q * B + R) (h0 : 0 ≤ R) (hq : 4611686018427387904 ≤ q) : ratioI A B = 4611686018427387904 := by
  have hp := two_pow_pos n
  have h1 : q * B ≤ A * 1048576 / 2 ^ n := by omega
  have h2 : A * 1048576 / 2 ^ n ≤ A * 1048576 := Int.ediv_le_self _ (by omega)
  have h3 : q ≤ A * 1048576 / B := (Int.le_ediv_iff_mul_le hB).2 (by omega)
  unfold ratioI
  rw [if_neg (by omega), if_neg (by omega), if_pos (by omega)]
theorem ratio_end {A B q R : Int} (hA : 0 < A) (hB : 0 < B) (h : A * 1048576 / 2 ^ (0 : Int).toNat = q * B + R) (h0 : 0 ≤ R) (h1 : R < B) (hq : q < 4611686018427387904) : ratioI A B = if B ≤ 2 * R then q + 1 else q := by
  have e : A * 1048576 = B * q + R := by
    have : (2 : Int) ^ (0 : Int).toNat = 1 := rfl
    rw [this, Int.ediv_one, Int.mul_comm q B] at h
    exact h
  obtain ⟨e1, e2⟩ : A * 1048576 / B = q ∧ A * 1048576 % B = R := by
    rw [Int.ediv_emod_unique hB]
    exact ⟨by omega, h0, h1⟩
  unfold ratioI
  rw [e1, e2, if_neg (by omega), if_neg (by omega), if_neg (by omega)]
set_option maxHeartbeats 4000000 in
set_option maxRecDepth 100000 in
theorem ratio_fin (w wr : World) (A B q R t : Int) (g2 g3 g7 g9 g10 : Nat) (J K : Act → World → Prop) (x0 x1 x4 x5 x11 x12 x13 x14 x15 x16 x17 x18 x19 x20 x21 x22 x23 x24 x25 x26 x27 x28 x29 x30 x31 x32 x33 x34 x35 x36 x37 x38 x39 x40 x41 x42 x43 x44 x45 x46 x47 x48 x49 x50 x51 x52 x53 x54 x55 x56 x57 x58 x59 x60 x61 x62 x63 x64 x65 x66 x67 x68 x69 x70 x71 x72 x73 x74 x75 x76 x77 x78 x79 x80 x81 x82 x83 x84 x85 x86 x87 x88 x89 x90 x91 x92 x93 x94 x95 z0 z1 z2 z3 : Value)
    (HN : Aside0 (w.heap.size ≤ g2 ∧ g2 < g3 ∧ g3 < g7 ∧ g7 < g9 ∧ g9 < g10)) (HV : Aside0 (0 < A ∧ A < 340282366920938463463374607431768211456 ∧ 0 < B ∧ B < 340282366920938463463374607431768211456)) (HT : Aside0 (0 ≤ t ∧ t ≤ 148 ∧ 0 ≤ q ∧ q < 2 * 4611686018427387904 ∧ A * 1048576 / 2 ^ t.toNat = q * B + R ∧ 0 ≤ R ∧ R < B))
    (K2 : Aside0 (wr.heap[g2]? = some (.cells #[.int .u64 (hi64 A), .int .u64 (lo64 A)] 24 (0, 0)))) (K3 : Aside0 (wr.heap[g3]? = some (.cells #[.int .u64 (hi64 B), .int .u64 (lo64 B)] 24 (0, 0)))) (K7 : Aside0 (wr.heap[g7]? = some (.cells #[.int .u64 (hi64 R), .int .u64 (lo64 R)] 24 (0, 0)))) (K9 : Aside0 (wr.heap[g9]? = some (.cells #[z0, z1] 24 (0, 0)))) (K10 : Aside0 (wr.heap[g10]? = some (.cells #[z2, z3] 24 (0, 0)))) (HB : Aside0 (Below w.heap.size w wr)) (ht : t = 0) (hq : q ≤ 4611686018427387904) :
    Code.wp Try.prog codeR (Exit.jump 0 J (bodyPost Try.prog Try.f10 (fun e w' => e = .returned (.int .i64 (ratioI A B)) ∧ Below w.heap.size w w'))) ⟨#[x0, x1, .pointer (some ⟨g2, 0, none⟩), .pointer (some ⟨g3, 0, none⟩), x4, x5, .int .u64 q, .pointer (some ⟨g7, 0, none⟩), .int .i64 t, .pointer (some ⟨g9, 0, none⟩), .pointer (some ⟨g10, 0, none⟩), x11, x12, x13, x14, x15, x16, x17, x18, x19, x20, x21, x22, x23, x24, x25, x26, x27, x28, x29, x30, x31, x32, x33, x34, x35, x36, x37, x38, x39, x40, x41, x42, x43, x44, x45, x46, x47, x48, x49, x50, x51, x52, x53, x54, x55, x56, x57, x58, x59, x60, x61, x62, x63, x64, x65, x66, x67, x68, x69, x70, x71, x72, x73, x74, x75, x76, x77, x78, x79, x80, x81, x82, x83, x84, x85, x86, x87, x88, x89, x90, x91, x92, x93, x94, x95], []⟩ wr := by
  have n2_3 : g2 ≠ g3 := by have := HN.out; omega
  have n2_7 : g2 ≠ g7 := by have := HN.out; omega
  have n2_9 : g2 ≠ g9 := by have := HN.out; omega
  have n2_10 : g2 ≠ g10 := by have := HN.out; omega
  have n3_2 : g3 ≠ g2 := by have := HN.out; omega
  have n3_7 : g3 ≠ g7 := by have := HN.out; omega
  have n3_9 : g3 ≠ g9 := by have := HN.out; omega
  have n3_10 : g3 ≠ g10 := by have := HN.out; omega
  have n7_2 : g7 ≠ g2 := by have := HN.out; omega
  have n7_3 : g7 ≠ g3 := by have := HN.out; omega
  have n7_9 : g7 ≠ g9 := by have := HN.out; omega
  have n7_10 : g7 ≠ g10 := by have := HN.out; omega
  have n9_2 : g9 ≠ g2 := by have := HN.out; omega
  have n9_3 : g9 ≠ g3 := by have := HN.out; omega
  have n9_7 : g9 ≠ g7 := by have := HN.out; omega
  have n9_10 : g9 ≠ g10 := by have := HN.out; omega
  have n10_2 : g10 ≠ g2 := by have := HN.out; omega
  have n10_3 : g10 ≠ g3 := by have := HN.out; omega
  have n10_7 : g10 ≠ g7 := by have := HN.out; omega
  have n10_9 : g10 ≠ g9 := by have := HN.out; omega
  have c3 := cells2 K3
  have f3 := blk_frozen K3.out
  have c7 := cells2 K7
  have f7 := blk_frozen K7.out
  have c10 := cells2 K10
  have f10 := blk_frozen K10.out
  obtain ⟨hA, hA1, hB0, hB1⟩ := HV.out
  obtain ⟨_, _, hq0, _, hN, hR0, hR1⟩ := HT.out
  have hg : Aside0 (w.heap.size ≤ g10) := ⟨by have := HN.out; omega⟩
  subst ht
  have SC := fun X => sub_c (u := B) (v := R) (by omega) hB1 hR0 (by omega) X
  rw [show (B - R) % 340282366920938463463374607431768211456 = B - R by omega] at SC
  have SCA := Aside0.mk SC
  have HF : Aside0 (ratioI A B = if 4611686018427387904 ≤ q then 4611686018427387904 else if B ≤ 2 * R then q + 1 else q) := ⟨by
    by_cases h : 4611686018427387904 ≤ q
    · rw [if_pos h]; exact ratio_top hA hB0 hN hR0 h
    · rw [if_neg h]; exact ratio_end hA hB0 hN hR0 hR1 (by omega)⟩
  clear SC hN
  conv => arg 2; whnf
  go_split_ands
  go_wp2_with fail
  refine (SCA.out _).mono ?_
  rintro e w1 ⟨rfl, hb⟩
  have K71 := Aside0.mk (blk_below K7.out hb)
  have K101 := Aside0.mk (blk_below K10.out hb)
  have HB1 := Aside0.mk (below_step HB.out hb)
  clear hb
  have c71 := cells2 K71
  have c101 := cells2 K101
  have f101 := blk_frozen K101.out
  go_split_ands
  by_cases h : 4611686018427387904 ≤ q
  · have d1 : decide (q < 4611686018427387904) = false := decide_eq_false (by omega)
    have HF2 := Aside0.mk (HF.out.trans (if_pos h))
    have hqe : q = 4611686018427387904 := by omega
    subst hqe
    clear h hq
    go_wp2_with fail
    simp only [Exit.jump]
    go_ret
    exact ⟨ret_i64 HF2.out.symm, below2 HB1.out hg.out⟩
  · have d1 : decide (q < 4611686018427387904) = true := decide_eq_true (by omega)
    rcases Int.lt_or_le (2 * R) B with h2 | h2
    · have HF2 := Aside0.mk ((HF.out.trans (if_neg h)).trans (if_neg (by omega)))
      have hq1 : q < 4611686018427387904 := by omega
      have CC := Aside0.mk (fun X => cmp_lt (u := R) (v := B - R) (by omega) X)
      clear h h2
      go_wp2_with fail
      refine (CC.out _).mono ?_
      rintro e w2 ⟨⟨c, rfl, hc⟩, hb⟩
      have HB2 := Aside0.mk (below_step (below2 HB1.out hg.out) hb)
      clear hb
      go_wp2_with fail
      simp only [Exit.jump]
      go_ret
      exact ⟨ret_i64 HF2.out.symm, HB2.out⟩
    · have HF2 := Aside0.mk ((HF.out.trans (if_neg h)).trans (if_pos h2))
      have hq1 : q < 4611686018427387904 := by omega
      have CC := Aside0.mk (fun X => cmp_ge (u := R) (v := B - R) (by omega) X)
      clear h h2
      go_wp2_with fail
      refine (CC.out _).mono ?_
      rintro e w2 ⟨⟨c, rfl, hc⟩, hb⟩
      have HB2 := Aside0.mk (below_step (below2 HB1.out hg.out) hb)
      clear hb
      go_wp2_with fail
      simp only [Exit.jump]
      go_ret
      exact ⟨ret_i64 HF2.out.symm, HB2.out⟩
set_option maxHeartbeats 4000000 in
set_option maxRecDepth 100000 in
theorem ratio_tail (w wr : World) (A B q R t : Int) (g2 g3 g7 g9 g10 : Nat) (J K : Act → World → Prop) (x0 x1 x4 x5 x11 x12 x13 x14 x15 x16 x17 x18 x19 x20 x21 x22 x23 x24 x25 x26 x27 x28 x29 x30 x31 x32 x33 x34 x35 x36 x37 x38 x39 x40 x41 x42 x43 x44 x45 x46 x47 x48 x49 x50 x51 x52 x53 x54 x55 x56 x57 x58 x59 x60 x61 x62 x63 x64 x65 x66 x67 x68 x69 x70 x71 x72 x73 x74 x75 x76 x77 x78 x79 x80 x81 x82 x83 x84 x85 x86 x87 x88 x89 x90 x91 x92 x93 x94 x95 z0 z1 z2 z3 : Value)
    (HN : Aside0 (w.heap.size ≤ g2 ∧ g2 < g3 ∧ g3 < g7 ∧ g7 < g9 ∧ g9 < g10)) (HV : Aside0 (0 < A ∧ A < 340282366920938463463374607431768211456 ∧ 0 < B ∧ B < 340282366920938463463374607431768211456)) (HT : Aside0 (0 ≤ t ∧ t ≤ 148 ∧ 0 ≤ q ∧ q < 2 * 4611686018427387904 ∧ A * 1048576 / 2 ^ t.toNat = q * B + R ∧ 0 ≤ R ∧ R < B))
    (K2 : Aside0 (wr.heap[g2]? = some (.cells #[.int .u64 (hi64 A), .int .u64 (lo64 A)] 24 (0, 0)))) (K3 : Aside0 (wr.heap[g3]? = some (.cells #[.int .u64 (hi64 B), .int .u64 (lo64 B)] 24 (0, 0)))) (K7 : Aside0 (wr.heap[g7]? = some (.cells #[.int .u64 (hi64 R), .int .u64 (lo64 R)] 24 (0, 0)))) (K9 : Aside0 (wr.heap[g9]? = some (.cells #[z0, z1] 24 (0, 0)))) (K10 : Aside0 (wr.heap[g10]? = some (.cells #[z2, z3] 24 (0, 0)))) (HB : Aside0 (Below w.heap.size w wr))
    (hK : ∀ a X, Code.wp Try.prog codeR (Exit.jump 0 J (bodyPost Try.prog Try.f10 (fun e w' => e = .returned (.int .i64 (ratioI A B)) ∧ Below w.heap.size w w'))) a X → K a X)
    (hJ : 0 < t → q < 4611686018427387904 → ∀ (y0 y1 y4 y5 y11 y12 y13 y14 y15 y16 y17 y18 y19 y20 y21 y22 y23 y24 y25 y26 y27 y28 y29 y30 y31 y32 y33 y34 y35 y36 y37 y38 y39 y40 y41 y42 y43 y44 y45 y46 y47 y48 y49 y50 y51 y52 y53 y54 y55 y56 y57 y58 y59 y60 y61 y62 y63 y64 y65 y66 y67 y68 y69 y70 y71 y72 y73 y74 y75 y76 y77 y78 y79 y80 y81 y82 y83 y84 y85 y86 y87 y88 y89 y90 y91 y92 y93 y94 y95 : Value), J ⟨#[y0, y1, .pointer (some ⟨g2, 0, none⟩), .pointer (some ⟨g3, 0, none⟩), y4, y5, .int .u64 q, .pointer (some ⟨g7, 0, none⟩), .int .i64 t, .pointer (some ⟨g9, 0, none⟩), .pointer (some ⟨g10, 0, none⟩), y11, y12, y13, y14, y15, y16, y17, y18, y19, y20, y21, y22, y23, y24, y25, y26, y27, y28, y29, y30, y31, y32, y33, y34, y35, y36, y37, y38, y39, y40, y41, y42, y43, y44, y45, y46, y47, y48, y49, y50, y51, y52, y53, y54, y55, y56, y57, y58, y59, y60, y61, y62, y63, y64, y65, y66, y67, y68, y69, y70, y71, y72, y73, y74, y75, y76, y77, y78, y79, y80, y81, y82, y83, y84, y85, y86, y87, y88, y89, y90, y91, y92, y93, y94, y95], []⟩ wr) :
    Code.wp Try.prog codeB (Exit.then K (Exit.jump 0 J (bodyPost Try.prog Try.f10 (fun e w' => e = .returned (.int .i64 (ratioI A B)) ∧ Below w.heap.size w w')))) ⟨#[x0, x1, .pointer (some ⟨g2, 0, none⟩), .pointer (some ⟨g3, 0, none⟩), x4, x5, .int .u64 q, .pointer (some ⟨g7, 0, none⟩), .int .i64 t, .pointer (some ⟨g9, 0, none⟩), .pointer (some ⟨g10, 0, none⟩), x11, x12, x13, x14, x15, x16, x17, x18, x19, x20, x21, x22, x23, x24, x25, x26, x27, x28, x29, x30, x31, x32, x33, x34, x35, x36, x37, x38, x39, x40, x41, x42, x43, x44, x45, x46, x47, x48, x49, x50, x51, x52, x53, x54, x55, x56, x57, x58, x59, x60, x61, x62, x63, x64, x65, x66, x67, x68, x69, x70, x71, x72, x73, x74, x75, x76, x77, x78, x79, x80, x81, x82, x83, x84, x85, x86, x87, x88, x89, x90, x91, x92, x93, x94, x95], []⟩ wr := by
  obtain ⟨hA, hA1, hB0, hB1⟩ := HV.out
  obtain ⟨ht0, ht1, hq0, hq1, hN, hR0, hR1⟩ := HT.out
  have HJ := Aside0.mk hJ
  have HK := Aside0.mk hK
  clear hJ hK
  have HF : Aside0 (4611686018427387904 ≤ q → ratioI A B = 4611686018427387904) := ⟨fun h => ratio_top hA hB0 hN hR0 h⟩
  clear hN
  conv => arg 2; whnf
  by_cases h : 4611686018427387904 < q
  · have d1 : decide (4611686018427387904 < q) = true := decide_eq_true h
    have HF2 := Aside0.mk (HF.out (by omega))
    clear h
    go_wp2_with fail
    simp only [Exit.then, Exit.jump]
    go_ret
    exact ⟨ret_i64 HF2.out.symm, HB.out⟩
  have d1 : decide (4611686018427387904 < q) = false := decide_eq_false h
  by_cases h2 : 0 < t
  · have d2 : decide (0 < t) = true := decide_eq_true h2
    by_cases h3 : 4611686018427387904 ≤ q
    · have d3 : decide (4611686018427387904 ≤ q) = true := decide_eq_true h3
      have HF2 := Aside0.mk (HF.out h3)
      clear h h2 h3
      go_wp2_with fail
      simp only [Exit.then, Exit.jump]
      go_ret
      exact ⟨ret_i64 HF2.out.symm, HB.out⟩
    · have d3 : decide (4611686018427387904 ≤ q) = false := decide_eq_false h3
      have HJ2 := Aside0.mk (HJ.out h2 (by omega))
      clear h h2 h3
      go_wp2_with fail
      go_step3
      exact ⟨rfl, HJ2.out _ _ _ _ _ _ _ _ _ _ _ _ _ _ _ _ _ _ _ _ _ _ _ _ _ _ _ _ _ _ _ _ _ _ _ _ _ _ _ _ _ _ _ _ _ _ _ _ _ _ _ _ _ _ _ _ _ _ _ _ _ _ _ _ _ _ _ _ _ _ _ _ _ _ _ _ _ _ _ _ _ _ _ _ _ _ _ _ _⟩
  · have d2 : decide (0 < t) = false := decide_eq_false h2
    have ht : t = 0 := by omega
    have hq : q ≤ 4611686018427387904 := by omega
    have HE := Aside0.mk (And.intro ht hq)
    clear h h2 ht hq
    go_wp2_with fail
    refine HK.out _ _ ?_
    exact ratio_fin w wr A B q R t g2 g3 g7 g9 g10 J K _ _ _ _ _ _ _ _ _ _ _ _ _ _ _ _ _ _ _ _ _ _ _ _ _ _ _ _ _ _ _ _ _ _ _ _ _ _ _ _ _ _ _ _ _ _ _ _ _ _ _ _ _ _ _ _ _ _ _ _ _ _ _ _ _ _ _ _ _ _ _ _ _ _ _ _ _ _ _ _ _ _ _ _ _ _ _ _ _ z0 z1 z2 z3 HN HV HT K2 K3 K7 K9 K10 HB HE.out.1 HE.out.2
theorem ratio_math {A B q R t S ov b V : Int} (hA : 0 < A) (hB : 0 < B) (hB1 : B < 340282366920938463463374607431768211456) (h0 : 0 < t) (h1 : t ≤ 148) (hN : A * 1048576 / 2 ^ t.toNat = q * B + R) (hR0 : 0 ≤ R) (hR1 : R < B) (hS : S = (R + R) % 340282366920938463463374607431768211456) (ho : ov = (R + R) / 340282366920938463463374607431768211456) (hb : b = (if 20 ≤ t - 1 then V % 2 else 0)) (hV : V = A / 2 ^ (max (t - 21) 0).toNat) :
    (0 ≤ S + b ∧ S + b < 340282366920938463463374607431768211456) ∧ (((ov == 1) = true ∧ Aside0 (A * 1048576 / 2 ^ (t - 1).toNat = (q * 2 + 1) * B + (S + b - B) % 340282366920938463463374607431768211456 ∧ 0 ≤ (S + b - B) % 340282366920938463463374607431768211456 ∧ (S + b - B) % 340282366920938463463374607431768211456 < B)) ∨ ((ov == 1) = false ∧ Aside0 (B ≤ S + b) ∧ Aside0 (A * 1048576 / 2 ^ (t - 1).toNat = (q * 2 + 1) * B + (S + b - B) % 340282366920938463463374607431768211456 ∧ 0 ≤ (S + b - B) % 340282366920938463463374607431768211456 ∧ (S + b - B) % 340282366920938463463374607431768211456 < B)) ∨ ((ov == 1) = false ∧ Aside0 (S + b < B) ∧ Aside0 (A * 1048576 / 2 ^ (t - 1).toNat = q * 2 * B + (S + b) ∧ 0 ≤ S + b ∧ S + b < B))) := by
  have e1 : A * 1048576 / 2 ^ t.toNat = A * 1048576 / 2 ^ (t - 1).toNat / 2 := by
    have := ediv_pow (A * 1048576) (t - 1).toNat 1
    rw [show (t - 1).toNat + 1 = t.toNat by omega] at this
    exact this
  have e2 : A * 1048576 / 2 ^ (t - 1).toNat % 2 = b := by
    by_cases h : 20 ≤ t - 1
    · rw [hb, if_pos h, hV]
      have e : (t - 1).toNat = 20 + (max (t - 21) 0).toNat := by omega
      rw [e, ediv_pow, show (2 : Int) ^ 20 = 1048576 from rfl, Int.mul_ediv_cancel _ (by decide)]
    · rw [hb, if_neg h]
      have e : (1048576 : Int) = 2 ^ (t - 1).toNat * (2 ^ (20 - t.toNat) * 2) := by
        have : (1048576 : Int) = 2 ^ ((t - 1).toNat + (20 - t.toNat + 1)) := by rw [show (t - 1).toNat + (20 - t.toNat + 1) = 20 by omega]; rfl
        rw [this, Int.pow_add, Int.pow_succ]
      have e3 : A * 1048576 = 2 ^ (t - 1).toNat * (A * 2 ^ (20 - t.toNat) * 2) := by
        rw [e, ← Int.mul_assoc A, Int.mul_comm A, Int.mul_assoc, Int.mul_assoc A]
      rw [e3, Int.mul_ediv_cancel_left _ (Int.ne_of_gt (two_pow_pos _))]
      omega
  generalize A * 1048576 / 2 ^ (t - 1).toNat = X at e1 e2 ⊢
  have hb01 : b = 0 ∨ b = 1 := by omega
  have hX : X = 2 * (q * B + R) + b := by rw [← hN, e1]; omega
  have m1 : (q * 2 + 1) * B = 2 * (q * B) + B := by rw [Int.add_mul, Int.mul_comm q 2, Int.mul_assoc]; omega
  have m2 : q * 2 * B = 2 * (q * B) := by rw [Int.mul_comm q 2, Int.mul_assoc]
  rw [m1, m2]
  generalize q * B = Y at *
  have ho01 : ov = 0 ∨ ov = 1 := by omega
  refine ⟨by omega, ?_⟩
  rcases ho01 with h | h
  · have hne : (ov == 1) = false := by rw [h]; rfl
    rcases Int.lt_or_le (S + b) B with hl | hl
    · exact .inr (.inr ⟨hne, ⟨hl⟩, ⟨by omega⟩⟩)
    · exact .inr (.inl ⟨hne, ⟨hl⟩, ⟨by omega⟩⟩)
  · have hne : (ov == 1) = true := by rw [h]; rfl
    exact .inl ⟨hne, ⟨by omega⟩⟩
open Go.Proofs.Th
set_option maxHeartbeats 4000000 in
set_option maxRecDepth 100000 in
theorem ratio_step (w wr : World) (A B q R t : Int) (g2 g3 g7 g9 g10 : Nat) (J : Act → World → Prop) (x0 x1 x4 x5 x11 x12 x13 x14 x15 x16 x17 x18 x19 x20 x21 x22 x23 x24 x25 x26 x27 x28 x29 x30 x31 x32 x33 x34 x35 x36 x37 x38 x39 x40 x41 x42 x43 x44 x45 x46 x47 x48 x49 x50 x51 x52 x53 x54 x55 x56 x57 x58 x59 x60 x61 x62 x63 x64 x65 x66 x67 x68 x69 x70 x71 x72 x73 x74 x75 x76 x77 x78 x79 x80 x81 x82 x83 x84 x85 x86 x87 x88 x89 x90 x91 x92 x93 x94 x95 z0 z1 z2 z3 : Value)
    (HN : Aside0 (w.heap.size ≤ g2 ∧ g2 < g3 ∧ g3 < g7 ∧ g7 < g9 ∧ g9 < g10)) (HV : Aside0 (0 < A ∧ A < 340282366920938463463374607431768211456 ∧ 0 < B ∧ B < 340282366920938463463374607431768211456)) (HT : Aside0 (0 < t ∧ t ≤ 148 ∧ 0 ≤ q ∧ q < 4611686018427387904 ∧ A * 1048576 / 2 ^ t.toNat = q * B + R ∧ 0 ≤ R ∧ R < B))
    (K2 : Aside0 (wr.heap[g2]? = some (.cells #[.int .u64 (hi64 A), .int .u64 (lo64 A)] 24 (0, 0)))) (K3 : Aside0 (wr.heap[g3]? = some (.cells #[.int .u64 (hi64 B), .int .u64 (lo64 B)] 24 (0, 0)))) (K7 : Aside0 (wr.heap[g7]? = some (.cells #[.int .u64 (hi64 R), .int .u64 (lo64 R)] 24 (0, 0)))) (K9 : Aside0 (wr.heap[g9]? = some (.cells #[z0, z1] 24 (0, 0)))) (K10 : Aside0 (wr.heap[g10]? = some (.cells #[z2, z3] 24 (0, 0)))) (HB : Aside0 (Below w.heap.size w wr))
    (hJ : ∀ (q1 R1 : Int) (X : World) (z0 z1 z2 z3 : Value) (y0 y1 y4 y5 y11 y12 y13 y14 y15 y16 y17 y18 y19 y20 y21 y22 y23 y24 y25 y26 y27 y28 y29 y30 y31 y32 y33 y34 y35 y36 y37 y38 y39 y40 y41 y42 y43 y44 y45 y46 y47 y48 y49 y50 y51 y52 y53 y54 y55 y56 y57 y58 y59 y60 y61 y62 y63 y64 y65 y66 y67 y68 y69 y70 y71 y72 y73 y74 y75 y76 y77 y78 y79 y80 y81 y82 y83 y84 y85 y86 y87 y88 y89 y90 y91 y92 y93 y94 y95 : Value), Aside0 (0 < t - 1 ∧ t - 1 ≤ 148 ∧ 0 ≤ q1 ∧ q1 < 4611686018427387904 ∧ A * 1048576 / 2 ^ (t - 1).toNat = q1 * B + R1 ∧ 0 ≤ R1 ∧ R1 < B) → Aside0 (X.heap[g2]? = some (.cells #[.int .u64 (hi64 A), .int .u64 (lo64 A)] 24 (0, 0))) → Aside0 (X.heap[g3]? = some (.cells #[.int .u64 (hi64 B), .int .u64 (lo64 B)] 24 (0, 0))) → Aside0 (X.heap[g7]? = some (.cells #[.int .u64 (hi64 R1), .int .u64 (lo64 R1)] 24 (0, 0))) → Aside0 (X.heap[g9]? = some (.cells #[z0, z1] 24 (0, 0))) → Aside0 (X.heap[g10]? = some (.cells #[z2, z3] 24 (0, 0))) → Aside0 (Below w.heap.size w X) → J ⟨#[y0, y1, .pointer (some ⟨g2, 0, none⟩), .pointer (some ⟨g3, 0, none⟩), y4, y5, .int .u64 q1, .pointer (some ⟨g7, 0, none⟩), .int .i64 (t - 1), .pointer (some ⟨g9, 0, none⟩), .pointer (some ⟨g10, 0, none⟩), y11, y12, y13, y14, y15, y16, y17, y18, y19, y20, y21, y22, y23, y24, y25, y26, y27, y28, y29, y30, y31, y32, y33, y34, y35, y36, y37, y38, y39, y40, y41, y42, y43, y44, y45, y46, y47, y48, y49, y50, y51, y52, y53, y54, y55, y56, y57, y58, y59, y60, y61, y62, y63, y64, y65, y66, y67, y68, y69, y70, y71, y72, y73, y74, y75, y76, y77, y78, y79, y80, y81, y82, y83, y84, y85, y86, y87, y88, y89, y90, y91, y92, y93, y94, y95], []⟩ X) :
    Code.wp Try.prog codeX (Exit.jump 0 J (bodyPost Try.prog Try.f10 (fun e w' => e = .returned (.int .i64 (ratioI A B)) ∧ Below w.heap.size w w'))) ⟨#[x0, x1, .pointer (some ⟨g2, 0, none⟩), .pointer (some ⟨g3, 0, none⟩), x4, x5, .int .u64 q, .pointer (some ⟨g7, 0, none⟩), .int .i64 t, .pointer (some ⟨g9, 0, none⟩), .pointer (some ⟨g10, 0, none⟩), x11, x12, x13, x14, x15, x16, x17, x18, x19, x20, x21, x22, x23, x24, x25, x26, x27, x28, x29, x30, x31, x32, x33, x34, x35, x36, x37, x38, x39, x40, x41, x42, x43, x44, x45, x46, x47, x48, x49, x50, x51, x52, x53, x54, x55, x56, x57, x58, x59, x60, x61, x62, x63, x64, x65, x66, x67, x68, x69, x70, x71, x72, x73, x74, x75, x76, x77, x78, x79, x80, x81, x82, x83, x84, x85, x86, x87, x88, x89, x90, x91, x92, x93, x94, x95], []⟩ wr := by
  have n2_3 : g2 ≠ g3 := by have := HN.out; omega
  have n2_7 : g2 ≠ g7 := by have := HN.out; omega
  have n2_9 : g2 ≠ g9 := by have := HN.out; omega
  have n2_10 : g2 ≠ g10 := by have := HN.out; omega
  have n3_2 : g3 ≠ g2 := by have := HN.out; omega
  have n3_7 : g3 ≠ g7 := by have := HN.out; omega
  have n3_9 : g3 ≠ g9 := by have := HN.out; omega
  have n3_10 : g3 ≠ g10 := by have := HN.out; omega
  have n7_2 : g7 ≠ g2 := by have := HN.out; omega
  have n7_3 : g7 ≠ g3 := by have := HN.out; omega
  have n7_9 : g7 ≠ g9 := by have := HN.out; omega
  have n7_10 : g7 ≠ g10 := by have := HN.out; omega
  have n9_2 : g9 ≠ g2 := by have := HN.out; omega
  have n9_3 : g9 ≠ g3 := by have := HN.out; omega
  have n9_7 : g9 ≠ g7 := by have := HN.out; omega
  have n9_10 : g9 ≠ g10 := by have := HN.out; omega
  have n10_2 : g10 ≠ g2 := by have := HN.out; omega
  have n10_3 : g10 ≠ g3 := by have := HN.out; omega
  have n10_7 : g10 ≠ g7 := by have := HN.out; omega
  have n10_9 : g10 ≠ g9 := by have := HN.out; omega
  have c2 := cells2 K2
  have f2 := blk_frozen K2.out
  have c7 := cells2 K7
  have f7 := blk_frozen K7.out
  have c9 := cells2 K9
  have f9 := blk_frozen K9.out
  obtain ⟨hA, hA1, hB0, hB1⟩ := HV.out
  have hA0 : 0 ≤ A := by omega
  have hA0' : 0 ≤ B := by omega
  have h0 : 0 < t := HT.out.1
  have h1 : t ≤ 148 := HT.out.2.1
  have hR0 : 0 ≤ R := HT.out.2.2.2.2.2.1
  have hR1 : R < B := HT.out.2.2.2.2.2.2
  have hq0 : 0 ≤ q := HT.out.2.2.1
  have hq1 : q < 4611686018427387904 := HT.out.2.2.2.1
  have hg : Aside0 (w.heap.size ≤ g9 ∧ w.heap.size ≤ g7) := ⟨by have := HN.out; omega⟩
  have AC := fun X => add_c hR0 (by omega) X
  obtain ⟨S, hS⟩ : ∃ S, (R + R) % 340282366920938463463374607431768211456 = S := ⟨_, rfl⟩
  obtain ⟨ov, hov⟩ : ∃ ov, (R + R) / 340282366920938463463374607431768211456 = ov := ⟨_, rfl⟩
  obtain ⟨V, hV⟩ : ∃ V, A / 2 ^ (max (t - 21) 0).toNat = V := ⟨_, rfl⟩
  have RC := Aside0.mk (fun n hn X => right_n (n := n) hA0 hA1 h1 hV hn X)
  simp only [hS, hov] at AC
  have ACS := fun X => Aside0.mk (AC X)
  obtain ⟨b, hb⟩ : ∃ b, (if 20 ≤ t - 1 then V % 2 else 0) = b := ⟨_, rfl⟩
  have hb01 : b = 0 ∨ b = 1 := by rw [← hb]; split <;> omega
  have hSe : S % 2 = 0 := by rw [← hS]; omega
  obtain ⟨eo, eh⟩ := or_even hb01 hSe
  have EH := Aside0.mk eh
  have hb1 : 20 ≤ t - 1 → Go.bits .and .u64 (lo64 V) 1 = b := fun h => by rw [and_one, ← hb, if_pos h]
  have hb0 : t - 1 < 20 → S + b = S := fun h => by rw [← hb, if_neg (by omega)]; omega
  have hhs : (decide (20 ≤ t - 1) = true ∧ Aside0 (20 ≤ t - 1)) ∨ (decide (20 ≤ t - 1) = false ∧ Aside0 (t - 1 < 20)) := by
    by_cases h : 20 ≤ t - 1
    · exact .inl ⟨decide_eq_true h, ⟨h⟩⟩
    · exact .inr ⟨decide_eq_false h, ⟨by omega⟩⟩
  have HD : Aside0 (S = (R + R) % 340282366920938463463374607431768211456 ∧ ov = (R + R) / 340282366920938463463374607431768211456 ∧ b = (if 20 ≤ t - 1 then V % 2 else 0) ∧ V = A / 2 ^ (max (t - 21) 0).toNat) := ⟨⟨hS.symm, hov.symm, hb.symm, hV.symm⟩⟩
  have MM := ratio_math hA hB0 hB1 h0 h1 HT.out.2.2.2.2.1 hR0 hR1 hS.symm hov.symm hb.symm hV.symm
  have M3 := Aside0.mk MM.2
  have SUB := Aside0.mk (fun X => sub_c (u := S + b) (v := B) MM.1.1 MM.1.2 hA0' hB1 X)
  have HJ := Aside0.mk hJ
  clear AC hS hov hV hb eh hSe hb01 MM hJ
  have hqq := or_one hq0 hq1
  conv => arg 2; whnf
  rcases hhs with ⟨d20, D20⟩ | ⟨d20, D20⟩
  · have HB1 := Aside0.mk (hb1 D20.out)
    have HO := Aside0.mk eo
    clear hb1 hb0 eo
    go_split_ands
    go_wp2_with fail
    all_goals
      refine (RC.out _ (by omega) _).mono ?_
      rintro e w1 ⟨rfl, hb⟩
      have K21 := Aside0.mk (blk_below K2.out hb)
      have K31 := Aside0.mk (blk_below K3.out hb)
      have K71 := Aside0.mk (blk_below K7.out hb)
      have K91 := Aside0.mk (blk_below K9.out hb)
      have K101 := Aside0.mk (blk_below K10.out hb)
      have HB1' := Aside0.mk (below_step HB.out hb)
      clear hb
      have c71 := cells2 K71
      have c91 := cells2 K91
      have f91 := blk_frozen K91.out
      go_split_ands
      go_wp2_with fail
      refine (ACS _).out.mono ?_
      rintro e w2 ⟨rfl, hb⟩
      have K22 := Aside0.mk (blk_below (far2 K21.out n2_9) hb)
      have K32 := Aside0.mk (blk_below (far2 K31.out n3_9) hb)
      have K72 := Aside0.mk (blk_below (far2 K71.out n7_9) hb)
      have K92 := Aside0.mk (blk_below (put2 K91.out) hb)
      have K102 := Aside0.mk (blk_below (far2 K101.out n10_9) hb)
      have HB2 := Aside0.mk (below_step (below2 HB1'.out hg.out.1) hb)
      clear hb
      have c72 := cells2 K72
      have c92 := cells2 K92
      have f72 := blk_frozen K72.out
      go_split_ands
      have eb := HB1.out
      have eo := HO.out
      go_upto_region 15 with fail
      obtain ⟨w3, e3⟩ : ∃ w3, (((w2.setCell ⟨g7, 0, none⟩ (.int .u64 (hi64 S))).setCell ⟨g7, 1, none⟩ (.int .u64 (lo64 S))).setCell ⟨g7, 1, none⟩ (.int .u64 (lo64 (S + b)))) = w3 := ⟨_, rfl⟩
      have K73 : Aside0 (w3.heap[g7]? = some (.cells #[.int .u64 (hi64 (S + b)), .int .u64 (lo64 (S + b))] 24 (0, 0))) := ⟨by rw [← e3, ← EH.out]; exact blk_put (put2 K72.out) 1 _ rfl⟩
      have K33 : Aside0 (w3.heap[g3]? = some (.cells #[.int .u64 (hi64 B), .int .u64 (lo64 B)] 24 (0, 0))) := ⟨by rw [← e3]; exact blk_far (far2 K32.out n3_7) n3_7 _⟩
      have K23 : Aside0 (w3.heap[g2]? = some (.cells #[.int .u64 (hi64 A), .int .u64 (lo64 A)] 24 (0, 0))) := ⟨by rw [← e3]; exact blk_far (far2 K22.out n2_7) n2_7 _⟩
      have K93 : Aside0 (w3.heap[g9]? = some (.cells #[.int .u64 (hi64 V), .int .u64 (lo64 V)] 24 (0, 0))) := ⟨by rw [← e3]; exact blk_far (far2 K92.out n9_7) n9_7 _⟩
      have K103 : Aside0 (w3.heap[g10]? = some (.cells #[z2, z3] 24 (0, 0))) := ⟨by rw [← e3]; exact blk_far (far2 K102.out n10_7) n10_7 _⟩
      have HB3 : Aside0 (Below w.heap.size w w3) := ⟨by rw [← e3]; exact below_set (below2 HB2.out hg.out.2) hg.out.2⟩
      rw [e3]
      clear e3
      have c73 := cells2 K73
      have c33 := cells2 K33
      have f73 := blk_frozen K73.out
      go_split_ands
      rcases M3.out with ⟨o1, MY⟩ | ⟨o1, hge, MY⟩ | ⟨o1, hlt, MY⟩
      · go_wp2_with fail
        refine (SUB.out _).mono ?_
        rintro e W ⟨rfl, hb⟩
        have K25 := Aside0.mk (blk_below K23.out hb)
        have K35 := Aside0.mk (blk_below K33.out hb)
        have K75 := Aside0.mk (blk_below K73.out hb)
        have K95 := Aside0.mk (blk_below K93.out hb)
        have K105 := Aside0.mk (blk_below K103.out hb)
        have HB5 := Aside0.mk (below_step HB3.out hb)
        clear hb
        have c75 := cells2 K75
        have f75 := blk_frozen K75.out
        go_split_ands
        go_upto_block 1 with fail
        refine ratio_tail w _ A B (q * 2 + 1) ((S + b - B) % 340282366920938463463374607431768211456) (t - 1) g2 g3 g7 g9 g10 J _ _ _ _ _ _ _ _ _ _ _ _ _ _ _ _ _ _ _ _ _ _ _ _ _ _ _ _ _ _ _ _ _ _ _ _ _ _ _ _ _ _ _ _ _ _ _ _ _ _ _ _ _ _ _ _ _ _ _ _ _ _ _ _ _ _ _ _ _ _ _ _ _ _ _ _ _ _ _ _ _ _ _ _ _ _ _ _ _ _ _ _ _ _ HN HV ⟨by have := MY.out; omega⟩ ⟨far2 K25.out n2_7⟩ ⟨far2 K35.out n3_7⟩ ⟨put2 K75.out⟩ ⟨far2 K95.out n9_7⟩ ⟨far2 K105.out n10_7⟩ ⟨below2 HB5.out hg.out.2⟩ (by assumption) ?_
        intro j0 j1 y0 y1 y4 y5 y11 y12 y13 y14 y15 y16 y17 y18 y19 y20 y21 y22 y23 y24 y25 y26 y27 y28 y29 y30 y31 y32 y33 y34 y35 y36 y37 y38 y39 y40 y41 y42 y43 y44 y45 y46 y47 y48 y49 y50 y51 y52 y53 y54 y55 y56 y57 y58 y59 y60 y61 y62 y63 y64 y65 y66 y67 y68 y69 y70 y71 y72 y73 y74 y75 y76 y77 y78 y79 y80 y81 y82 y83 y84 y85 y86 y87 y88 y89 y90 y91 y92 y93 y94 y95
        exact HJ.out _ _ _ _ _ _ _ _ _ _ _ _ _ _ _ _ _ _ _ _ _ _ _ _ _ _ _ _ _ _ _ _ _ _ _ _ _ _ _ _ _ _ _ _ _ _ _ _ _ _ _ _ _ _ _ _ _ _ _ _ _ _ _ _ _ _ _ _ _ _ _ _ _ _ _ _ _ _ _ _ _ _ _ _ _ _ _ _ _ _ _ _ _ _ _ _ ⟨by have := MY.out; omega⟩ ⟨far2 K25.out n2_7⟩ ⟨far2 K35.out n3_7⟩ ⟨put2 K75.out⟩ ⟨far2 K95.out n9_7⟩ ⟨far2 K105.out n10_7⟩ ⟨below2 HB5.out hg.out.2⟩
      · have CMP := Aside0.mk (fun X => cmp_ge (u := S + b) (v := B) hge.out X)
        go_wp2_with fail
        refine (CMP.out _).mono ?_
        rintro e w4 ⟨⟨c, rfl, hc⟩, hb⟩
        have K24 := Aside0.mk (blk_below K23.out hb)
        have K34 := Aside0.mk (blk_below K33.out hb)
        have K74 := Aside0.mk (blk_below K73.out hb)
        have K94 := Aside0.mk (blk_below K93.out hb)
        have K104 := Aside0.mk (blk_below K103.out hb)
        have HB4 := Aside0.mk (below_step HB3.out hb)
        clear hb
        have c74 := cells2 K74
        have c34 := cells2 K34
        go_split_ands
        go_wp2_with fail
        refine (SUB.out _).mono ?_
        rintro e W ⟨rfl, hb⟩
        have K25 := Aside0.mk (blk_below K24.out hb)
        have K35 := Aside0.mk (blk_below K34.out hb)
        have K75 := Aside0.mk (blk_below K74.out hb)
        have K95 := Aside0.mk (blk_below K94.out hb)
        have K105 := Aside0.mk (blk_below K104.out hb)
        have HB5 := Aside0.mk (below_step HB4.out hb)
        clear hb
        have c75 := cells2 K75
        have f75 := blk_frozen K75.out
        go_split_ands
        go_upto_block 1 with fail
        refine ratio_tail w _ A B (q * 2 + 1) ((S + b - B) % 340282366920938463463374607431768211456) (t - 1) g2 g3 g7 g9 g10 J _ _ _ _ _ _ _ _ _ _ _ _ _ _ _ _ _ _ _ _ _ _ _ _ _ _ _ _ _ _ _ _ _ _ _ _ _ _ _ _ _ _ _ _ _ _ _ _ _ _ _ _ _ _ _ _ _ _ _ _ _ _ _ _ _ _ _ _ _ _ _ _ _ _ _ _ _ _ _ _ _ _ _ _ _ _ _ _ _ _ _ _ _ _ HN HV ⟨by have := MY.out; omega⟩ ⟨far2 K25.out n2_7⟩ ⟨far2 K35.out n3_7⟩ ⟨put2 K75.out⟩ ⟨far2 K95.out n9_7⟩ ⟨far2 K105.out n10_7⟩ ⟨below2 HB5.out hg.out.2⟩ (by assumption) ?_
        intro j0 j1 y0 y1 y4 y5 y11 y12 y13 y14 y15 y16 y17 y18 y19 y20 y21 y22 y23 y24 y25 y26 y27 y28 y29 y30 y31 y32 y33 y34 y35 y36 y37 y38 y39 y40 y41 y42 y43 y44 y45 y46 y47 y48 y49 y50 y51 y52 y53 y54 y55 y56 y57 y58 y59 y60 y61 y62 y63 y64 y65 y66 y67 y68 y69 y70 y71 y72 y73 y74 y75 y76 y77 y78 y79 y80 y81 y82 y83 y84 y85 y86 y87 y88 y89 y90 y91 y92 y93 y94 y95
        exact HJ.out _ _ _ _ _ _ _ _ _ _ _ _ _ _ _ _ _ _ _ _ _ _ _ _ _ _ _ _ _ _ _ _ _ _ _ _ _ _ _ _ _ _ _ _ _ _ _ _ _ _ _ _ _ _ _ _ _ _ _ _ _ _ _ _ _ _ _ _ _ _ _ _ _ _ _ _ _ _ _ _ _ _ _ _ _ _ _ _ _ _ _ _ _ _ _ _ ⟨by have := MY.out; omega⟩ ⟨far2 K25.out n2_7⟩ ⟨far2 K35.out n3_7⟩ ⟨put2 K75.out⟩ ⟨far2 K95.out n9_7⟩ ⟨far2 K105.out n10_7⟩ ⟨below2 HB5.out hg.out.2⟩
      · have CMP := Aside0.mk (fun X => cmp_lt (u := S + b) (v := B) hlt.out X)
        go_wp2_with fail
        refine (CMP.out _).mono ?_
        rintro e w4 ⟨⟨c, rfl, hc⟩, hb⟩
        have K24 := Aside0.mk (blk_below K23.out hb)
        have K34 := Aside0.mk (blk_below K33.out hb)
        have K74 := Aside0.mk (blk_below K73.out hb)
        have K94 := Aside0.mk (blk_below K93.out hb)
        have K104 := Aside0.mk (blk_below K103.out hb)
        have HB4 := Aside0.mk (below_step HB3.out hb)
        clear hb
        have c74 := cells2 K74
        have c34 := cells2 K34
        go_split_ands
        go_upto_block 1 with fail
        refine ratio_tail w _ A B (q * 2) (S + b) (t - 1) g2 g3 g7 g9 g10 J _ _ _ _ _ _ _ _ _ _ _ _ _ _ _ _ _ _ _ _ _ _ _ _ _ _ _ _ _ _ _ _ _ _ _ _ _ _ _ _ _ _ _ _ _ _ _ _ _ _ _ _ _ _ _ _ _ _ _ _ _ _ _ _ _ _ _ _ _ _ _ _ _ _ _ _ _ _ _ _ _ _ _ _ _ _ _ _ _ _ _ _ _ _ HN HV ⟨by have := MY.out; omega⟩ K24 K34 K74 K94 K104 HB4 (by assumption) ?_
        intro j0 j1 y0 y1 y4 y5 y11 y12 y13 y14 y15 y16 y17 y18 y19 y20 y21 y22 y23 y24 y25 y26 y27 y28 y29 y30 y31 y32 y33 y34 y35 y36 y37 y38 y39 y40 y41 y42 y43 y44 y45 y46 y47 y48 y49 y50 y51 y52 y53 y54 y55 y56 y57 y58 y59 y60 y61 y62 y63 y64 y65 y66 y67 y68 y69 y70 y71 y72 y73 y74 y75 y76 y77 y78 y79 y80 y81 y82 y83 y84 y85 y86 y87 y88 y89 y90 y91 y92 y93 y94 y95
        exact HJ.out _ _ _ _ _ _ _ _ _ _ _ _ _ _ _ _ _ _ _ _ _ _ _ _ _ _ _ _ _ _ _ _ _ _ _ _ _ _ _ _ _ _ _ _ _ _ _ _ _ _ _ _ _ _ _ _ _ _ _ _ _ _ _ _ _ _ _ _ _ _ _ _ _ _ _ _ _ _ _ _ _ _ _ _ _ _ _ _ _ _ _ _ _ _ _ _ ⟨by have := MY.out; omega⟩ K24 K34 K74 K94 K104 HB4
  · have HB0 := Aside0.mk (hb0 D20.out)
    clear hb1 hb0 eo
    go_split_ands
    go_wp2_with fail
    all_goals try (exfalso; have := D20.out; omega)
    all_goals
      refine (RC.out _ (by omega) _).mono ?_
      rintro e w1 ⟨rfl, hb⟩
      have K21 := Aside0.mk (blk_below K2.out hb)
      have K31 := Aside0.mk (blk_below K3.out hb)
      have K71 := Aside0.mk (blk_below K7.out hb)
      have K91 := Aside0.mk (blk_below K9.out hb)
      have K101 := Aside0.mk (blk_below K10.out hb)
      have HB1' := Aside0.mk (below_step HB.out hb)
      clear hb
      have c71 := cells2 K71
      have c91 := cells2 K91
      have f91 := blk_frozen K91.out
      go_split_ands
      go_wp2_with fail
      refine (ACS _).out.mono ?_
      rintro e w2 ⟨rfl, hb⟩
      have K22 := Aside0.mk (blk_below (far2 K21.out n2_9) hb)
      have K32 := Aside0.mk (blk_below (far2 K31.out n3_9) hb)
      have K72 := Aside0.mk (blk_below (far2 K71.out n7_9) hb)
      have K92 := Aside0.mk (blk_below (put2 K91.out) hb)
      have K102 := Aside0.mk (blk_below (far2 K101.out n10_9) hb)
      have HB2 := Aside0.mk (below_step (below2 HB1'.out hg.out.1) hb)
      clear hb
      have c72 := cells2 K72
      have c92 := cells2 K92
      have f72 := blk_frozen K72.out
      go_split_ands
      go_upto_region 15 with fail
      obtain ⟨w3, e3⟩ : ∃ w3, ((w2.setCell ⟨g7, 0, none⟩ (.int .u64 (hi64 S))).setCell ⟨g7, 1, none⟩ (.int .u64 (lo64 S))) = w3 := ⟨_, rfl⟩
      have K73 : Aside0 (w3.heap[g7]? = some (.cells #[.int .u64 (hi64 (S + b)), .int .u64 (lo64 (S + b))] 24 (0, 0))) := ⟨by rw [← e3, HB0.out]; exact put2 K72.out⟩
      have K33 : Aside0 (w3.heap[g3]? = some (.cells #[.int .u64 (hi64 B), .int .u64 (lo64 B)] 24 (0, 0))) := ⟨by rw [← e3]; exact far2 K32.out n3_7⟩
      have K23 : Aside0 (w3.heap[g2]? = some (.cells #[.int .u64 (hi64 A), .int .u64 (lo64 A)] 24 (0, 0))) := ⟨by rw [← e3]; exact far2 K22.out n2_7⟩
      have K93 : Aside0 (w3.heap[g9]? = some (.cells #[.int .u64 (hi64 V), .int .u64 (lo64 V)] 24 (0, 0))) := ⟨by rw [← e3]; exact far2 K92.out n9_7⟩
      have K103 : Aside0 (w3.heap[g10]? = some (.cells #[z2, z3] 24 (0, 0))) := ⟨by rw [← e3]; exact far2 K102.out n10_7⟩
      have HB3 : Aside0 (Below w.heap.size w w3) := ⟨by rw [← e3]; exact below2 HB2.out hg.out.2⟩
      rw [e3]
      clear e3
      have c73 := cells2 K73
      have c33 := cells2 K33
      have f73 := blk_frozen K73.out
      go_split_ands
      rcases M3.out with ⟨o1, MY⟩ | ⟨o1, hge, MY⟩ | ⟨o1, hlt, MY⟩
      · go_wp2_with fail
        refine (SUB.out _).mono ?_
        rintro e W ⟨rfl, hb⟩
        have K25 := Aside0.mk (blk_below K23.out hb)
        have K35 := Aside0.mk (blk_below K33.out hb)
        have K75 := Aside0.mk (blk_below K73.out hb)
        have K95 := Aside0.mk (blk_below K93.out hb)
        have K105 := Aside0.mk (blk_below K103.out hb)
        have HB5 := Aside0.mk (below_step HB3.out hb)
        clear hb
        have c75 := cells2 K75
        have f75 := blk_frozen K75.out
        go_split_ands
        go_upto_block 1 with fail
        refine ratio_tail w _ A B (q * 2 + 1) ((S + b - B) % 340282366920938463463374607431768211456) (t - 1) g2 g3 g7 g9 g10 J _ _ _ _ _ _ _ _ _ _ _ _ _ _ _ _ _ _ _ _ _ _ _ _ _ _ _ _ _ _ _ _ _ _ _ _ _ _ _ _ _ _ _ _ _ _ _ _ _ _ _ _ _ _ _ _ _ _ _ _ _ _ _ _ _ _ _ _ _ _ _ _ _ _ _ _ _ _ _ _ _ _ _ _ _ _ _ _ _ _ _ _ _ _ HN HV ⟨by have := MY.out; omega⟩ ⟨far2 K25.out n2_7⟩ ⟨far2 K35.out n3_7⟩ ⟨put2 K75.out⟩ ⟨far2 K95.out n9_7⟩ ⟨far2 K105.out n10_7⟩ ⟨below2 HB5.out hg.out.2⟩ (by assumption) ?_
        intro j0 j1 y0 y1 y4 y5 y11 y12 y13 y14 y15 y16 y17 y18 y19 y20 y21 y22 y23 y24 y25 y26 y27 y28 y29 y30 y31 y32 y33 y34 y35 y36 y37 y38 y39 y40 y41 y42 y43 y44 y45 y46 y47 y48 y49 y50 y51 y52 y53 y54 y55 y56 y57 y58 y59 y60 y61 y62 y63 y64 y65 y66 y67 y68 y69 y70 y71 y72 y73 y74 y75 y76 y77 y78 y79 y80 y81 y82 y83 y84 y85 y86 y87 y88 y89 y90 y91 y92 y93 y94 y95
        exact HJ.out _ _ _ _ _ _ _ _ _ _ _ _ _ _ _ _ _ _ _ _ _ _ _ _ _ _ _ _ _ _ _ _ _ _ _ _ _ _ _ _ _ _ _ _ _ _ _ _ _ _ _ _ _ _ _ _ _ _ _ _ _ _ _ _ _ _ _ _ _ _ _ _ _ _ _ _ _ _ _ _ _ _ _ _ _ _ _ _ _ _ _ _ _ _ _ _ ⟨by have := MY.out; omega⟩ ⟨far2 K25.out n2_7⟩ ⟨far2 K35.out n3_7⟩ ⟨put2 K75.out⟩ ⟨far2 K95.out n9_7⟩ ⟨far2 K105.out n10_7⟩ ⟨below2 HB5.out hg.out.2⟩
      · have CMP := Aside0.mk (fun X => cmp_ge (u := S + b) (v := B) hge.out X)
        go_wp2_with fail
        refine (CMP.out _).mono ?_
        rintro e w4 ⟨⟨c, rfl, hc⟩, hb⟩
        have K24 := Aside0.mk (blk_below K23.out hb)
        have K34 := Aside0.mk (blk_below K33.out hb)
        have K74 := Aside0.mk (blk_below K73.out hb)
        have K94 := Aside0.mk (blk_below K93.out hb)
        have K104 := Aside0.mk (blk_below K103.out hb)
        have HB4 := Aside0.mk (below_step HB3.out hb)
        clear hb
        have c74 := cells2 K74
        have c34 := cells2 K34
        go_split_ands
        go_wp2_with fail
        refine (SUB.out _).mono ?_
        rintro e W ⟨rfl, hb⟩
        have K25 := Aside0.mk (blk_below K24.out hb)
        have K35 := Aside0.mk (blk_below K34.out hb)
        have K75 := Aside0.mk (blk_below K74.out hb)
        have K95 := Aside0.mk (blk_below K94.out hb)
        have K105 := Aside0.mk (blk_below K104.out hb)
        have HB5 := Aside0.mk (below_step HB4.out hb)
        clear hb
        have c75 := cells2 K75
        have f75 := blk_frozen K75.out
        go_split_ands
        go_upto_block 1 with fail
        refine ratio_tail w _ A B (q * 2 + 1) ((S + b - B) % 340282366920938463463374607431768211456) (t - 1) g2 g3 g7 g9 g10 J _ _ _ _ _ _ _ _ _ _ _ _ _ _ _ _ _ _ _ _ _ _ _ _ _ _ _ _ _ _ _ _ _ _ _ _ _ _ _ _ _ _ _ _ _ _ _ _ _ _ _ _ _ _ _ _ _ _ _ _ _ _ _ _ _ _ _ _ _ _ _ _ _ _ _ _ _ _ _ _ _ _ _ _ _ _ _ _ _ _ _ _ _ _ HN HV ⟨by have := MY.out; omega⟩ ⟨far2 K25.out n2_7⟩ ⟨far2 K35.out n3_7⟩ ⟨put2 K75.out⟩ ⟨far2 K95.out n9_7⟩ ⟨far2 K105.out n10_7⟩ ⟨below2 HB5.out hg.out.2⟩ (by assumption) ?_
        intro j0 j1 y0 y1 y4 y5 y11 y12 y13 y14 y15 y16 y17 y18 y19 y20 y21 y22 y23 y24 y25 y26 y27 y28 y29 y30 y31 y32 y33 y34 y35 y36 y37 y38 y39 y40 y41 y42 y43 y44 y45 y46 y47 y48 y49 y50 y51 y52 y53 y54 y55 y56 y57 y58 y59 y60 y61 y62 y63 y64 y65 y66 y67 y68 y69 y70 y71 y72 y73 y74 y75 y76 y77 y78 y79 y80 y81 y82 y83 y84 y85 y86 y87 y88 y89 y90 y91 y92 y93 y94 y95
        exact HJ.out _ _ _ _ _ _ _ _ _ _ _ _ _ _ _ _ _ _ _ _ _ _ _ _ _ _ _ _ _ _ _ _ _ _ _ _ _ _ _ _ _ _ _ _ _ _ _ _ _ _ _ _ _ _ _ _ _ _ _ _ _ _ _ _ _ _ _ _ _ _ _ _ _ _ _ _ _ _ _ _ _ _ _ _ _ _ _ _ _ _ _ _ _ _ _ _ ⟨by have := MY.out; omega⟩ ⟨far2 K25.out n2_7⟩ ⟨far2 K35.out n3_7⟩ ⟨put2 K75.out⟩ ⟨far2 K95.out n9_7⟩ ⟨far2 K105.out n10_7⟩ ⟨below2 HB5.out hg.out.2⟩
      · have CMP := Aside0.mk (fun X => cmp_lt (u := S + b) (v := B) hlt.out X)
        go_wp2_with fail
        refine (CMP.out _).mono ?_
        rintro e w4 ⟨⟨c, rfl, hc⟩, hb⟩
        have K24 := Aside0.mk (blk_below K23.out hb)
        have K34 := Aside0.mk (blk_below K33.out hb)
        have K74 := Aside0.mk (blk_below K73.out hb)
        have K94 := Aside0.mk (blk_below K93.out hb)
        have K104 := Aside0.mk (blk_below K103.out hb)
        have HB4 := Aside0.mk (below_step HB3.out hb)
        clear hb
        have c74 := cells2 K74
        have c34 := cells2 K34
        go_split_ands
        go_upto_block 1 with fail
        refine ratio_tail w _ A B (q * 2) (S + b) (t - 1) g2 g3 g7 g9 g10 J _ _ _ _ _ _ _ _ _ _ _ _ _ _ _ _ _ _ _ _ _ _ _ _ _ _ _ _ _ _ _ _ _ _ _ _ _ _ _ _ _ _ _ _ _ _ _ _ _ _ _ _ _ _ _ _ _ _ _ _ _ _ _ _ _ _ _ _ _ _ _ _ _ _ _ _ _ _ _ _ _ _ _ _ _ _ _ _ _ _ _ _ _ _ HN HV ⟨by have := MY.out; omega⟩ K24 K34 K74 K94 K104 HB4 (by assumption) ?_
        intro j0 j1 y0 y1 y4 y5 y11 y12 y13 y14 y15 y16 y17 y18 y19 y20 y21 y22 y23 y24 y25 y26 y27 y28 y29 y30 y31 y32 y33 y34 y35 y36 y37 y38 y39 y40 y41 y42 y43 y44 y45 y46 y47 y48 y49 y50 y51 y52 y53 y54 y55 y56 y57 y58 y59 y60 y61 y62 y63 y64 y65 y66 y67 y68 y69 y70 y71 y72 y73 y74 y75 y76 y77 y78 y79 y80 y81 y82 y83 y84 y85 y86 y87 y88 y89 y90 y91 y92 y93 y94 y95
        exact HJ.out _ _ _ _ _ _ _ _ _ _ _ _ _ _ _ _ _ _ _ _ _ _ _ _ _ _ _ _ _ _ _ _ _ _ _ _ _ _ _ _ _ _ _ _ _ _ _ _ _ _ _ _ _ _ _ _ _ _ _ _ _ _ _ _ _ _ _ _ _ _ _ _ _ _ _ _ _ _ _ _ _ _ _ _ _ _ _ _ _ _ _ _ _ _ _ _ ⟨by have := MY.out; omega⟩ K24 K34 K74 K94 K104 HB4
open Go.Proofs.Th
attribute [local go_sem high] eqA24
def RJ (w : World) (A B : Int) (g2 g3 g7 g9 g10 : Nat) (a : Act) (X : World) : Prop := ∃ (f : Nat → Value) (q R t : Int) (z0 z1 z2 z3 : Value), a = ⟨#[f 0, f 1, .pointer (some ⟨g2, 0, none⟩), .pointer (some ⟨g3, 0, none⟩), f 4, f 5, .int .u64 q, .pointer (some ⟨g7, 0, none⟩), .int .i64 t, .pointer (some ⟨g9, 0, none⟩), .pointer (some ⟨g10, 0, none⟩), f 11, f 12, f 13, f 14, f 15, f 16, f 17, f 18, f 19, f 20, f 21, f 22, f 23, f 24, f 25, f 26, f 27, f 28, f 29, f 30, f 31, f 32, f 33, f 34, f 35, f 36, f 37, f 38, f 39, f 40, f 41, f 42, f 43, f 44, f 45, f 46, f 47, f 48, f 49, f 50, f 51, f 52, f 53, f 54, f 55, f 56, f 57, f 58, f 59, f 60, f 61, f 62, f 63, f 64, f 65, f 66, f 67, f 68, f 69, f 70, f 71, f 72, f 73, f 74, f 75, f 76, f 77, f 78, f 79, f 80, f 81, f 82, f 83, f 84, f 85, f 86, f 87, f 88, f 89, f 90, f 91, f 92, f 93, f 94, f 95], []⟩ ∧ Aside0 (0 < t ∧ t ≤ 148 ∧ 0 ≤ q ∧ q < 4611686018427387904 ∧ A * 1048576 / 2 ^ t.toNat = q * B + R ∧ 0 ≤ R ∧ R < B) ∧ Aside0 (X.heap[g2]? = some (.cells #[.int .u64 (hi64 A), .int .u64 (lo64 A)] 24 (0, 0))) ∧ Aside0 (X.heap[g3]? = some (.cells #[.int .u64 (hi64 B), .int .u64 (lo64 B)] 24 (0, 0))) ∧ Aside0 (X.heap[g7]? = some (.cells #[.int .u64 (hi64 R), .int .u64 (lo64 R)] 24 (0, 0))) ∧ Aside0 (X.heap[g9]? = some (.cells #[z0, z1] 24 (0, 0))) ∧ Aside0 (X.heap[g10]? = some (.cells #[z2, z3] 24 (0, 0))) ∧ Aside0 (Below w.heap.size w X)
def muR (a : Act) (_ : World) : Nat := (intOf (a.tmps.getD 8 undef)).toNat
set_option maxHeartbeats 4000000 in
set_option maxRecDepth 100000 in
theorem RJ_mk (w X : World) (A B q R t : Int) (g2 g3 g7 g9 g10 : Nat) (y0 y1 y4 y5 y11 y12 y13 y14 y15 y16 y17 y18 y19 y20 y21 y22 y23 y24 y25 y26 y27 y28 y29 y30 y31 y32 y33 y34 y35 y36 y37 y38 y39 y40 y41 y42 y43 y44 y45 y46 y47 y48 y49 y50 y51 y52 y53 y54 y55 y56 y57 y58 y59 y60 y61 y62 y63 y64 y65 y66 y67 y68 y69 y70 y71 y72 y73 y74 y75 y76 y77 y78 y79 y80 y81 y82 y83 y84 y85 y86 y87 y88 y89 y90 y91 y92 y93 y94 y95 z0 z1 z2 z3 : Value) (h : Aside0 (0 < t ∧ t ≤ 148 ∧ 0 ≤ q ∧ q < 4611686018427387904 ∧ A * 1048576 / 2 ^ t.toNat = q * B + R ∧ 0 ≤ R ∧ R < B)) (h1 : Aside0 (X.heap[g2]? = some (.cells #[.int .u64 (hi64 A), .int .u64 (lo64 A)] 24 (0, 0))) ∧ Aside0 (X.heap[g3]? = some (.cells #[.int .u64 (hi64 B), .int .u64 (lo64 B)] 24 (0, 0))) ∧ Aside0 (X.heap[g7]? = some (.cells #[.int .u64 (hi64 R), .int .u64 (lo64 R)] 24 (0, 0))) ∧ Aside0 (X.heap[g9]? = some (.cells #[z0, z1] 24 (0, 0))) ∧ Aside0 (X.heap[g10]? = some (.cells #[z2, z3] 24 (0, 0))) ∧ Aside0 (Below w.heap.size w X)) : RJ w A B g2 g3 g7 g9 g10 ⟨#[y0, y1, .pointer (some ⟨g2, 0, none⟩), .pointer (some ⟨g3, 0, none⟩), y4, y5, .int .u64 q, .pointer (some ⟨g7, 0, none⟩), .int .i64 t, .pointer (some ⟨g9, 0, none⟩), .pointer (some ⟨g10, 0, none⟩), y11, y12, y13, y14, y15, y16, y17, y18, y19, y20, y21, y22, y23, y24, y25, y26, y27, y28, y29, y30, y31, y32, y33, y34, y35, y36, y37, y38, y39, y40, y41, y42, y43, y44, y45, y46, y47, y48, y49, y50, y51, y52, y53, y54, y55, y56, y57, y58, y59, y60, y61, y62, y63, y64, y65, y66, y67, y68, y69, y70, y71, y72, y73, y74, y75, y76, y77, y78, y79, y80, y81, y82, y83, y84, y85, y86, y87, y88, y89, y90, y91, y92, y93, y94, y95], []⟩ X :=
  ⟨fun k => (#[y0, y1, .pointer (some ⟨g2, 0, none⟩), .pointer (some ⟨g3, 0, none⟩), y4, y5, .int .u64 q, .pointer (some ⟨g7, 0, none⟩), .int .i64 t, .pointer (some ⟨g9, 0, none⟩), .pointer (some ⟨g10, 0, none⟩), y11, y12, y13, y14, y15, y16, y17, y18, y19, y20, y21, y22, y23, y24, y25, y26, y27, y28, y29, y30, y31, y32, y33, y34, y35, y36, y37, y38, y39, y40, y41, y42, y43, y44, y45, y46, y47, y48, y49, y50, y51, y52, y53, y54, y55, y56, y57, y58, y59, y60, y61, y62, y63, y64, y65, y66, y67, y68, y69, y70, y71, y72, y73, y74, y75, y76, y77, y78, y79, y80, y81, y82, y83, y84, y85, y86, y87, y88, y89, y90, y91, y92, y93, y94, y95] : Array Value).getD k undef, q, R, t, z0, z1, z2, z3, rfl, h, h1⟩
set_option maxHeartbeats 4000000 in
set_option maxRecDepth 100000 in
theorem ratio_a0 (B : Int) (w : World) :
    Calls Try.prog 10 #[.agg #[.int .u64 0, .int .u64 0], .agg #[.int .u64 (hi64 B), .int .u64 (lo64 B)]] w fun e w' => e = .returned (.int .i64 0) ∧ Below w.heap.size w w' := by
  go_enter Try.func10, Try.ntmps10
  go_wp2
  go_step3
  go_wp2_with fail
  rw [Exit.noGoto_ret]
  go_ret
  exact ⟨rfl, by repeat (with_reducible first | exact Below.refl _ _ | apply below_alloc | apply pw_below_drewN | apply below_drew1)⟩
set_option maxHeartbeats 4000000 in
set_option maxRecDepth 100000 in
theorem ratio_b0 (A : Int) (h : (hi64 A == 0 && lo64 A == 0) = false) (w : World) :
    Calls Try.prog 10 #[.agg #[.int .u64 (hi64 A), .int .u64 (lo64 A)], .agg #[.int .u64 0, .int .u64 0]] w fun e w' => e = .returned (.int .i64 4611686018427387904) ∧ Below w.heap.size w w' := by
  go_enter Try.func10, Try.ntmps10
  go_wp2
  go_step3
  go_wp2_with fail
  rw [Exit.noGoto_ret]
  go_ret
  exact ⟨rfl, by repeat (with_reducible first | exact Below.refl _ _ | apply below_alloc | apply pw_below_drewN | apply below_drew1)⟩
theorem start4 (w : World) (a b c d : Array Value) : ((((((w.alloc (.cells a 24)).alloc (.cells b 24)).alloc (.cells c 24)).alloc (.cells d 24)).drew).heap[w.heap.size]? = some (.cells a 24 (0, 0))) ∧ ((((((w.alloc (.cells a 24)).alloc (.cells b 24)).alloc (.cells c 24)).alloc (.cells d 24)).drew).heap[w.heap.size + 1]? = some (.cells b 24 (0, 0))) ∧ ((((((w.alloc (.cells a 24)).alloc (.cells b 24)).alloc (.cells c 24)).alloc (.cells d 24)).drew).heap[w.heap.size + 1 + 1 + 1]? = some (.cells d 24 (0, 0))) ∧ Below w.heap.size w (((((w.alloc (.cells a 24)).alloc (.cells b 24)).alloc (.cells c 24)).alloc (.cells d 24)).drew) ∧ (((((w.alloc (.cells a 24)).alloc (.cells b 24)).alloc (.cells c 24)).alloc (.cells d 24)).drew).heap.size = w.heap.size + 1 + 1 + 1 + 1 := by
  refine ⟨blk_drew (blk_alloc (blk_alloc (blk_alloc (blk_new w _) _) _) _), blk_drew (blk_alloc (blk_alloc ?_ _) _), blk_drew ?_, below_drew1 (below_alloc (below_alloc (below_alloc (below_alloc (Below.refl _ _) _) _) _) _), by simp⟩
  · have := blk_new (w.alloc (.cells a 24)) (.cells b 24)
    simpa using this
  · have := blk_new (((w.alloc (.cells a 24)).alloc (.cells b 24)).alloc (.cells c 24)) (.cells d 24)
    simpa using this
set_option maxHeartbeats 4000000 in
set_option maxRecDepth 100000 in
theorem ratio_ab (A B : Int) (hA : 0 < A) (hA1 : A < 340282366920938463463374607431768211456) (hB : 0 < B) (hB1 : B < 340282366920938463463374607431768211456) (h : (hi64 A == 0 && lo64 A == 0) = false) (h2 : (hi64 B == 0 && lo64 B == 0) = false) (w : World) :
    Calls Try.prog 10 #[.agg #[.int .u64 (hi64 A), .int .u64 (lo64 A)], .agg #[.int .u64 (hi64 B), .int .u64 (lo64 B)]] w fun e w' => e = .returned (.int .i64 (ratioI A B)) ∧ Below w.heap.size w w' := by
  have HV : Aside0 (0 < A ∧ A < 340282366920938463463374607431768211456 ∧ 0 < B ∧ B < 340282366920938463463374607431768211456) := ⟨⟨hA, hA1, hB, hB1⟩⟩
  go_enter Try.func10, Try.ntmps10
  go_wp2
  obtain ⟨g9, G9⟩ : ∃ g9 : Nat, Aside0 (g9 = g9) := ⟨0, ⟨rfl⟩⟩
  refine wp_scope_jumps 0 (fun a X => ∃ g9 g10 : Nat, Aside0 (w.heap.size ≤ w.heap.size ∧ w.heap.size < w.heap.size + 1 ∧ w.heap.size + 1 < w.heap.size + 1 + 1 + 1 ∧ w.heap.size + 1 + 1 + 1 < g9 ∧ g9 < g10) ∧ RJ w A B w.heap.size (w.heap.size + 1) (w.heap.size + 1 + 1 + 1) g9 g10 a X) muR rfl ?_ ?_
  · go_wp2_with fail
    go_region
    go_wp2_with fail
    obtain ⟨s1, s2, s3, s4, s5⟩ := start4 w #[.int .u64 (hi64 A), .int .u64 (lo64 A)] #[.int .u64 (hi64 B), .int .u64 (lo64 B)] #[.int .u64 0, .int .u64 0] #[.int .u64 0, .int .u64 0]
    have S := Aside0.mk (And.intro s1 (And.intro s2 (And.intro s3 (And.intro s4 s5))))
    clear s1 s2 s3 s4 s5
    refine (len_c (by omega) hA1 _).mono ?_
    rintro e w5 ⟨rfl, hb⟩
    obtain ⟨s1, s2, s3, s4, s5⟩ := S.out
    have K2 := Aside0.mk (blk_below s1 hb)
    have K3 := Aside0.mk (blk_below s2 hb)
    have K7 := Aside0.mk (blk_below s3 hb)
    have HB := Aside0.mk (below_step s4 hb)
    have HZ : Aside0 (w.heap.size + 1 + 1 + 1 < w5.heap.size) := ⟨by have := hb.size; rw [s5] at this; omega⟩
    clear hb s1 s2 s3 s4 s5 S
    have hl : (blen A : Int) ≤ 128 := by have := blen_le (v := A) (b := 128) (by omega) hA1 hA1; omega
    go_wp2_with fail
    go_step3
    rename_i hK
    refine hK _ _ ?_
    have k10 : (((w5.alloc (.cells #[.int .u64 0, .int .u64 0] 24)).alloc (.cells #[.int .u64 0, .int .u64 0] 24)).heap[w5.heap.size + 1]? = some (.cells #[.int .u64 0, .int .u64 0] 24 (0, 0))) := by
      have := blk_new (w5.alloc (.cells #[.int .u64 0, .int .u64 0] 24)) (.cells #[.int .u64 0, .int .u64 0] 24)
      simpa using this
    have hz : A * 1048576 / 2 ^ ((blen A : Int) + 20).toNat = 0 := by
      have h3 := blen_lt (v := A) (by omega) hA1
      rw [show ((blen A : Int) + 20).toNat = blen A + 20 by omega, Int.pow_add, show (2 : Int) ^ 20 = 1048576 from rfl]
      exact Int.ediv_eq_zero_of_lt (by omega) (by omega)
    refine ratio_step w _ A B 0 0 (blen A + 20) w.heap.size (w.heap.size + 1) (w.heap.size + 1 + 1 + 1) w5.heap.size (w5.heap.size + 1) _ _ _ _ _ _ _ _ _ _ _ _ _ _ _ _ _ _ _ _ _ _ _ _ _ _ _ _ _ _ _ _ _ _ _ _ _ _ _ _ _ _ _ _ _ _ _ _ _ _ _ _ _ _ _ _ _ _ _ _ _ _ _ _ _ _ _ _ _ _ _ _ _ _ _ _ _ _ _ _ _ _ _ _ _ _ _ _ _ _ _ _ _ _ ⟨by have := HZ.out; omega⟩ HV ⟨by rw [hz]; omega⟩ ⟨blk_alloc (blk_alloc K2.out _) _⟩ ⟨blk_alloc (blk_alloc K3.out _) _⟩ ⟨blk_alloc (blk_alloc K7.out _) _⟩ ⟨blk_alloc (blk_new w5 _) _⟩ ⟨k10⟩ ⟨below_alloc (below_alloc HB.out _) _⟩ ?_
    intro q1 R1 X z0 z1 z2 z3 y0 y1 y4 y5 y11 y12 y13 y14 y15 y16 y17 y18 y19 y20 y21 y22 y23 y24 y25 y26 y27 y28 y29 y30 y31 y32 y33 y34 y35 y36 y37 y38 y39 y40 y41 y42 y43 y44 y45 y46 y47 y48 y49 y50 y51 y52 y53 y54 y55 y56 y57 y58 y59 y60 y61 y62 y63 y64 y65 y66 y67 y68 y69 y70 y71 y72 y73 y74 y75 y76 y77 y78 y79 y80 y81 y82 y83 y84 y85 y86 y87 y88 y89 y90 y91 y92 y93 y94 y95 HT' k2 k3 k7 k9 k10' hB'
    exact ⟨_, _, ⟨by have := HZ.out; omega⟩, RJ_mk w X A B q1 R1 _ _ _ _ _ _ _ _ _ _ _ _ _ _ _ _ _ _ _ _ _ _ _ _ _ _ _ _ _ _ _ _ _ _ _ _ _ _ _ _ _ _ _ _ _ _ _ _ _ _ _ _ _ _ _ _ _ _ _ _ _ _ _ _ _ _ _ _ _ _ _ _ _ _ _ _ _ _ _ _ _ _ _ _ _ _ _ _ _ _ _ _ _ _ _ z0 z1 z2 z3 HT' ⟨k2, k3, k7, k9, k10', hB'⟩⟩
  · rintro a X ⟨g9, g10, HN, f, q, R, t, z0, z1, z2, z3, rfl, HT, K2, K3, K7, K9, K10, HB⟩
    refine wp_seq (wp_skip ?_)
    refine ratio_step w X A B q R t _ _ _ g9 g10 _ (f 0) (f 1) (f 4) (f 5) (f 11) (f 12) (f 13) (f 14) (f 15) (f 16) (f 17) (f 18) (f 19) (f 20) (f 21) (f 22) (f 23) (f 24) (f 25) (f 26) (f 27) (f 28) (f 29) (f 30) (f 31) (f 32) (f 33) (f 34) (f 35) (f 36) (f 37) (f 38) (f 39) (f 40) (f 41) (f 42) (f 43) (f 44) (f 45) (f 46) (f 47) (f 48) (f 49) (f 50) (f 51) (f 52) (f 53) (f 54) (f 55) (f 56) (f 57) (f 58) (f 59) (f 60) (f 61) (f 62) (f 63) (f 64) (f 65) (f 66) (f 67) (f 68) (f 69) (f 70) (f 71) (f 72) (f 73) (f 74) (f 75) (f 76) (f 77) (f 78) (f 79) (f 80) (f 81) (f 82) (f 83) (f 84) (f 85) (f 86) (f 87) (f 88) (f 89) (f 90) (f 91) (f 92) (f 93) (f 94) (f 95) z0 z1 z2 z3 HN HV HT K2 K3 K7 K9 K10 HB ?_
    intro q1 R1 X' z0' z1' z2' z3' y0 y1 y4 y5 y11 y12 y13 y14 y15 y16 y17 y18 y19 y20 y21 y22 y23 y24 y25 y26 y27 y28 y29 y30 y31 y32 y33 y34 y35 y36 y37 y38 y39 y40 y41 y42 y43 y44 y45 y46 y47 y48 y49 y50 y51 y52 y53 y54 y55 y56 y57 y58 y59 y60 y61 y62 y63 y64 y65 y66 y67 y68 y69 y70 y71 y72 y73 y74 y75 y76 y77 y78 y79 y80 y81 y82 y83 y84 y85 y86 y87 y88 y89 y90 y91 y92 y93 y94 y95 HT' k2 k3 k7 k9 k10' hB'
    refine ⟨⟨_, _, HN, RJ_mk w X' A B q1 R1 _ _ _ _ _ _ _ _ _ _ _ _ _ _ _ _ _ _ _ _ _ _ _ _ _ _ _ _ _ _ _ _ _ _ _ _ _ _ _ _ _ _ _ _ _ _ _ _ _ _ _ _ _ _ _ _ _ _ _ _ _ _ _ _ _ _ _ _ _ _ _ _ _ _ _ _ _ _ _ _ _ _ _ _ _ _ _ _ _ _ _ _ _ _ _ z0' z1' z2' z3' HT' ⟨k2, k3, k7, k9, k10', hB'⟩⟩, ?_⟩
    show (t - 1).toNat < t.toNat
    have := HT'.out
    omega
theorem wz (v : Int) : (hi64 v == 0 && lo64 v == 0) = (v == 0) := by
  rw [Bool.eq_iff_iff, Bool.and_eq_true, beq_iff_eq, beq_iff_eq, beq_iff_eq]
  unfold hi64 lo64; omega
theorem ratio_any (A B : Int) (hA : 0 ≤ A) (hA1 : A < 340282366920938463463374607431768211456) (hB : 0 ≤ B) (hB1 : B < 340282366920938463463374607431768211456) (w : World) :
    Calls Try.prog 10 #[.agg #[.int .u64 (hi64 A), .int .u64 (lo64 A)], .agg #[.int .u64 (hi64 B), .int .u64 (lo64 B)]] w fun e w' => e = .returned (.int .i64 (ratioI A B)) ∧ Below w.heap.size w w' := by
  by_cases a : A = 0
  · subst a
    have e : ratioI 0 B = 0 := rfl
    rw [e]
    exact ratio_a0 B w
  have ha : (hi64 A == 0 && lo64 A == 0) = false := by rw [wz, beq_eq_false_iff_ne]; exact a
  by_cases b : B = 0
  · subst b
    have e : ratioI A 0 = 4611686018427387904 := by unfold ratioI; rw [if_neg a, if_pos rfl]
    rw [e]
    exact ratio_b0 A ha w
  have hb : (hi64 B == 0 && lo64 B == 0) = false := by rw [wz, beq_eq_false_iff_ne]; exact b
  exact ratio_ab A B (by omega) hA1 (by omega) hB1 ha hb w
open Go.Proofs.Th
theorem ratio_nz {A B : Int} (hA : 0 ≤ A) (hB : 0 < B) : ratioI A B = if 4611686018427387904 ≤ A * 1048576 / B then 4611686018427387904 else if B ≤ 2 * (A * 1048576 % B) then A * 1048576 / B + 1 else A * 1048576 / B := by
  unfold ratioI
  by_cases a : A = 0
  · subst a
    rw [if_pos rfl, Int.zero_mul, Int.zero_ediv, Int.zero_emod, if_neg (by decide), if_neg (by omega)]
  · rw [if_neg a, if_neg (by omega)]
theorem ratio_rng {A B : Int} (hA : 0 ≤ A) (hB : 0 ≤ B) : 0 ≤ ratioI A B ∧ ratioI A B ≤ 4611686018427387904 := by
  by_cases b : B = 0
  · unfold ratioI; subst b; split <;> simp
  have hq : 0 ≤ A * 1048576 / B := Int.ediv_nonneg (by omega) hB
  rw [ratio_nz hA (by omega)]
  split
  · omega
  · split <;> omega
theorem ratio_add {A B c : Int} (hA : 0 ≤ A) (hB : 0 < B) (hc : 0 ≤ c) (h : A * 1048576 / B + c * 1048576 < 4611686018427387904) : ratioI (A + c * B) B = ratioI A B + c * 1048576 := by
  have e : (A + c * B) * 1048576 = A * 1048576 + B * (c * 1048576) := by rw [Int.add_mul, Int.mul_comm c B, Int.mul_assoc]
  have hcb : 0 ≤ c * B := Int.mul_nonneg hc (by omega)
  have hq : 0 ≤ A * 1048576 / B := Int.ediv_nonneg (by omega) (by omega)
  rw [ratio_nz (by omega) hB, ratio_nz hA hB, e, Int.add_mul_ediv_left _ _ (by omega), Int.add_mul_emod_self_left]
  generalize A * 1048576 / B = Q at *
  generalize A * 1048576 % B = R
  have n1 : ¬ 4611686018427387904 ≤ Q + c * 1048576 := by omega
  have n2 : ¬ 4611686018427387904 ≤ Q := by omega
  rw [if_neg n1, if_neg n2]
  split <;> omega
theorem ratio_mul {B c : Int} (hB : 0 < B) (hc : 0 ≤ c) (h : c * 1048576 < 4611686018427387904) : ratioI (c * B) B = c * 1048576 := by
  have := ratio_add (A := 0) (by omega) hB hc (by rw [Int.zero_mul, Int.zero_ediv]; omega)
  rw [Int.zero_add] at this
  rw [this]
  show 0 + c * 1048576 = _
  omega
theorem ratio_ge {A B c : Int} (hB : 0 < B) (hc : 0 ≤ c) (h : c * B ≤ A) (ht : c * 1048576 ≤ 4611686018427387904) : c * 1048576 ≤ ratioI A B := by
  have hcb : 0 ≤ c * B := Int.mul_nonneg hc (by omega)
  have h1 : c * 1048576 ≤ A * 1048576 / B := (Int.le_ediv_iff_mul_le hB).2 (by
    have : c * 1048576 * B = c * B * 1048576 := by rw [Int.mul_assoc, Int.mul_comm 1048576 B, ← Int.mul_assoc]
    omega)
  rw [ratio_nz (by omega) hB]
  split
  · exact ht
  · split <;> omega
theorem ratio_le {A B c : Int} (hA : 0 ≤ A) (hB : 0 < B) (h : A ≤ c * B) (ht : c * 1048576 ≤ 4611686018427387904) : ratioI A B ≤ c * 1048576 := by
  have e : c * 1048576 * B = c * B * 1048576 := by rw [Int.mul_assoc, Int.mul_comm 1048576 B, ← Int.mul_assoc]
  have h1 : A * 1048576 / B ≤ c * 1048576 := by
    have := Int.ediv_le_ediv hB (show A * 1048576 ≤ c * 1048576 * B by omega)
    rwa [Int.mul_ediv_cancel _ (by omega)] at this
  have hm := Int.emod_nonneg (A * 1048576) (show B ≠ 0 by omega)
  have hd := Int.mul_ediv_add_emod (A * 1048576) B
  rw [ratio_nz hA hB]
  split
  · omega
  · split
    · by_cases k : A * 1048576 / B = c * 1048576
      · rw [k, Int.mul_comm B] at hd
        omega
      · omega
    · exact h1
/-! sums -/
def sg {α : Type} (f : α → Int) : List α → Int
  | [] => 0
  | x :: l => f x + sg f l
variable {α β : Type}
theorem sg_congr {f g : α → Int} {l : List α} (h : ∀ x ∈ l, f x = g x) : sg f l = sg g l := by
  induction l with
  | nil => rfl
  | cons x l ih => rw [sg, sg, h x (by simp), ih (fun y hy => h y (by simp [hy]))]
theorem sg_add (f g : α → Int) (l : List α) : sg (fun x => f x + g x) l = sg f l + sg g l := by
  induction l with
  | nil => rfl
  | cons x l ih => simp only [sg, ih]; omega
theorem sg_const (c : Int) (l : List α) : sg (fun _ => c) l = l.length * c := by
  induction l with
  | nil => simp [sg]
  | cons x l ih => simp only [sg, ih, List.length_cons, Int.natCast_add, Int.add_mul]; omega
theorem sg_mul (c : Int) (f : α → Int) (l : List α) : sg (fun x => c * f x) l = c * sg f l := by
  induction l with
  | nil => simp [sg]
  | cons x l ih => simp only [sg, ih, Int.mul_add]
theorem sg_map (f : β → Int) (h : α → β) (l : List α) : sg f (l.map h) = sg (fun x => f (h x)) l := by
  induction l with
  | nil => rfl
  | cons x l ih => simp only [List.map_cons, sg, ih]
theorem sg_nn {f : α → Int} {l : List α} (h : ∀ x ∈ l, 0 ≤ f x) : 0 ≤ sg f l := by
  induction l with
  | nil => simp [sg]
  | cons x l ih =>
    have := h x (by simp)
    have := ih (fun y hy => h y (by simp [hy]))
    simp only [sg]; omega
theorem sg_le {f g : α → Int} {l : List α} (h : ∀ x ∈ l, f x ≤ g x) : sg f l ≤ sg g l := by
  induction l with
  | nil => simp [sg]
  | cons x l ih =>
    have := h x (by simp)
    have := ih (fun y hy => h y (by simp [hy]))
    simp only [sg]; omega
/-- n times the sum of products, less the product of the sums. -/
def cov (f g : α → Int) (l : List α) : Int := l.length * sg (fun x => f x * g x) l - sg f l * sg g l
theorem cov_shift (f g : α → Int) (a b : Int) (l : List α) : cov f (fun x => a + b * g x) l = b * cov f g l := by
  have e1 : sg (fun x => f x * (a + b * g x)) l = a * sg f l + b * sg (fun x => f x * g x) l := by
    rw [← sg_mul, ← sg_mul, ← sg_add]
    exact sg_congr fun x _ => by rw [Int.mul_add, Int.mul_comm (f x) a, ← Int.mul_assoc, Int.mul_comm (f x) b, Int.mul_assoc]
  have e2 : sg (fun x => a + b * g x) l = l.length * a + b * sg g l := by
    rw [sg_add (fun _ => a), sg_const, sg_mul]
  unfold cov
  rw [e1, e2]
  generalize sg f l = F
  generalize sg g l = G
  generalize sg (fun x => f x * g x) l = H
  generalize (l.length : Int) = n
  have h1 : n * (a * F + b * H) = n * a * F + b * (n * H) := by rw [Int.mul_add, ← Int.mul_assoc, ← Int.mul_assoc n, Int.mul_comm n b, Int.mul_assoc b]
  have h2 : F * (n * a + b * G) = n * a * F + b * (F * G) := by rw [Int.mul_add, Int.mul_comm F (n * a), ← Int.mul_assoc F, Int.mul_comm F b, Int.mul_assoc b]
  rw [h1, h2, Int.mul_sub]
  omega
theorem cov_comm (f g : α → Int) (l : List α) : cov f g l = cov g f l := by
  unfold cov
  rw [Int.mul_comm (sg f l), sg_congr (fun x _ => Int.mul_comm (f x) (g x))]
theorem cov_const (f : α → Int) (c : Int) (l : List α) : cov f (fun _ => c) l = 0 := by
  have := cov_shift f (fun _ => 0) c 0 l
  simp only [Int.zero_mul, Int.add_zero] at this
  exact this
theorem cov_map (f g : β → Int) (h : α → β) (l : List α) : cov f g (l.map h) = cov (fun x => f (h x)) (fun x => g (h x)) l := by
  unfold cov
  rw [sg_map, sg_map, sg_map, List.length_map]
theorem cov_cons (f : α → Int) (x : α) (l : List α) : cov f f (x :: l) = cov f f l + sg (fun y => (f x - f y) * (f x - f y)) l := by
  have e : sg (fun y => (f x - f y) * (f x - f y)) l = l.length * (f x * f x) + (-2 * f x) * sg f l + sg (fun y => f y * f y) l := by
    rw [← sg_const, ← sg_mul, ← sg_add, ← sg_add]
    exact sg_congr fun y _ => by
      rw [Int.sub_mul, Int.mul_sub, Int.mul_sub, Int.mul_assoc, Int.mul_comm (f y) (f x)]
      omega
  unfold cov
  rw [e]
  simp only [sg, List.length_cons]
  generalize sg (fun y => f y * f y) l = H
  generalize sg f l = F
  rw [show ((l.length + 1 : Nat) : Int) = (l.length : Int) + 1 from rfl]
  generalize (l.length : Int) = n
  generalize f x = X
  have h1 : (n + 1) * (X * X + H) = n * (X * X) + n * H + X * X + H := by rw [Int.add_mul, Int.mul_add]; omega
  have h2 : (X + F) * (X + F) = X * X + 2 * (X * F) + F * F := by rw [Int.add_mul, Int.mul_add, Int.mul_add, Int.mul_comm F X]; omega
  have h3 : -2 * X * F = -2 * (X * F) := by rw [Int.mul_assoc]
  rw [h1, h2, h3]
  omega
theorem cov_nn (f : α → Int) (l : List α) : 0 ≤ cov f f l := by
  induction l with
  | nil => simp [cov, sg]
  | cons x l ih =>
    have h : 0 ≤ sg (fun y => (f x - f y) * (f x - f y)) l := sg_nn fun y _ => by
      rcases Int.le_total 0 (f x - f y) with h | h
      · exact Int.mul_nonneg h h
      · exact Int.mul_nonneg_of_nonpos_of_nonpos h h
    rw [cov_cons]; omega
theorem sg_pos {f : α → Int} {l : List α} (h : ∀ x ∈ l, 0 ≤ f x) {y : α} (hy : y ∈ l) (hp : 0 < f y) : 0 < sg f l := by
  induction l with
  | nil => cases hy
  | cons x l ih =>
    have h1 := h x (by simp)
    have h2 := sg_nn (l := l) (fun z hz => h z (by simp [hz]))
    simp only [sg]
    rcases List.mem_cons.1 hy with e | e
    · subst e; omega
    · have := ih (fun z hz => h z (by simp [hz])) e; omega
theorem sq_nn (x : Int) : 0 ≤ x * x := by
  rcases Int.le_total 0 x with h | h
  · exact Int.mul_nonneg h h
  · exact Int.mul_nonneg_of_nonpos_of_nonpos h h
theorem sq_pos {x : Int} (h : x ≠ 0) : 0 < x * x := by
  rcases Int.lt_or_gt_of_ne h with h | h
  · exact Int.mul_pos_of_neg_of_neg h h
  · exact Int.mul_pos h h
theorem cov_pos (f : α → Int) (x : α) (l : List α) (h : ∃ y ∈ l, f y ≠ f x) : 0 < cov f f (x :: l) := by
  obtain ⟨y, hy, hn⟩ := h
  have h1 := cov_nn f l
  have h2 := sg_pos (f := fun y => (f x - f y) * (f x - f y)) (l := l) (fun z _ => sq_nn _) hy (sq_pos (by omega))
  rw [cov_cons]; omega
theorem cov_same (f : α → Int) (l : List α) (c : Int) (h : ∀ x ∈ l, f x = c) : cov f f l = 0 := by
  have e : cov f f l = cov (fun _ => c) (fun _ => c) l := by
    unfold cov
    rw [sg_congr (f := f) (g := fun _ => c) h, sg_congr (f := fun x => f x * f x) (g := fun _ => c * c) (fun x hx => by rw [h x hx])]
  rw [e]; exact cov_const _ c l
/-- The spread: no more than n times as far as the least and the greatest are apart, squared. -/
theorem cov_far (f : α → Int) (l : List α) (m w : Int) (h : ∀ x ∈ l, m ≤ f x ∧ f x ≤ m + w) : cov f f l ≤ l.length * w * (l.length * w) := by
  have e : cov f f l = cov (fun x => -m + 1 * f x) (fun x => -m + 1 * f x) l := by
    rw [cov_shift (fun x => -m + 1 * f x) f, cov_comm (fun x => -m + 1 * f x) f, cov_shift f f]; omega
  rw [e]
  have h1 : sg (fun x => (-m + 1 * f x) * (-m + 1 * f x)) l ≤ l.length * (w * w) := by
    rw [← sg_const]
    refine sg_le fun x hx => ?_
    have := h x hx
    exact Int.mul_le_mul (by omega) (by omega) (by omega) (by omega)
  have h2 := sq_nn (sg (fun x => -m + 1 * f x) l)
  have h3 := Int.mul_le_mul_of_nonneg_left h1 (Int.natCast_nonneg l.length)
  have h4 : (l.length : Int) * w * (l.length * w) = l.length * (l.length * (w * w)) := by
    rw [Int.mul_assoc, ← Int.mul_assoc w, Int.mul_comm w, Int.mul_assoc (l.length : Int) w w]
  have h5 : cov (fun x => -m + 1 * f x) (fun x => -m + 1 * f x) l = l.length * sg (fun x => (-m + 1 * f x) * (-m + 1 * f x)) l - sg (fun x => -m + 1 * f x) l * sg (fun x => -m + 1 * f x) l := rfl
  rw [h5]
  omega

end Go.Proofs.Ytcmbogdilplmlaa.P
