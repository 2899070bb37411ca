import Derived.Test.YtcmbogdilplmlaaS4
namespace Go.Proofs.Ytcmbogdilplmlaa.P
open Go.RowKit Go.Proofs.YtcmbogdilplmlaaW.PrintWords Go.Proofs.YtcmbogdilplmlaaW.PrintLast Go.Proofs.YtcmbogdilplmlaaW.PrintMore Go.Proofs.YtcmbogdilplmlaaX
attribute [local go_sem] max2_int min2_int max_two min_two max_three min_three max_four min_four
set_option linter.unusedVariables false
set_option linter.unusedSimpArgs false
set_option maxHeartbeats 8000000 in
set_option maxRecDepth 100000 in
theorem told_ok (a0 a1 a2 a3 a4 a5 a6 a7 a8 a9 a10 a11 a12 a13 a14 : Int) (w : World) (h1 : rightB a0 a1 a2 a3 a4 a5 a6 a7 a8 a9 a10 a11 a12 a13 a14 = true) :
    Calls Try.prog 50 #[.agg #[.int .i64 a0, .int .i64 a1, .int .i64 a2, .int .i64 a3, .int .i64 a4, .int .i64 a5, .int .i64 a6, .int .i64 a7, .int .i64 a8, .int .i64 a9, .int .i64 a10, .int .i64 a11, .int .i64 a12, .int .i64 a13, .int .i64 a14]] w fun e w' => e = .returned (.tuple #[.agg #[.int .i64 a0, .int .i64 a1, .int .i64 a2, .int .i64 a3, .int .i64 a4, .int .i64 a5, .int .i64 a6, .int .i64 a7, .int .i64 a8, .int .i64 a9, .int .i64 a10, .int .i64 a11, .int .i64 a12, .int .i64 a13, .int .i64 a14], .int .i64 0]) ∧ Below w.heap.size w w' := by
  have H1 := Aside0.mk h1
  clear h1
  go_enter Try.func50, Try.ntmps50
  go_wp2_with fail
  obtain ⟨w2, g, e1, e2, Kg, Kh, HB, HG⟩ := made2 a0 a1 a2 a3 a4 a5 a6 a7 a8 a9 a10 a11 a12 a13 a14 w
  simp only [e1, e2]
  clear e1 e2
  refine (is_any _ _ _ _ _ _ _ _ _ _ _ _ _ _ _ _).mono ?_
  rintro e w3 ⟨rfl, hb⟩
  rw [H1.out]
  have Kg3 := Aside0.mk (blk_below Kg.out hb)
  have Kh3 := Aside0.mk (blk_below Kh.out hb)
  have HB3 := Aside0.mk (below_step HB.out hb)
  clear hb Kg Kh HB H1
  have c := cells15' _ _ _ _ _ _ _ _ _ _ _ _ _ _ _ Kg3
  have z := cells15' _ _ _ _ _ _ _ _ _ _ _ _ _ _ _ Kh3
  have f1 := blk_frozen Kg3.out
  have f2 := blk_frozen Kh3.out
  have n1 : g ≠ g + 1 := by omega
  have n2 : g + 1 ≠ g := by omega
  go_split_ands
  go_wp2_with fail
  have e := HG.out
  exact bodyPost_ret (results_ct rfl _ _ (g + 1) 29 _ (0, 0) _ rfl (blk15 Kh3.out) Try.underlying29 rfl (by kernel_rfl)) rfl ⟨rfl, below15 HB3.out (by omega)⟩
set_option maxHeartbeats 8000000 in
set_option maxRecDepth 100000 in
theorem ack_ok (a0 a1 a2 a3 a4 a5 a6 a7 a8 a9 a10 a11 a12 a13 a14 : Int) (t r : Int) (w : World) (h1 : rightB a0 0 a2 a3 a4 a5 a6 a7 a8 a9 a10 a11 a12 a13 a14 = true)
    (h2 : rightB a0 0 a2 a3 (a4 + 1) a5 a6 (a7 + 1) a8 (a9 + 1) (a10 + t) (a11 + r) (a12 + t * t) (a13 + t * r) (a14 + r * r) = true)
    (t0 : 0 ≤ t) (t1 : t ≤ 60000000) (r0 : 0 ≤ r) (r1 : r ≤ 60000000) (tt0 : 0 ≤ t * t) (tt1 : t * t ≤ 3600000000000000) (tr0 : 0 ≤ t * r) (tr1 : t * r ≤ 3600000000000000) (rr0 : 0 ≤ r * r) (rr1 : r * r ≤ 3600000000000000)
    (k9 : 0 ≤ a9) (k9' : a9 < 1024) (k4 : 0 ≤ a4) (k4' : a4 ≤ 1048576) (k7 : 0 ≤ a7) (k7' : a7 ≤ 1048576)
    (k10 : 0 ≤ a10) (k10' : a10 ≤ 3600000000000000000) (k11 : 0 ≤ a11) (k11' : a11 ≤ 3600000000000000000) (k12 : 0 ≤ a12) (k12' : a12 ≤ 3600000000000000000) (k13 : 0 ≤ a13) (k13' : a13 ≤ 3600000000000000000) (k14 : 0 ≤ a14) (k14' : a14 ≤ 3600000000000000000) :
    Calls Try.prog 36 #[.agg #[.int .i64 a0, .int .i64 0, .int .i64 a2, .int .i64 a3, .int .i64 a4, .int .i64 a5, .int .i64 a6, .int .i64 a7, .int .i64 a8, .int .i64 a9, .int .i64 a10, .int .i64 a11, .int .i64 a12, .int .i64 a13, .int .i64 a14], .int .i64 1, .int .i64 t, .int .i64 (t + r)] w fun e w' => e = .returned (.tuple #[.agg #[.int .i64 a0, .int .i64 0, .int .i64 a2, .int .i64 a3, .int .i64 (a4 + 1), .int .i64 a5, .int .i64 a6, .int .i64 (a7 + 1), .int .i64 a8, .int .i64 (a9 + 1), .int .i64 (a10 + t), .int .i64 (a11 + r), .int .i64 (a12 + t * t), .int .i64 (a13 + t * r), .int .i64 (a14 + r * r)], .int .i64 0]) ∧ Below w.heap.size w w' := by
  have H1 := Aside0.mk h1
  have H2 := Aside0.mk h2
  have T1 := Aside0.mk (show timeB t = true from decide_eq_true (by omega))
  have T2 := Aside0.mk (show timeB (t + r) = true from decide_eq_true (by omega))
  have T3 := Aside0.mk (show (max t r ≤ 60000000) from by omega)
  clear h1 h2
  go_enter Try.func36, Try.ntmps36
  go_wp2_with fail
  obtain ⟨w2, g, e1, e2, Kg, Kh, HB, HG⟩ := made2 a0 0 a2 a3 a4 a5 a6 a7 a8 a9 a10 a11 a12 a13 a14 w
  simp only [e1, e2]
  clear e1 e2
  refine (is_any _ _ _ _ _ _ _ _ _ _ _ _ _ _ _ _).mono ?_
  rintro e w3 ⟨rfl, hb⟩
  rw [H1.out]
  have Kg3 := Aside0.mk (blk_below Kg.out hb)
  have Kh3 := Aside0.mk (blk_below Kh.out hb)
  have HB3 := Aside0.mk (below_step HB.out hb)
  clear hb Kg Kh HB H1
  have c := cells15' _ _ _ _ _ _ _ _ _ _ _ _ _ _ _ Kg3
  have z := cells15' _ _ _ _ _ _ _ _ _ _ _ _ _ _ _ Kh3
  have f1 := blk_frozen Kg3.out
  have f2 := blk_frozen Kh3.out
  have n1 : g ≠ g + 1 := by omega
  have n2 : g + 1 ≠ g := by omega
  have hq : t + r - t = r := by omega
  go_split_ands
  go_wp2_with (first
    | (go_at_call 49; refine (size_one _).mono ?_; rintro e w4 ⟨rfl, rfl⟩)
    | (go_at_call 48; (with_reducible refine (time_is t true T1.out _).mono ?_); rintro e w4 ⟨rfl, rfl⟩)
    | (go_at_call 48; (with_reducible refine (time_is (t + r) true T2.out _).mono ?_); rintro e w4 ⟨rfl, rfl⟩)
    | (go_at_call 50; fail))
  all_goals
    refine (told_ok _ _ _ _ _ _ _ _ _ _ _ _ _ _ _ _ H2.out).mono ?_
    rintro e w5 ⟨rfl, hb⟩
    have hs : w.heap.size ≤ g := by have := HG.out; omega
    have Kh5 := Aside0.mk (blk_below (blk_far (blk_far (blk_far (blk_far (blk_far (blk_far (blk_far (blk_far Kh3.out n2 _) n2 _) n2 _) n2 _) n2 _) n2 _) n2 _) n2 _) hb)
    have HB5 := Aside0.mk (below_step (below_set (below_set (below_set (below_set (below_set (below_set (below_set (below_set HB3.out hs) hs) hs) hs) hs) hs) hs) hs) hb)
    clear hb
    have z := cells15' _ _ _ _ _ _ _ _ _ _ _ _ _ _ _ Kh5
    have f5 := blk_frozen Kh5.out
    go_split_ands
    go_wp2_with fail
    exact bodyPost_ret (results_ct rfl _ _ (g + 1) 29 _ (0, 0) _ rfl (blk15 Kh5.out) Try.underlying29 rfl (by kernel_rfl)) rfl ⟨rfl, below15 HB5.out (by omega)⟩
theorem keepW (a0 a1 a2 a3 a4 a5 a6 a7 a8 a9 a10 a11 a12 a13 a14 : Int) {t r : Int} {p q : Addr} {cs : Array Value} {w X : World} {g g2 : Nat} (k4 : Aside0 (w.heap[g]? = some (.cells #[.int .i64 a0, .int .i64 a1, .int .i64 a2, .int .i64 a3, .int .i64 a4, .int .i64 a5, .int .i64 a6, .int .i64 a7, .int .i64 a8, .int .i64 a9, .int .i64 a10, .int .i64 a11, .int .i64 a12, .int .i64 a13, .int .i64 a14] 29 (0, 0)))) (k2 : Aside0 (w.heap[g2]? = some (.cells cs 29 (0, 0)))) (x0 : Aside0 (w.cell? p = some (.int .i64 t))) (x1 : Aside0 (w.cell? q = some (.int .i64 r))) (hb : Below w.heap.size w X) :
    (X.cell? ⟨g, 0, none⟩ = some (.int .i64 a0) ∧ X.cell? ⟨g, 1, none⟩ = some (.int .i64 a1) ∧ X.cell? ⟨g, 2, none⟩ = some (.int .i64 a2) ∧ X.cell? ⟨g, 3, none⟩ = some (.int .i64 a3) ∧ X.cell? ⟨g, 4, none⟩ = some (.int .i64 a4) ∧ X.cell? ⟨g, 5, none⟩ = some (.int .i64 a5) ∧ X.cell? ⟨g, 6, none⟩ = some (.int .i64 a6) ∧ X.cell? ⟨g, 7, none⟩ = some (.int .i64 a7) ∧ X.cell? ⟨g, 8, none⟩ = some (.int .i64 a8) ∧ X.cell? ⟨g, 9, none⟩ = some (.int .i64 a9) ∧ X.cell? ⟨g, 10, none⟩ = some (.int .i64 a10) ∧ X.cell? ⟨g, 11, none⟩ = some (.int .i64 a11) ∧ X.cell? ⟨g, 12, none⟩ = some (.int .i64 a12) ∧ X.cell? ⟨g, 13, none⟩ = some (.int .i64 a13) ∧ X.cell? ⟨g, 14, none⟩ = some (.int .i64 a14)) ∧ (X.cell? p = some (.int .i64 t) ∧ X.cell? q = some (.int .i64 r)) ∧ (X.heap[g]? = some (.cells #[.int .i64 a0, .int .i64 a1, .int .i64 a2, .int .i64 a3, .int .i64 a4, .int .i64 a5, .int .i64 a6, .int .i64 a7, .int .i64 a8, .int .i64 a9, .int .i64 a10, .int .i64 a11, .int .i64 a12, .int .i64 a13, .int .i64 a14] 29 (0, 0)) ∧ X.heap[g2]? = some (.cells cs 29 (0, 0))) ∧ Below w.heap.size w X := by
  have k := blk_below k4.out hb
  exact ⟨cells15 _ _ _ _ _ _ _ _ _ _ _ _ _ _ _ k, ⟨pw_cell_below hb x0.out, pw_cell_below hb x1.out⟩, ⟨k, blk_below k2.out hb⟩, hb⟩
theorem far15 {T : TypeId} {cs : Array Value} {b0 b1 b2 b3 b4 b5 b6 b7 b8 b9 b10 b11 b12 b13 b14 : Int} {W : World} {g g2 : Nat} (h : W.heap[g2]? = some (.cells cs T (0, 0))) (hn : g2 ≠ g) :
    (((((((((((((((W.setCell ⟨g, 0, none⟩ (.int .i64 b0)).setCell ⟨g, 1, none⟩ (.int .i64 b1)).setCell ⟨g, 2, none⟩ (.int .i64 b2)).setCell ⟨g, 3, none⟩ (.int .i64 b3)).setCell ⟨g, 4, none⟩ (.int .i64 b4)).setCell ⟨g, 5, none⟩ (.int .i64 b5)).setCell ⟨g, 6, none⟩ (.int .i64 b6)).setCell ⟨g, 7, none⟩ (.int .i64 b7)).setCell ⟨g, 8, none⟩ (.int .i64 b8)).setCell ⟨g, 9, none⟩ (.int .i64 b9)).setCell ⟨g, 10, none⟩ (.int .i64 b10)).setCell ⟨g, 11, none⟩ (.int .i64 b11)).setCell ⟨g, 12, none⟩ (.int .i64 b12)).setCell ⟨g, 13, none⟩ (.int .i64 b13)).setCell ⟨g, 14, none⟩ (.int .i64 b14)).heap[g2]? = some (.cells cs T (0, 0)) := blk_far (blk_far (blk_far (blk_far (blk_far (blk_far (blk_far (blk_far (blk_far (blk_far (blk_far (blk_far (blk_far (blk_far (blk_far (h) hn (.int .i64 b0)) hn (.int .i64 b1)) hn (.int .i64 b2)) hn (.int .i64 b3)) hn (.int .i64 b4)) hn (.int .i64 b5)) hn (.int .i64 b6)) hn (.int .i64 b7)) hn (.int .i64 b8)) hn (.int .i64 b9)) hn (.int .i64 b10)) hn (.int .i64 b11)) hn (.int .i64 b12)) hn (.int .i64 b13)) hn (.int .i64 b14)
theorem in0 (m n : Int) (h : 0 ≤ n * m) : inB m n 0 = true := decide_eq_true ⟨by omega, h⟩
theorem right1 (i : Int) (h0 : 0 ≤ i) (h1 : i ≤ 1000) : rightB 0 0 (-1) i 0 0 i 0 0 0 0 0 0 0 0 = true := by
  have e1 : countsB i 0 0 = true := decide_eq_true (by omega)
  have e2 : fitB i i = true := decide_eq_true (by omega)
  have e3 : bytesB i 0 0 i 0 0 = true := by
    unfold bytesB
    rw [e2, show fitB 0 0 = true from rfl, decide_eq_true (show (0 : Int) + 0 ≤ i by omega)]
    simp
  have e4 : samplesB 0 0 0 0 0 0 0 = true := rfl
  unfold rightB
  rw [e1, e3, e4]
  rfl
def sm (f : S36 → Int) : List S36 → Int
  | [] => 0
  | x :: l => f x + sm f l
def okS (x : S36) : Prop := 0 ≤ x.f0 ∧ x.f0 ≤ 60000000 ∧ 0 ≤ x.f1 ∧ x.f1 ≤ 60000000
def SampPost (l0 : List S36) (e : Ending) : Prop :=
  ((∀ x ∈ l0, okS x) ∧ e = .returned (.tuple #[.agg #[.int .i64 0, .int .i64 0, .int .i64 (-1), .int .i64 (l0.length : Int), .int .i64 (l0.length : Int), .int .i64 0, .int .i64 (l0.length : Int), .int .i64 (l0.length : Int), .int .i64 0, .int .i64 (l0.length : Int), .int .i64 (sm S36.f0 l0), .int .i64 (sm S36.f1 l0), .int .i64 (sm (fun x => x.f0 * x.f0) l0), .int .i64 (sm (fun x => x.f0 * x.f1) l0), .int .i64 (sm (fun x => x.f1 * x.f1) l0)], .bool true])) ∨ ((∃ x ∈ l0, ¬ okS x) ∧ e = .returned (.tuple #[.agg #[.int .i64 0, .int .i64 0, .int .i64 0, .int .i64 0, .int .i64 0, .int .i64 0, .int .i64 0, .int .i64 0, .int .i64 0, .int .i64 0, .int .i64 0, .int .i64 0, .int .i64 0, .int .i64 0, .int .i64 0], .bool false]))
theorem samp_bad {l0 : List S36} {j : Int} (h0 : 0 ≤ j) (h1 : j < (l0.length : Int)) {t r : Int} (ht : (rd_T36 l0 j).f0 = t) (hr : (rd_T36 l0 j).f1 = r) (h : t < 0 ∨ 60000000 < t ∨ r < 0 ∨ 60000000 < r) : SampPost l0 (.returned (.tuple #[.agg #[.int .i64 0, .int .i64 0, .int .i64 0, .int .i64 0, .int .i64 0, .int .i64 0, .int .i64 0, .int .i64 0, .int .i64 0, .int .i64 0, .int .i64 0, .int .i64 0, .int .i64 0, .int .i64 0, .int .i64 0], .bool false])) := by
  refine .inr ⟨⟨rd_T36 l0 j, ?_, fun hk => ?_⟩, rfl⟩
  · unfold rd_T36
    have hj : j.toNat < l0.length := by omega
    have e : l0.getD j.toNat z36 = l0[j.toNat] := by simp [List.getD, hj]
    rw [e]
    exact List.getElem_mem _
  · unfold okS at hk; omega
theorem take_more {l : List S36} {j : Int} (h0 : 0 ≤ j) (h1 : j < (l.length : Int)) : l.take (j + 1).toNat = l.take j.toNat ++ [rd_T36 l j] := by
  have hj : j.toNat < l.length := by omega
  have e : (j + 1).toNat = j.toNat + 1 := by omega
  have e2 : rd_T36 l j = l[j.toNat] := by unfold rd_T36; simp [List.getD, hj]
  rw [e, e2, List.take_succ_eq_append_getElem hj]
theorem sm_snoc (f : S36 → Int) (l : List S36) (x : S36) : sm f (l ++ [x]) = sm f l + f x := by
  induction l with
  | nil => simp [sm]
  | cons y l ih => simp only [List.cons_append, sm, ih]; omega
theorem sm_bd (f : S36 → Int) (C : Int) (hf : ∀ x, okS x → 0 ≤ f x ∧ f x ≤ C) : ∀ l : List S36, (∀ x ∈ l, okS x) → 0 ≤ sm f l ∧ sm f l ≤ l.length * C
  | [], _ => by simp [sm]
  | x :: l, h => by
    have h1 := hf x (h x (by simp))
    have h2 := sm_bd f C hf l (fun y hy => h y (by simp [hy]))
    have e : ((x :: l).length : Int) * C = l.length * C + C := by simp [Int.add_mul]
    rw [e]
    simp only [sm]
    omega
theorem mul_bd {x y : Int} (h0 : 0 ≤ x) (h1 : x ≤ 60000000) (h2 : 0 ≤ y) (h3 : y ≤ 60000000) : 0 ≤ x * y ∧ x * y ≤ 3600000000000000 :=
  ⟨Int.mul_nonneg h0 h2, Int.mul_le_mul h1 h3 h2 (by decide)⟩
theorem right2 (n j T R TT TR RR : Int) (h0 : 0 ≤ j) (h1 : j ≤ n) (h2 : n ≤ 1000) (hT : 0 ≤ T ∧ T ≤ j * 60000000) (hR : 0 ≤ R ∧ R ≤ j * 60000000) (hTT : 0 ≤ TT ∧ TT ≤ j * 3600000000000000) (hTR : 0 ≤ TR ∧ TR ≤ j * 3600000000000000) (hRR : 0 ≤ RR ∧ RR ≤ j * 3600000000000000) :
    rightB 0 0 (-1) n j 0 n j 0 j T R TT TR RR = true := by
  have e1 : countsB n j 0 = true := decide_eq_true (by omega)
  have e2 : ∀ i : Int, 0 ≤ i → fitB i i = true := fun i hi => decide_eq_true (by omega)
  have e3 : bytesB n j 0 n j 0 = true := by
    unfold bytesB
    rw [e2 n (by omega), e2 j h0, e2 0 (by omega), decide_eq_true (show j + 0 ≤ n by omega)]
    simp
  have i1 : ∀ m x : Int, 0 ≤ x ∧ x ≤ j * m → inB m j x = true := fun m x h => decide_eq_true h
  have e4 : samplesB j j T R TT TR RR = true := by
    unfold samplesB
    rw [i1 _ _ hT, i1 _ _ hR, i1 _ _ hTT, i1 _ _ hTR, i1 _ _ hRR, decide_eq_true (by omega)]
    rfl
  unfold rightB
  rw [e1, e3, e4]
  rfl
theorem samp_step {l : List S36} {j T R TT TR RR t r : Int} (hl : l.length ≤ 100) (h0 : 0 ≤ j) (h1 : j < (l.length : Int)) (hO : ∀ x ∈ l.take j.toNat, okS x) (q0 : 0 ≤ t) (q1 : t ≤ 60000000) (q2 : 0 ≤ r) (q3 : r ≤ 60000000)
    (ht : (rd_T36 l j).f0 = t) (hr : (rd_T36 l j).f1 = r) (hT : sm S36.f0 (l.take j.toNat) = T) (hR : sm S36.f1 (l.take j.toNat) = R) (hTT : sm (fun x => x.f0 * x.f0) (l.take j.toNat) = TT) (hTR : sm (fun x => x.f0 * x.f1) (l.take j.toNat) = TR) (hRR : sm (fun x => x.f1 * x.f1) (l.take j.toNat) = RR) (W : World) :
    (Calls Try.prog 36 #[.agg #[.int .i64 0, .int .i64 0, .int .i64 (-1), .int .i64 (l.length : Int), .int .i64 j, .int .i64 0, .int .i64 (l.length : Int), .int .i64 j, .int .i64 0, .int .i64 j, .int .i64 T, .int .i64 R, .int .i64 TT, .int .i64 TR, .int .i64 RR], .int .i64 1, .int .i64 t, .int .i64 (t + r)] W fun e w' => e = .returned (.tuple #[.agg #[.int .i64 0, .int .i64 0, .int .i64 (-1), .int .i64 (l.length : Int), .int .i64 (j + 1), .int .i64 0, .int .i64 (l.length : Int), .int .i64 (j + 1), .int .i64 0, .int .i64 (j + 1), .int .i64 (T + t), .int .i64 (R + r), .int .i64 (TT + t * t), .int .i64 (TR + t * r), .int .i64 (RR + r * r)], .int .i64 0]) ∧ Below W.heap.size W w') ∧
    (∀ x ∈ l.take (j + 1).toNat, okS x) ∧ sm S36.f0 (l.take (j + 1).toNat) = T + t ∧ sm S36.f1 (l.take (j + 1).toNat) = R + r ∧ sm (fun x => x.f0 * x.f0) (l.take (j + 1).toNat) = TT + t * t ∧ sm (fun x => x.f0 * x.f1) (l.take (j + 1).toNat) = TR + t * r ∧ sm (fun x => x.f1 * x.f1) (l.take (j + 1).toNat) = RR + r * r := by
  have hok : okS (rd_T36 l j) := by unfold okS; omega
  have hlen : ((l.take j.toNat).length : Int) = j := by simp; omega
  have b0 := sm_bd S36.f0 60000000 (fun x h => ⟨h.1, h.2.1⟩) _ hO
  have b1 := sm_bd S36.f1 60000000 (fun x h => ⟨h.2.2.1, h.2.2.2⟩) _ hO
  have b2 := sm_bd (fun x => x.f0 * x.f0) 3600000000000000 (fun x h => mul_bd h.1 h.2.1 h.1 h.2.1) _ hO
  have b3 := sm_bd (fun x => x.f0 * x.f1) 3600000000000000 (fun x h => mul_bd h.1 h.2.1 h.2.2.1 h.2.2.2) _ hO
  have b4 := sm_bd (fun x => x.f1 * x.f1) 3600000000000000 (fun x h => mul_bd h.2.2.1 h.2.2.2 h.2.2.1 h.2.2.2) _ hO
  rw [hlen, hT] at b0
  rw [hlen, hR] at b1
  rw [hlen, hTT] at b2
  rw [hlen, hTR] at b3
  rw [hlen, hRR] at b4
  obtain ⟨p0, p1⟩ := mul_bd q0 q1 q0 q1
  obtain ⟨p2, p3⟩ := mul_bd q0 q1 q2 q3
  obtain ⟨p4, p5⟩ := mul_bd q2 q3 q2 q3
  refine ⟨?_, ?_, ?_, ?_, ?_, ?_, ?_⟩
  · refine ack_ok _ 0 _ _ _ _ _ _ _ _ _ _ _ _ _ t r W (right2 _ j T R TT TR RR h0 (by omega) (by omega) b0 b1 b2 b3 b4) (right2 _ (j + 1) _ _ _ _ _ (by omega) (by omega) (by omega) ?_ ?_ ?_ ?_ ?_) q0 q1 q2 q3 p0 p1 p2 p3 p4 p5 h0 ?_ h0 ?_ h0 ?_ b0.1 ?_ b1.1 ?_ b2.1 ?_ b3.1 ?_ b4.1 ?_ <;> omega
  · intro x hx
    rw [take_more h0 h1] at hx
    rcases List.mem_append.1 hx with h | h
    · exact hO x h
    · rw [List.mem_singleton.1 h]; exact hok
  all_goals rw [take_more h0 h1, sm_snoc]
  · rw [hT, ht]
  · rw [hR, hr]
  · rw [hTT, ht]
  · rw [hTR, ht, hr]
  · rw [hRR, hr]
def seekLoop (n : Nat) : Code → Option Code
  | .loop c => some c
  | .seq a b => match seekLoop n a with
    | some c => some c
    | none => seekLoop n b
  | .block m c => if m = n then (match c with | .loop d => some d | _ => seekLoop n c) else none
  | .scope c => seekLoop n c
  | _ => none
noncomputable def body2 : Code := (Try.f18.body.bind (seekLoop 2)).getD .skip
set_option maxHeartbeats 4000000 in
set_option maxRecDepth 100000 in
theorem round_exit (A0 : Option Addr) (c0 : Nat) (l0 : List S36) (w wr : World) (g2 g4 : Nat) (j : Int) (J : Act → World → Prop) (K : Act → World → Prop) (x1 x3 x6 x7 x8 x10 x11 x12 x13 x14 x15 x16 x17 x18 x19 x20 x21 x22 x23 x24 x25 x26 x27 x28 x29 x30 x31 x32 x33 x34 x35 x36 x37 x38 x39 x40 x41 x42 x43 x44 x45 x46 x47 x48 x49 x50 x51 x52 x53 x54 x55 x56 x57 x58 x59 x60 x61 x62 x63 x64 x65 x66 x67 x68 x69 x70 x71 x72 x73 x74 x75 x76 x77 x78 x79 x80 x81 x82 x83 x84 x85 x86 x87 x88 x89 x90 x91 x92 x93 x94 x95 x96 x97 x98 x99 x100 x101 x102 x103 : Value) (HR0 : Aside0 (Kd.C k36 w A0 l0.length l0)) (HL : Aside0 (l0.length ≤ 100)) (HG : Aside0 (g2 < g4)) (HG3 : Aside0 (w.heap.size = g2)) (HI : Aside0 (0 ≤ j)) (HO : Aside0 (∀ x ∈ l0.take j.toNat, okS x)) (K2 : Aside0 (wr.heap[g2]? = some (.cells #[.int .i64 0, .int .i64 0, .int .i64 0, .int .i64 0, .int .i64 0, .int .i64 0, .int .i64 0, .int .i64 0, .int .i64 0, .int .i64 0, .int .i64 0, .int .i64 0, .int .i64 0, .int .i64 0, .int .i64 0] 29 (0, 0)))) (K4 : Aside0 (wr.heap[g4]? = some (.cells #[.int .i64 0, .int .i64 0, .int .i64 (-1), .int .i64 (l0.length : Int), .int .i64 j, .int .i64 0, .int .i64 (l0.length : Int), .int .i64 j, .int .i64 0, .int .i64 j, .int .i64 (sm S36.f0 (l0.take j.toNat)), .int .i64 (sm S36.f1 (l0.take j.toNat)), .int .i64 (sm (fun x => x.f0 * x.f0) (l0.take j.toNat)), .int .i64 (sm (fun x => x.f0 * x.f1) (l0.take j.toNat)), .int .i64 (sm (fun x => x.f1 * x.f1) (l0.take j.toNat))] 29 (0, 0)))) (HB : Aside0 (Below w.heap.size w wr)) (hi : ¬ j < l0.length)
    (hx : ∀ (y1 y3 y6 y7 y8 y10 y11 y12 y13 y14 y15 y16 y17 y18 y19 y20 y21 y22 y23 y24 y25 y26 y27 y28 y29 y30 y31 y32 y33 y34 y35 y36 y37 y38 y39 y40 y41 y42 y43 y44 y45 y46 y47 y48 y49 y50 y51 y52 y53 y54 y55 y56 y57 y58 y59 y60 y61 y62 y63 y64 y65 y66 y67 y68 y69 y70 y71 y72 y73 y74 y75 y76 y77 y78 y79 y80 y81 y82 y83 y84 y85 y86 y87 y88 y89 y90 y91 y92 y93 y94 y95 y96 y97 y98 y99 y100 y101 y102 y103 : Value), K ⟨#[.slice A0 l0.length c0, y1, .pointer (some ⟨g2, 0, none⟩), y3, .pointer (some ⟨g4, 0, none⟩), .int .i64 0, y6, y7, y8, .int .i64 j, y10, y11, y12, y13, y14, y15, y16, y17, y18, y19, y20, y21, y22, y23, y24, y25, y26, y27, y28, y29, y30, y31, y32, y33, y34, y35, y36, y37, y38, y39, y40, y41, y42, y43, y44, y45, y46, y47, y48, y49, y50, y51, y52, y53, y54, y55, y56, y57, y58, y59, y60, y61, y62, y63, y64, y65, y66, y67, y68, y69, y70, y71, y72, y73, y74, y75, y76, y77, y78, y79, y80, y81, y82, y83, y84, y85, y86, y87, y88, y89, y90, y91, y92, y93, y94, y95, y96, y97, y98, y99, y100, y101, y102, y103], []⟩ wr) :
    Code.wp Try.prog body2 (Exit.then J (Exit.inBlock 2 (Exit.then K (bodyPost Try.prog Try.f18 (fun e w' => SampPost l0 e ∧ Below w.heap.size w w'))))) ⟨#[.slice A0 l0.length c0, x1, .pointer (some ⟨g2, 0, none⟩), x3, .pointer (some ⟨g4, 0, none⟩), .int .i64 0, x6, x7, x8, .int .i64 j, x10, x11, x12, x13, x14, x15, x16, x17, x18, x19, x20, x21, x22, x23, x24, x25, x26, x27, x28, x29, x30, x31, x32, x33, x34, x35, x36, x37, x38, x39, x40, x41, x42, x43, x44, x45, x46, x47, x48, x49, x50, x51, x52, x53, x54, x55, x56, x57, x58, x59, x60, x61, x62, x63, x64, x65, x66, x67, x68, x69, x70, x71, x72, x73, x74, x75, x76, x77, x78, x79, x80, x81, x82, x83, x84, x85, x86, x87, x88, x89, x90, x91, x92, x93, x94, x95, x96, x97, x98, x99, x100, x101, x102, x103], []⟩ wr := by
  have t1 : decide (j < (l0.length : Int)) = false := decide_eq_false hi
  clear hi
  conv => arg 2; whnf
  go_wp2_with fail
  exact hx _ _ _ _ _ _ _ _ _ _ _ _ _ _ _ _ _ _ _ _ _ _ _ _ _ _ _ _ _ _ _ _ _ _ _ _ _ _ _ _ _ _ _ _ _ _ _ _ _ _ _ _ _ _ _ _ _ _ _ _ _ _ _ _ _ _ _ _ _ _ _ _ _ _ _ _ _ _ _ _ _ _ _ _ _ _ _ _ _ _ _ _ _ _ _ _ _ _ _
set_option maxHeartbeats 4000000 in
set_option maxRecDepth 100000 in
theorem round_bad (A0 : Option Addr) (c0 : Nat) (l0 : List S36) (w wr : World) (g2 g4 : Nat) (j : Int) (J : Act → World → Prop) (K : Act → World → Prop) (x1 x3 x6 x7 x8 x10 x11 x12 x13 x14 x15 x16 x17 x18 x19 x20 x21 x22 x23 x24 x25 x26 x27 x28 x29 x30 x31 x32 x33 x34 x35 x36 x37 x38 x39 x40 x41 x42 x43 x44 x45 x46 x47 x48 x49 x50 x51 x52 x53 x54 x55 x56 x57 x58 x59 x60 x61 x62 x63 x64 x65 x66 x67 x68 x69 x70 x71 x72 x73 x74 x75 x76 x77 x78 x79 x80 x81 x82 x83 x84 x85 x86 x87 x88 x89 x90 x91 x92 x93 x94 x95 x96 x97 x98 x99 x100 x101 x102 x103 : Value) (HR0 : Aside0 (Kd.C k36 w A0 l0.length l0)) (HL : Aside0 (l0.length ≤ 100)) (HG : Aside0 (g2 < g4)) (HG3 : Aside0 (w.heap.size = g2)) (HI : Aside0 (0 ≤ j)) (HO : Aside0 (∀ x ∈ l0.take j.toNat, okS x)) (K2 : Aside0 (wr.heap[g2]? = some (.cells #[.int .i64 0, .int .i64 0, .int .i64 0, .int .i64 0, .int .i64 0, .int .i64 0, .int .i64 0, .int .i64 0, .int .i64 0, .int .i64 0, .int .i64 0, .int .i64 0, .int .i64 0, .int .i64 0, .int .i64 0] 29 (0, 0)))) (K4 : Aside0 (wr.heap[g4]? = some (.cells #[.int .i64 0, .int .i64 0, .int .i64 (-1), .int .i64 (l0.length : Int), .int .i64 j, .int .i64 0, .int .i64 (l0.length : Int), .int .i64 j, .int .i64 0, .int .i64 j, .int .i64 (sm S36.f0 (l0.take j.toNat)), .int .i64 (sm S36.f1 (l0.take j.toNat)), .int .i64 (sm (fun x => x.f0 * x.f0) (l0.take j.toNat)), .int .i64 (sm (fun x => x.f0 * x.f1) (l0.take j.toNat)), .int .i64 (sm (fun x => x.f1 * x.f1) (l0.take j.toNat))] 29 (0, 0)))) (HB : Aside0 (Below w.heap.size w wr)) (hi : j < l0.length) (b : ¬ okS (rd_T36 l0 j)) :
    Code.wp Try.prog body2 (Exit.then J (Exit.inBlock 2 (Exit.then K (bodyPost Try.prog Try.f18 (fun e w' => SampPost l0 e ∧ Below w.heap.size w w'))))) ⟨#[.slice A0 l0.length c0, x1, .pointer (some ⟨g2, 0, none⟩), x3, .pointer (some ⟨g4, 0, none⟩), .int .i64 0, x6, x7, x8, .int .i64 j, x10, x11, x12, x13, x14, x15, x16, x17, x18, x19, x20, x21, x22, x23, x24, x25, x26, x27, x28, x29, x30, x31, x32, x33, x34, x35, x36, x37, x38, x39, x40, x41, x42, x43, x44, x45, x46, x47, x48, x49, x50, x51, x52, x53, x54, x55, x56, x57, x58, x59, x60, x61, x62, x63, x64, x65, x66, x67, x68, x69, x70, x71, x72, x73, x74, x75, x76, x77, x78, x79, x80, x81, x82, x83, x84, x85, x86, x87, x88, x89, x90, x91, x92, x93, x94, x95, x96, x97, x98, x99, x100, x101, x102, x103], []⟩ wr := by
  have HI0 := HI.out
  have t1 : decide (j < (l0.length : Int)) = true := decide_eq_true hi
  obtain ⟨ad, rfl, xf0, xf1⟩ := at_T36 HR0.out j HI0 hi
  replace xf0 := pw_cell_below HB.out xf0
  replace xf1 := pw_cell_below HB.out xf1
  obtain ⟨t, ht⟩ : ∃ t, (rd_T36 l0 j).f0 = t := ⟨_, rfl⟩
  obtain ⟨r, hr⟩ : ∃ r, (rd_T36 l0 j).f1 = r := ⟨_, rfl⟩
  have b : t < 0 ∨ 60000000 < t ∨ r < 0 ∨ 60000000 < r := by unfold okS at b; omega
  rw [ht] at xf0
  rw [hr] at xf1
  have HS := Aside0.mk (samp_bad HI0 hi ht hr b)
  clear ht hr
  have b' : decide (t < 0) = true ∨ decide (t < 0) = false ∧ decide (60000000 < t) = true ∨ decide (t < 0) = false ∧ decide (60000000 < t) = false ∧ decide (r < 0) = true ∨ decide (t < 0) = false ∧ decide (60000000 < t) = false ∧ decide (r < 0) = false ∧ decide (60000000 < r) = true := by
    simp only [decide_eq_true_eq, decide_eq_false_iff_not]; omega
  have z := cells15' _ _ _ _ _ _ _ _ _ _ _ _ _ _ _ K2
  have f2 := blk_frozen K2.out
  clear b
  conv => arg 2; whnf
  rcases b' with b0 | ⟨b0, b1⟩ | ⟨b0, b1, b2⟩ | ⟨b0, b1, b2, b3⟩
  all_goals
    go_split_ands
    go_wp2_with fail
    have hg : w.heap.size ≤ g2 := by have := HG3.out; omega
    refine bodyPost_ret (results_ct rfl _ _ g2 29 _ (0, 0) _ rfl (blk15 K2.out) Try.underlying29 rfl (by kernel_rfl)) rfl ⟨?_, ?_⟩
    · simp only [Array.getD_eq_getD_getElem?]
      exact HS.out
    · with_reducible exact below15 HB.out hg

end Go.Proofs.Ytcmbogdilplmlaa.P
