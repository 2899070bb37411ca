import Derived.Test.YtcmbogdilplmlaaS5
namespace Go.Proofs.Ytcmbogdilplmlaa.P
open Go.RowKit Go.Proofs.YtcmbogdilplmlaaW.PrintWords Go.Proofs.YtcmbogdilplmlaaW.PrintLast Go.Proofs.YtcmbogdilplmlaaW.PrintMore Go.Proofs.YtcmbogdilplmlaaX
attribute [local go_sem] max2_int min2_int max_two min_two max_three min_three max_four min_four
set_option linter.unusedVariables false
set_option linter.unusedSimpArgs false
set_option maxHeartbeats 4000000 in
set_option maxRecDepth 100000 in
theorem round_good (A0 : Option Addr) (c0 : Nat) (l0 : List S36) (w wr : World) (g2 g4 : Nat) (j : Int) (J : Act → World → Prop) (K : Act → World → Prop) (x1 x3 x6 x7 x8 x10 x11 x12 x13 x14 x15 x16 x17 x18 x19 x20 x21 x22 x23 x24 x25 x26 x27 x28 x29 x30 x31 x32 x33 x34 x35 x36 x37 x38 x39 x40 x41 x42 x43 x44 x45 x46 x47 x48 x49 x50 x51 x52 x53 x54 x55 x56 x57 x58 x59 x60 x61 x62 x63 x64 x65 x66 x67 x68 x69 x70 x71 x72 x73 x74 x75 x76 x77 x78 x79 x80 x81 x82 x83 x84 x85 x86 x87 x88 x89 x90 x91 x92 x93 x94 x95 x96 x97 x98 x99 x100 x101 x102 x103 : Value) (HR0 : Aside0 (Kd.C k36 w A0 l0.length l0)) (HL : Aside0 (l0.length ≤ 100)) (HG : Aside0 (g2 < g4)) (HG3 : Aside0 (w.heap.size = g2)) (HI : Aside0 (0 ≤ j)) (HO : Aside0 (∀ x ∈ l0.take j.toNat, okS x)) (K2 : Aside0 (wr.heap[g2]? = some (.cells #[.int .i64 0, .int .i64 0, .int .i64 0, .int .i64 0, .int .i64 0, .int .i64 0, .int .i64 0, .int .i64 0, .int .i64 0, .int .i64 0, .int .i64 0, .int .i64 0, .int .i64 0, .int .i64 0, .int .i64 0] 29 (0, 0)))) (K4 : Aside0 (wr.heap[g4]? = some (.cells #[.int .i64 0, .int .i64 0, .int .i64 (-1), .int .i64 (l0.length : Int), .int .i64 j, .int .i64 0, .int .i64 (l0.length : Int), .int .i64 j, .int .i64 0, .int .i64 j, .int .i64 (sm S36.f0 (l0.take j.toNat)), .int .i64 (sm S36.f1 (l0.take j.toNat)), .int .i64 (sm (fun x => x.f0 * x.f0) (l0.take j.toNat)), .int .i64 (sm (fun x => x.f0 * x.f1) (l0.take j.toNat)), .int .i64 (sm (fun x => x.f1 * x.f1) (l0.take j.toNat))] 29 (0, 0)))) (HB : Aside0 (Below w.heap.size w wr)) (hi : j < l0.length) (b : okS (rd_T36 l0 j))
    (hx : ∀ (y1 y3 y6 y7 y8 y10 y11 y12 y13 y14 y15 y16 y17 y18 y19 y20 y21 y22 y23 y24 y25 y26 y27 y28 y29 y30 y31 y32 y33 y34 y35 y36 y37 y38 y39 y40 y41 y42 y43 y44 y45 y46 y47 y48 y49 y50 y51 y52 y53 y54 y55 y56 y57 y58 y59 y60 y61 y62 y63 y64 y65 y66 y67 y68 y69 y70 y71 y72 y73 y74 y75 y76 y77 y78 y79 y80 y81 y82 y83 y84 y85 y86 y87 y88 y89 y90 y91 y92 y93 y94 y95 y96 y97 y98 y99 y100 y101 y102 y103 : Value) (w2 : World), Aside0 (∀ x ∈ l0.take (j + 1).toNat, okS x) → Aside0 (w2.heap[g2]? = some (.cells #[.int .i64 0, .int .i64 0, .int .i64 0, .int .i64 0, .int .i64 0, .int .i64 0, .int .i64 0, .int .i64 0, .int .i64 0, .int .i64 0, .int .i64 0, .int .i64 0, .int .i64 0, .int .i64 0, .int .i64 0] 29 (0, 0))) → Aside0 (w2.heap[g4]? = some (.cells #[.int .i64 0, .int .i64 0, .int .i64 (-1), .int .i64 (l0.length : Int), .int .i64 (j + 1), .int .i64 0, .int .i64 (l0.length : Int), .int .i64 (j + 1), .int .i64 0, .int .i64 (j + 1), .int .i64 (sm S36.f0 (l0.take (j + 1).toNat)), .int .i64 (sm S36.f1 (l0.take (j + 1).toNat)), .int .i64 (sm (fun x => x.f0 * x.f0) (l0.take (j + 1).toNat)), .int .i64 (sm (fun x => x.f0 * x.f1) (l0.take (j + 1).toNat)), .int .i64 (sm (fun x => x.f1 * x.f1) (l0.take (j + 1).toNat))] 29 (0, 0))) → Aside0 (Below w.heap.size w w2) → J ⟨#[.slice A0 l0.length c0, y1, .pointer (some ⟨g2, 0, none⟩), y3, .pointer (some ⟨g4, 0, none⟩), .int .i64 0, y6, y7, y8, .int .i64 (j + 1), y10, y11, y12, y13, y14, y15, y16, y17, y18, y19, y20, y21, y22, y23, y24, y25, y26, y27, y28, y29, y30, y31, y32, y33, y34, y35, y36, y37, y38, y39, y40, y41, y42, y43, y44, y45, y46, y47, y48, y49, y50, y51, y52, y53, y54, y55, y56, y57, y58, y59, y60, y61, y62, y63, y64, y65, y66, y67, y68, y69, y70, y71, y72, y73, y74, y75, y76, y77, y78, y79, y80, y81, y82, y83, y84, y85, y86, y87, y88, y89, y90, y91, y92, y93, y94, y95, y96, y97, y98, y99, y100, y101, y102, y103], []⟩ w2) :
    Code.wp Try.prog body2 (Exit.then J (Exit.inBlock 2 (Exit.then K (bodyPost Try.prog Try.f18 (fun e w' => SampPost l0 e ∧ Below w.heap.size w w'))))) ⟨#[.slice A0 l0.length c0, x1, .pointer (some ⟨g2, 0, none⟩), x3, .pointer (some ⟨g4, 0, none⟩), .int .i64 0, x6, x7, x8, .int .i64 j, x10, x11, x12, x13, x14, x15, x16, x17, x18, x19, x20, x21, x22, x23, x24, x25, x26, x27, x28, x29, x30, x31, x32, x33, x34, x35, x36, x37, x38, x39, x40, x41, x42, x43, x44, x45, x46, x47, x48, x49, x50, x51, x52, x53, x54, x55, x56, x57, x58, x59, x60, x61, x62, x63, x64, x65, x66, x67, x68, x69, x70, x71, x72, x73, x74, x75, x76, x77, x78, x79, x80, x81, x82, x83, x84, x85, x86, x87, x88, x89, x90, x91, x92, x93, x94, x95, x96, x97, x98, x99, x100, x101, x102, x103], []⟩ wr := by
  have HI0 := HI.out
  have t1 : decide (j < (l0.length : Int)) = true := decide_eq_true hi
  have t5 : j ≤ 100 := by have := HL.out; omega
  obtain ⟨ad, rfl, xf0, xf1⟩ := at_T36 HR0.out j HI0 hi
  replace xf0 := pw_cell_below HB.out xf0
  replace xf1 := pw_cell_below HB.out xf1
  obtain ⟨t, ht⟩ : ∃ t, (rd_T36 l0 j).f0 = t := ⟨_, rfl⟩
  obtain ⟨r, hr⟩ : ∃ r, (rd_T36 l0 j).f1 = r := ⟨_, rfl⟩
  obtain ⟨q0, q1, q2, q3⟩ : 0 ≤ t ∧ t ≤ 60000000 ∧ 0 ≤ r ∧ r ≤ 60000000 := by unfold okS at b; omega
  rw [ht] at xf0
  rw [hr] at xf1
  obtain ⟨T, hT⟩ : ∃ T, sm S36.f0 (l0.take j.toNat) = T := ⟨_, rfl⟩
  obtain ⟨R, hR⟩ : ∃ R, sm S36.f1 (l0.take j.toNat) = R := ⟨_, rfl⟩
  obtain ⟨TT, hTT⟩ : ∃ TT, sm (fun x => x.f0 * x.f0) (l0.take j.toNat) = TT := ⟨_, rfl⟩
  obtain ⟨TR, hTR⟩ : ∃ TR, sm (fun x => x.f0 * x.f1) (l0.take j.toNat) = TR := ⟨_, rfl⟩
  obtain ⟨RR, hRR⟩ : ∃ RR, sm (fun x => x.f1 * x.f1) (l0.take j.toNat) = RR := ⟨_, rfl⟩
  rw [hT, hR, hTT, hTR, hRR] at K4
  have HM := Aside0.mk (samp_step HL.out HI0 hi HO.out q0 q1 q2 q3 ht hr hT hR hTT hTR hRR)
  clear hT hR hTT hTR hRR b ht hr
  have HA := fun W => Aside0.mk (HM.out W).1
  replace HM := Aside0.mk (HM.out wr).2
  have HY := Aside0.mk hx
  clear hx
  conv => arg 2; whnf
  have b0 : decide (t < 0) = false := decide_eq_false (by omega)
  have b1 : decide (60000000 < t) = false := decide_eq_false (by omega)
  have b2 : decide (r < 0) = false := decide_eq_false (by omega)
  have b3 : decide (60000000 < r) = false := decide_eq_false (by omega)
  have e3 : IntKind.i64.wrap (t + r) = t + r := IntWalk.i64_in _ (by omega)
  have c := cells15' _ _ _ _ _ _ _ _ _ _ _ _ _ _ _ K4
  have X0 := Aside0.mk xf0
  have X1 := Aside0.mk xf1
  go_split_ands
  go_wp2_with fail
  go_region_held3 (fun w' => (w'.cell? ⟨g4, 0, none⟩ = some (.int .i64 0) ∧ w'.cell? ⟨g4, 1, none⟩ = some (.int .i64 0) ∧ w'.cell? ⟨g4, 2, none⟩ = some (.int .i64 (-1)) ∧ w'.cell? ⟨g4, 3, none⟩ = some (.int .i64 (l0.length : Int)) ∧ w'.cell? ⟨g4, 4, none⟩ = some (.int .i64 j) ∧ w'.cell? ⟨g4, 5, none⟩ = some (.int .i64 0) ∧ w'.cell? ⟨g4, 6, none⟩ = some (.int .i64 (l0.length : Int)) ∧ w'.cell? ⟨g4, 7, none⟩ = some (.int .i64 j) ∧ w'.cell? ⟨g4, 8, none⟩ = some (.int .i64 0) ∧ w'.cell? ⟨g4, 9, none⟩ = some (.int .i64 j) ∧ w'.cell? ⟨g4, 10, none⟩ = some (.int .i64 T) ∧ w'.cell? ⟨g4, 11, none⟩ = some (.int .i64 R) ∧ w'.cell? ⟨g4, 12, none⟩ = some (.int .i64 TT) ∧ w'.cell? ⟨g4, 13, none⟩ = some (.int .i64 TR) ∧ w'.cell? ⟨g4, 14, none⟩ = some (.int .i64 RR)) ∧ (w'.cell? (ad.add (j.toNat * 2)) = some (.int .i64 t) ∧ w'.cell? ⟨(ad.add (j.toNat * 2)).block, (ad.add (j.toNat * 2)).off + 1, none⟩ = some (.int .i64 r)) ∧ (w'.heap[g4]? = some (.cells #[.int .i64 0, .int .i64 0, .int .i64 (-1), .int .i64 (l0.length : Int), .int .i64 j, .int .i64 0, .int .i64 (l0.length : Int), .int .i64 j, .int .i64 0, .int .i64 j, .int .i64 T, .int .i64 R, .int .i64 TT, .int .i64 TR, .int .i64 RR] 29 (0, 0)) ∧ w'.heap[g2]? = some (.cells #[.int .i64 0, .int .i64 0, .int .i64 0, .int .i64 0, .int .i64 0, .int .i64 0, .int .i64 0, .int .i64 0, .int .i64 0, .int .i64 0, .int .i64 0, .int .i64 0, .int .i64 0, .int .i64 0, .int .i64 0] 29 (0, 0))) ∧ Below wr.heap.size wr w')
    ((refine keepW _ _ _ _ _ _ _ _ _ _ _ _ _ _ _ K4 K2 X0 X1 ?_; (repeat (with_reducible first | assumption | exact Below.refl _ _ | refine below_alloc ?_ _ | refine below_drew1 ?_ | (refine below15 ?_ (Nat.le_refl _)) | exact HX.out | (go_split_ands; assumption))); done))
    ((first
      | (go_at_call 36; (with_reducible refine (HA _).out.mono ?_); rintro e w5 ⟨rfl, hb⟩; have HX : Aside0 (Below wr.heap.size wr w5) := ⟨below_step (by repeat (with_reducible first | assumption | exact Below.refl _ _ | refine below_alloc ?_ _ | refine below_drew1 ?_ | (go_split_ands; assumption))) hb⟩; (try (have K9 := blk_below (blk_drew (blk_new _ (.cells #[.int .i64 0, .int .i64 0, .int .i64 0, .int .i64 0, .int .i64 0, .int .i64 0, .int .i64 0, .int .i64 0, .int .i64 0, .int .i64 0, .int .i64 0, .int .i64 0, .int .i64 0, .int .i64 0, .int .i64 0] 29))) hb; have K10 : Aside0 (w5.heap[wr.heap.size]? = some (.cells #[.int .i64 0, .int .i64 0, .int .i64 0, .int .i64 0, .int .i64 0, .int .i64 0, .int .i64 0, .int .i64 0, .int .i64 0, .int .i64 0, .int .i64 0, .int .i64 0, .int .i64 0, .int .i64 0, .int .i64 0] 29 (0, 0))) := ⟨K9⟩; clear K9; have z := cells15' _ _ _ _ _ _ _ _ _ _ _ _ _ _ _ K10; have f := blk_frozen K10.out; go_split_ands)); clear hb)))
  all_goals
    have K4' := Aside0.mk (blk_below K4.out HX.out)
    have K2' := Aside0.mk (blk_below K2.out HX.out)
    have HB' := Aside0.mk (below_step HB.out HX.out)
    have c' := cells15' _ _ _ _ _ _ _ _ _ _ _ _ _ _ _ K4'
    have f' := blk_frozen K4'.out
    have n1 := blk_lt K4'.out
    have n2 : g4 ≠ w5.heap.size := Nat.ne_of_lt n1
    have n3 : w5.heap.size ≠ g4 := Ne.symm n2
    have n4 : g4 ≠ wr.heap.size := Nat.ne_of_lt (blk_lt K4.out)
    have n5 : wr.heap.size ≠ g4 := Ne.symm n4
    have n6 := Aside0.mk (show g2 ≠ wr.heap.size from Nat.ne_of_lt (blk_lt K2.out))
    go_split_ands
    go_wp2_with fail
    obtain ⟨HO', s0, s1, s2, s3, s4⟩ := HM.out
    have hg : w.heap.size ≤ g4 := by have := HG.out; have := HG3.out; omega
    have hg' : w.heap.size ≤ wr.heap.size := HB.out.size
    refine HY.out _ _ _ _ _ _ _ _ _ _ _ _ _ _ _ _ _ _ _ _ _ _ _ _ _ _ _ _ _ _ _ _ _ _ _ _ _ _ _ _ _ _ _ _ _ _ _ _ _ _ _ _ _ _ _ _ _ _ _ _ _ _ _ _ _ _ _ _ _ _ _ _ _ _ _ _ _ _ _ _ _ _ _ _ _ _ _ _ _ _ _ _ _ _ _ _ _ _ _ _ ⟨HO'⟩ ⟨?_⟩ ⟨?_⟩ ⟨?_⟩
    · first
      | (with_reducible exact blk_alloc (far15 K2'.out (Nat.ne_of_lt HG.out)) _)
      | (with_reducible exact far15 (far15 K2'.out n6.out) (Nat.ne_of_lt HG.out))
    · rw [s0, s1, s2, s3, s4]
      first
      | (with_reducible exact blk_alloc (blk15 K4'.out) _)
      | (with_reducible exact blk15 (far15 K4'.out n4))
    · first
      | (with_reducible exact below_alloc (below15 HB'.out hg) _)
      | (with_reducible exact below15 (below15 HB'.out hg') hg)

end Go.Proofs.Ytcmbogdilplmlaa.P
