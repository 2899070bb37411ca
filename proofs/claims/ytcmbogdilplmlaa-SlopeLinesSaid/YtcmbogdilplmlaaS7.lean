import Derived.Test.YtcmbogdilplmlaaS6
namespace Go.Proofs.Ytcmbogdilplmlaa.P
open Go.RowKit Go.Proofs.YtcmbogdilplmlaaW.PrintWords Go.Proofs.YtcmbogdilplmlaaW.PrintLast Go.Proofs.YtcmbogdilplmlaaW.PrintMore Go.Proofs.YtcmbogdilplmlaaX
attribute [local go_sem] max2_int min2_int max_two min_two max_three min_three max_four min_four
set_option linter.unusedVariables false
set_option linter.unusedSimpArgs false
def I2 (A0 : Option Addr) (c0 : Nat) (l0 : List S36) (w : World) (g2 g4 : Nat) (a : Act) (w' : World) : Prop := ∃ (f : Nat → Value) (j : Int), a = ⟨#[.slice A0 l0.length c0, f 1, .pointer (some ⟨g2, 0, none⟩), f 3, .pointer (some ⟨g4, 0, none⟩), .int .i64 0, f 6, f 7, f 8, .int .i64 j, f 10, f 11, f 12, f 13, f 14, f 15, f 16, f 17, f 18, f 19, f 20, f 21, f 22, f 23, f 24, f 25, f 26, f 27, f 28, f 29, f 30, f 31, f 32, f 33, f 34, f 35, f 36, f 37, f 38, f 39, f 40, f 41, f 42, f 43, f 44, f 45, f 46, f 47, f 48, f 49, f 50, f 51, f 52, f 53, f 54, f 55, f 56, f 57, f 58, f 59, f 60, f 61, f 62, f 63, f 64, f 65, f 66, f 67, f 68, f 69, f 70, f 71, f 72, f 73, f 74, f 75, f 76, f 77, f 78, f 79, f 80, f 81, f 82, f 83, f 84, f 85, f 86, f 87, f 88, f 89, f 90, f 91, f 92, f 93, f 94, f 95, f 96, f 97, f 98, f 99, f 100, f 101, f 102, f 103], []⟩ ∧ Aside0 (0 ≤ j ∧ j ≤ (l0.length : Int)) ∧ Aside0 (∀ x ∈ l0.take j.toNat, okS x) ∧ Aside0 (w'.heap[g2]? = some (.cells #[.int .i64 0, .int .i64 0, .int .i64 0, .int .i64 0, .int .i64 0, .int .i64 0, .int .i64 0, .int .i64 0, .int .i64 0, .int .i64 0, .int .i64 0, .int .i64 0, .int .i64 0, .int .i64 0, .int .i64 0] 29 (0, 0))) ∧ Aside0 (w'.heap[g4]? = some (.cells #[.int .i64 0, .int .i64 0, .int .i64 (-1), .int .i64 (l0.length : Int), .int .i64 j, .int .i64 0, .int .i64 (l0.length : Int), .int .i64 j, .int .i64 0, .int .i64 j, .int .i64 (sm S36.f0 (l0.take j.toNat)), .int .i64 (sm S36.f1 (l0.take j.toNat)), .int .i64 (sm (fun x => x.f0 * x.f0) (l0.take j.toNat)), .int .i64 (sm (fun x => x.f0 * x.f1) (l0.take j.toNat)), .int .i64 (sm (fun x => x.f1 * x.f1) (l0.take j.toNat))] 29 (0, 0))) ∧ Aside0 (Below w.heap.size w w')
def mu2 (l0 : List S36) (a : Act) (_ : World) : Nat := ((l0.length : Int) - intOf (a.tmps.getD 9 undef)).toNat
set_option maxHeartbeats 4000000 in
set_option maxRecDepth 100000 in
theorem I2_mk (A0 : Option Addr) (c0 : Nat) (l0 : List S36) (w : World) (g2 g4 : Nat) (j : Int) (w' : World) (y1 y3 y6 y7 y8 y10 y11 y12 y13 y14 y15 y16 y17 y18 y19 y20 y21 y22 y23 y24 y25 y26 y27 y28 y29 y30 y31 y32 y33 y34 y35 y36 y37 y38 y39 y40 y41 y42 y43 y44 y45 y46 y47 y48 y49 y50 y51 y52 y53 y54 y55 y56 y57 y58 y59 y60 y61 y62 y63 y64 y65 y66 y67 y68 y69 y70 y71 y72 y73 y74 y75 y76 y77 y78 y79 y80 y81 y82 y83 y84 y85 y86 y87 y88 y89 y90 y91 y92 y93 y94 y95 y96 y97 y98 y99 y100 y101 y102 y103 : Value) (h : 0 ≤ j ∧ j ≤ (l0.length : Int)) (h1 : Aside0 (∀ x ∈ l0.take j.toNat, okS x) ∧ Aside0 (w'.heap[g2]? = some (.cells #[.int .i64 0, .int .i64 0, .int .i64 0, .int .i64 0, .int .i64 0, .int .i64 0, .int .i64 0, .int .i64 0, .int .i64 0, .int .i64 0, .int .i64 0, .int .i64 0, .int .i64 0, .int .i64 0, .int .i64 0] 29 (0, 0))) ∧ Aside0 (w'.heap[g4]? = some (.cells #[.int .i64 0, .int .i64 0, .int .i64 (-1), .int .i64 (l0.length : Int), .int .i64 j, .int .i64 0, .int .i64 (l0.length : Int), .int .i64 j, .int .i64 0, .int .i64 j, .int .i64 (sm S36.f0 (l0.take j.toNat)), .int .i64 (sm S36.f1 (l0.take j.toNat)), .int .i64 (sm (fun x => x.f0 * x.f0) (l0.take j.toNat)), .int .i64 (sm (fun x => x.f0 * x.f1) (l0.take j.toNat)), .int .i64 (sm (fun x => x.f1 * x.f1) (l0.take j.toNat))] 29 (0, 0))) ∧ Aside0 (Below w.heap.size w w')) : I2 A0 c0 l0 w g2 g4 ⟨#[.slice A0 l0.length c0, y1, .pointer (some ⟨g2, 0, none⟩), y3, .pointer (some ⟨g4, 0, none⟩), .int .i64 0, y6, y7, y8, .int .i64 j, y10, y11, y12, y13, y14, y15, y16, y17, y18, y19, y20, y21, y22, y23, y24, y25, y26, y27, y28, y29, y30, y31, y32, y33, y34, y35, y36, y37, y38, y39, y40, y41, y42, y43, y44, y45, y46, y47, y48, y49, y50, y51, y52, y53, y54, y55, y56, y57, y58, y59, y60, y61, y62, y63, y64, y65, y66, y67, y68, y69, y70, y71, y72, y73, y74, y75, y76, y77, y78, y79, y80, y81, y82, y83, y84, y85, y86, y87, y88, y89, y90, y91, y92, y93, y94, y95, y96, y97, y98, y99, y100, y101, y102, y103], []⟩ w' :=
  ⟨fun k => (#[.slice A0 l0.length c0, y1, .pointer (some ⟨g2, 0, none⟩), y3, .pointer (some ⟨g4, 0, none⟩), .int .i64 0, y6, y7, y8, .int .i64 j, y10, y11, y12, y13, y14, y15, y16, y17, y18, y19, y20, y21, y22, y23, y24, y25, y26, y27, y28, y29, y30, y31, y32, y33, y34, y35, y36, y37, y38, y39, y40, y41, y42, y43, y44, y45, y46, y47, y48, y49, y50, y51, y52, y53, y54, y55, y56, y57, y58, y59, y60, y61, y62, y63, y64, y65, y66, y67, y68, y69, y70, y71, y72, y73, y74, y75, y76, y77, y78, y79, y80, y81, y82, y83, y84, y85, y86, y87, y88, y89, y90, y91, y92, y93, y94, y95, y96, y97, y98, y99, y100, y101, y102, y103] : Array Value).getD k undef, j, rfl, ⟨h⟩, h1⟩
set_option maxHeartbeats 4000000 in
set_option maxRecDepth 100000 in
theorem loop2 (A0 : Option Addr) (c0 : Nat) (l0 : List S36) (w wr : World) (g2 g4 : Nat) (a : Act) (K : Act → World → Prop) (HR0 : Aside0 (Kd.C k36 w A0 l0.length l0)) (HL : Aside0 (l0.length ≤ 100)) (HG : Aside0 (g2 < g4)) (HG3 : Aside0 (w.heap.size = g2)) (hI : I2 A0 c0 l0 w g2 g4 a wr)
    (hx : ∀ (y1 y3 y6 y7 y8 y10 y11 y12 y13 y14 y15 y16 y17 y18 y19 y20 y21 y22 y23 y24 y25 y26 y27 y28 y29 y30 y31 y32 y33 y34 y35 y36 y37 y38 y39 y40 y41 y42 y43 y44 y45 y46 y47 y48 y49 y50 y51 y52 y53 y54 y55 y56 y57 y58 y59 y60 y61 y62 y63 y64 y65 y66 y67 y68 y69 y70 y71 y72 y73 y74 y75 y76 y77 y78 y79 y80 y81 y82 y83 y84 y85 y86 y87 y88 y89 y90 y91 y92 y93 y94 y95 y96 y97 y98 y99 y100 y101 y102 y103 y9 : Value) (w2 : World), Aside0 (∀ x ∈ l0, okS x) ∧ Aside0 (w2.heap[g2]? = some (.cells #[.int .i64 0, .int .i64 0, .int .i64 0, .int .i64 0, .int .i64 0, .int .i64 0, .int .i64 0, .int .i64 0, .int .i64 0, .int .i64 0, .int .i64 0, .int .i64 0, .int .i64 0, .int .i64 0, .int .i64 0] 29 (0, 0))) ∧ Aside0 (w2.heap[g4]? = some (.cells #[.int .i64 0, .int .i64 0, .int .i64 (-1), .int .i64 (l0.length : Int), .int .i64 (l0.length : Int), .int .i64 0, .int .i64 (l0.length : Int), .int .i64 (l0.length : Int), .int .i64 0, .int .i64 (l0.length : Int), .int .i64 (sm S36.f0 (l0)), .int .i64 (sm S36.f1 (l0)), .int .i64 (sm (fun x => x.f0 * x.f0) (l0)), .int .i64 (sm (fun x => x.f0 * x.f1) (l0)), .int .i64 (sm (fun x => x.f1 * x.f1) (l0))] 29 (0, 0))) ∧ Aside0 (Below w.heap.size w w2) → K ⟨#[.slice A0 l0.length c0, y1, .pointer (some ⟨g2, 0, none⟩), y3, .pointer (some ⟨g4, 0, none⟩), .int .i64 0, y6, y7, y8, y9, y10, y11, y12, y13, y14, y15, y16, y17, y18, y19, y20, y21, y22, y23, y24, y25, y26, y27, y28, y29, y30, y31, y32, y33, y34, y35, y36, y37, y38, y39, y40, y41, y42, y43, y44, y45, y46, y47, y48, y49, y50, y51, y52, y53, y54, y55, y56, y57, y58, y59, y60, y61, y62, y63, y64, y65, y66, y67, y68, y69, y70, y71, y72, y73, y74, y75, y76, y77, y78, y79, y80, y81, y82, y83, y84, y85, y86, y87, y88, y89, y90, y91, y92, y93, y94, y95, y96, y97, y98, y99, y100, y101, y102, y103], []⟩ w2) :
    Code.wp Try.prog (.loop body2) (Exit.inBlock 2 (Exit.then K (bodyPost Try.prog Try.f18 (fun e w' => SampPost l0 e ∧ Below w.heap.size w w')))) a wr := by
  refine wp_loop (I2 A0 c0 l0 w g2 g4) (mu2 l0) hI ?_
  rintro a w' ⟨f, j, rfl, hj, HO, K2, K4, HB⟩
  by_cases hi : j < l0.length
  · by_cases b : okS (rd_T36 l0 j)
    · refine round_good A0 c0 l0 w w' g2 g4 j _ K (f 1) (f 3) (f 6) (f 7) (f 8) (f 10) (f 11) (f 12) (f 13) (f 14) (f 15) (f 16) (f 17) (f 18) (f 19) (f 20) (f 21) (f 22) (f 23) (f 24) (f 25) (f 26) (f 27) (f 28) (f 29) (f 30) (f 31) (f 32) (f 33) (f 34) (f 35) (f 36) (f 37) (f 38) (f 39) (f 40) (f 41) (f 42) (f 43) (f 44) (f 45) (f 46) (f 47) (f 48) (f 49) (f 50) (f 51) (f 52) (f 53) (f 54) (f 55) (f 56) (f 57) (f 58) (f 59) (f 60) (f 61) (f 62) (f 63) (f 64) (f 65) (f 66) (f 67) (f 68) (f 69) (f 70) (f 71) (f 72) (f 73) (f 74) (f 75) (f 76) (f 77) (f 78) (f 79) (f 80) (f 81) (f 82) (f 83) (f 84) (f 85) (f 86) (f 87) (f 88) (f 89) (f 90) (f 91) (f 92) (f 93) (f 94) (f 95) (f 96) (f 97) (f 98) (f 99) (f 100) (f 101) (f 102) (f 103) HR0 HL HG HG3 ⟨hj.out.1⟩ HO K2 K4 HB hi b ?_
      intro y1 y3 y6 y7 y8 y10 y11 y12 y13 y14 y15 y16 y17 y18 y19 y20 y21 y22 y23 y24 y25 y26 y27 y28 y29 y30 y31 y32 y33 y34 y35 y36 y37 y38 y39 y40 y41 y42 y43 y44 y45 y46 y47 y48 y49 y50 y51 y52 y53 y54 y55 y56 y57 y58 y59 y60 y61 y62 y63 y64 y65 y66 y67 y68 y69 y70 y71 y72 y73 y74 y75 y76 y77 y78 y79 y80 y81 y82 y83 y84 y85 y86 y87 y88 y89 y90 y91 y92 y93 y94 y95 y96 y97 y98 y99 y100 y101 y102 y103 w2 h1 h2 h3 h4
      refine ⟨I2_mk A0 c0 l0 w g2 g4 (j + 1) w2 y1 y3 y6 y7 y8 y10 y11 y12 y13 y14 y15 y16 y17 y18 y19 y20 y21 y22 y23 y24 y25 y26 y27 y28 y29 y30 y31 y32 y33 y34 y35 y36 y37 y38 y39 y40 y41 y42 y43 y44 y45 y46 y47 y48 y49 y50 y51 y52 y53 y54 y55 y56 y57 y58 y59 y60 y61 y62 y63 y64 y65 y66 y67 y68 y69 y70 y71 y72 y73 y74 y75 y76 y77 y78 y79 y80 y81 y82 y83 y84 y85 y86 y87 y88 y89 y90 y91 y92 y93 y94 y95 y96 y97 y98 y99 y100 y101 y102 y103 (by have := hj.out; omega) ⟨h1, h2, h3, h4⟩, ?_⟩
      show ((l0.length : Int) - (j + 1)).toNat < ((l0.length : Int) - j).toNat
      omega
    · exact round_bad A0 c0 l0 w w' g2 g4 j _ K (f 1) (f 3) (f 6) (f 7) (f 8) (f 10) (f 11) (f 12) (f 13) (f 14) (f 15) (f 16) (f 17) (f 18) (f 19) (f 20) (f 21) (f 22) (f 23) (f 24) (f 25) (f 26) (f 27) (f 28) (f 29) (f 30) (f 31) (f 32) (f 33) (f 34) (f 35) (f 36) (f 37) (f 38) (f 39) (f 40) (f 41) (f 42) (f 43) (f 44) (f 45) (f 46) (f 47) (f 48) (f 49) (f 50) (f 51) (f 52) (f 53) (f 54) (f 55) (f 56) (f 57) (f 58) (f 59) (f 60) (f 61) (f 62) (f 63) (f 64) (f 65) (f 66) (f 67) (f 68) (f 69) (f 70) (f 71) (f 72) (f 73) (f 74) (f 75) (f 76) (f 77) (f 78) (f 79) (f 80) (f 81) (f 82) (f 83) (f 84) (f 85) (f 86) (f 87) (f 88) (f 89) (f 90) (f 91) (f 92) (f 93) (f 94) (f 95) (f 96) (f 97) (f 98) (f 99) (f 100) (f 101) (f 102) (f 103) HR0 HL HG HG3 ⟨hj.out.1⟩ HO K2 K4 HB hi b
  · refine round_exit A0 c0 l0 w w' g2 g4 j _ K (f 1) (f 3) (f 6) (f 7) (f 8) (f 10) (f 11) (f 12) (f 13) (f 14) (f 15) (f 16) (f 17) (f 18) (f 19) (f 20) (f 21) (f 22) (f 23) (f 24) (f 25) (f 26) (f 27) (f 28) (f 29) (f 30) (f 31) (f 32) (f 33) (f 34) (f 35) (f 36) (f 37) (f 38) (f 39) (f 40) (f 41) (f 42) (f 43) (f 44) (f 45) (f 46) (f 47) (f 48) (f 49) (f 50) (f 51) (f 52) (f 53) (f 54) (f 55) (f 56) (f 57) (f 58) (f 59) (f 60) (f 61) (f 62) (f 63) (f 64) (f 65) (f 66) (f 67) (f 68) (f 69) (f 70) (f 71) (f 72) (f 73) (f 74) (f 75) (f 76) (f 77) (f 78) (f 79) (f 80) (f 81) (f 82) (f 83) (f 84) (f 85) (f 86) (f 87) (f 88) (f 89) (f 90) (f 91) (f 92) (f 93) (f 94) (f 95) (f 96) (f 97) (f 98) (f 99) (f 100) (f 101) (f 102) (f 103) HR0 HL HG HG3 ⟨hj.out.1⟩ HO K2 K4 HB hi ?_
    intro y1 y3 y6 y7 y8 y10 y11 y12 y13 y14 y15 y16 y17 y18 y19 y20 y21 y22 y23 y24 y25 y26 y27 y28 y29 y30 y31 y32 y33 y34 y35 y36 y37 y38 y39 y40 y41 y42 y43 y44 y45 y46 y47 y48 y49 y50 y51 y52 y53 y54 y55 y56 y57 y58 y59 y60 y61 y62 y63 y64 y65 y66 y67 y68 y69 y70 y71 y72 y73 y74 y75 y76 y77 y78 y79 y80 y81 y82 y83 y84 y85 y86 y87 y88 y89 y90 y91 y92 y93 y94 y95 y96 y97 y98 y99 y100 y101 y102 y103
    have hi' : j = l0.length := by have := hj.out; omega
    have e : l0.take j.toNat = l0 := by rw [List.take_of_length_le]; omega
    rw [e] at HO
    rw [e, hi'] at K4
    exact hx _ _ _ _ _ _ _ _ _ _ _ _ _ _ _ _ _ _ _ _ _ _ _ _ _ _ _ _ _ _ _ _ _ _ _ _ _ _ _ _ _ _ _ _ _ _ _ _ _ _ _ _ _ _ _ _ _ _ _ _ _ _ _ _ _ _ _ _ _ _ _ _ _ _ _ _ _ _ _ _ _ _ _ _ _ _ _ _ _ _ _ _ _ _ _ _ _ _ _ _ w' ⟨HO, K2, K4, HB⟩
set_option maxHeartbeats 3000000 in
set_option maxRecDepth 100000 in
theorem samp_any (A0 : Option Addr) (c0 : Nat) (l0 : List S36) (w : World) (hr0 : Kd.C k36 w A0 l0.length l0) (hc0 : l0.length ≤ c0) (hl : l0.length ≤ 100) :
    Calls Try.prog 18 #[.slice A0 l0.length c0] w fun e w' => SampPost l0 e ∧ Below w.heap.size w w' := by
  have HR0 := Aside0.mk hr0
  have hl0 : decide (100 < (l0.length : Int)) = false := decide_eq_false (by omega)
  have hl1 : decide (100 < l0.length) = false := decide_eq_false (by omega)
  have HL := Aside0.mk hl
  clear hr0 hl hc0
  go_enter Try.func18, Try.ntmps18
  go_wp2_with (go_at_call 34; (with_reducible refine (open_zero _).mono ?_); rintro e w1 ⟨rfl, hb⟩)
  have K2 := Aside0.mk (blk_alloc (blk_below (blk_new w _) hb) (.cells #[.int .i64 0, .int .i64 0, .int .i64 (-1), .int .i64 0, .int .i64 0, .int .i64 0, .int .i64 0, .int .i64 0, .int .i64 0, .int .i64 0, .int .i64 0, .int .i64 0, .int .i64 0, .int .i64 0, .int .i64 0] 29))
  have K4 := Aside0.mk (blk_new w1 (.cells #[.int .i64 0, .int .i64 0, .int .i64 (-1), .int .i64 0, .int .i64 0, .int .i64 0, .int .i64 0, .int .i64 0, .int .i64 0, .int .i64 0, .int .i64 0, .int .i64 0, .int .i64 0, .int .i64 0, .int .i64 0] 29))
  have HB := Aside0.mk (below_alloc (below_step (below_alloc (Below.refl w.heap.size w) _) hb) (.cells #[.int .i64 0, .int .i64 0, .int .i64 (-1), .int .i64 0, .int .i64 0, .int .i64 0, .int .i64 0, .int .i64 0, .int .i64 0, .int .i64 0, .int .i64 0, .int .i64 0, .int .i64 0, .int .i64 0, .int .i64 0] 29))
  have HG : Aside0 (w.heap.size < w1.heap.size) := ⟨by have := hb.size; simp at this; omega⟩
  have HG2 : Aside0 (w.heap.size ≤ w.heap.size) := ⟨Nat.le_refl _⟩
  clear hb
  generalize w1.alloc (.cells #[.int .i64 0, .int .i64 0, .int .i64 (-1), .int .i64 0, .int .i64 0, .int .i64 0, .int .i64 0, .int .i64 0, .int .i64 0, .int .i64 0, .int .i64 0, .int .i64 0, .int .i64 0, .int .i64 0, .int .i64 0] 29) = w2 at K2 K4 HB ⊢
  generalize w1.heap.size = g4 at K4 HG ⊢
  generalize hg2 : w.heap.size = g2 at K2 HG HG2 ⊢
  rw [hg2] at HB
  have HG3 := Aside0.mk hg2
  clear hg2
  go_loopg [5, 6] l0.length (fun kq v5 v6 w' => ∃ i : Int, v5 = .int .i64 0 ∧ v6 = .int .i64 i ∧ Aside0 (0 ≤ i ∧ i + kq = l0.length) ∧ Aside0 (w'.heap[g2]? = some (.cells #[.int .i64 0, .int .i64 0, .int .i64 0, .int .i64 0, .int .i64 0, .int .i64 0, .int .i64 0, .int .i64 0, .int .i64 0, .int .i64 0, .int .i64 0, .int .i64 0, .int .i64 0, .int .i64 0, .int .i64 0] 29 (0, 0))) ∧ Aside0 (w'.heap[g4]? = some (.cells #[.int .i64 0, .int .i64 0, .int .i64 (-1), .int .i64 i, .int .i64 0, .int .i64 0, .int .i64 i, .int .i64 0, .int .i64 0, .int .i64 0, .int .i64 0, .int .i64 0, .int .i64 0, .int .i64 0, .int .i64 0] 29 (0, 0))) ∧ Aside0 (Below w.heap.size w w'))
  case atStart => exact ⟨0, rfl, rfl, ⟨by simp⟩, K2, K4, ⟨by rw [HG3.out]; exact HB.out⟩⟩
  case round =>
    clear K2 K4 HB
    obtain ⟨i, rfl, rfl, HI, K2, K4, HB⟩ := hrel
    have HI0 := HI.out.1
    by_cases hi : i < l0.length
    · cases gk with
      | zero => exact absurd HI.out (by omega)
      | succ k1 =>
        have t1 : decide (i < (l0.length : Int)) = true := decide_eq_true hi
        have t3 : (i == 1048576) = false := by rw [beq_eq_false_iff_ne]; have := HL.out; omega
        have t5 : i ≤ 100 := by have := HL.out; omega
        have HR := Aside0.mk (right1 i (by omega) (by omega))
        clear hi
        have c := cells15' _ _ _ _ _ _ _ _ _ _ _ _ _ _ _ K4
        go_split_ands
        go_wp2_with (go_at_call 35; refine (send_ok 0 0 (-1) i 0 0 i 0 0 0 0 0 0 0 0 _ HR.out (by decide) t3 (by omega) (by omega) (by omega) (by omega)).mono ?_; rintro e w5 ⟨rfl, hb⟩; have K4' := Aside0.mk (blk_below K4.out hb); have K2' := Aside0.mk (blk_below K2.out hb); have HB' := Aside0.mk (below_step HB.out hb); clear hb; have c' := cells15' _ _ _ _ _ _ _ _ _ _ _ _ _ _ _ K4'; have f' := blk_frozen K4'.out; have n1 := blk_lt K4'.out; have n2 : g4 ≠ w5.heap.size := Nat.ne_of_lt n1; have n3 : w5.heap.size ≠ g4 := Ne.symm n2; go_split_ands)
        go_roundg k1
        case measure => have := HI.out; omega
        case rel =>
          refine ⟨i + 1, rfl, rfl, ⟨by have := HI.out; omega⟩, ⟨?_⟩, ⟨?_⟩, ⟨?_⟩⟩
          · with_reducible exact blk_alloc (far15 K2'.out (Nat.ne_of_lt HG.out)) _
          · with_reducible exact blk_alloc (blk15 K4'.out) _
          · have hg : w.heap.size ≤ g4 := by have := HG.out; have := HG3.out; omega
            with_reducible exact below_alloc (below15 HB'.out hg) _
    · have hi' : i = l0.length := by have := HI.out; omega
      have HI' := Aside0.mk hi'
      have t1 : decide (i < (l0.length : Int)) = false := decide_eq_false hi
      clear hi hi'
      go_wp2_with fail
      rw [HI'.out] at K4
      refine loop2 A0 c0 l0 w _ g2 g4 _ _ HR0 HL HG HG3 (I2_mk A0 c0 l0 w g2 g4 0 _ _ _ _ _ _ _ _ _ _ _ _ _ _ _ _ _ _ _ _ _ _ _ _ _ _ _ _ _ _ _ _ _ _ _ _ _ _ _ _ _ _ _ _ _ _ _ _ _ _ _ _ _ _ _ _ _ _ _ _ _ _ _ _ _ _ _ _ _ _ _ _ _ _ _ _ _ _ _ _ _ _ _ _ _ _ _ _ _ _ _ _ _ _ _ _ _ _ _ _ (by simp) ⟨⟨by simp⟩, K2, K4, HB⟩) ?_
      intro y1 y3 y6 y7 y8 y10 y11 y12 y13 y14 y15 y16 y17 y18 y19 y20 y21 y22 y23 y24 y25 y26 y27 y28 y29 y30 y31 y32 y33 y34 y35 y36 y37 y38 y39 y40 y41 y42 y43 y44 y45 y46 y47 y48 y49 y50 y51 y52 y53 y54 y55 y56 y57 y58 y59 y60 y61 y62 y63 y64 y65 y66 y67 y68 y69 y70 y71 y72 y73 y74 y75 y76 y77 y78 y79 y80 y81 y82 y83 y84 y85 y86 y87 y88 y89 y90 y91 y92 y93 y94 y95 y96 y97 y98 y99 y100 y101 y102 y103 y9 w3 ⟨HE, K2', K4', HB'⟩
      have c := cells15' _ _ _ _ _ _ _ _ _ _ _ _ _ _ _ K4'
      have z := cells15' _ _ _ _ _ _ _ _ _ _ _ _ _ _ _ K2'
      have f := blk_frozen K2'.out
      go_split_ands
      go_wp2_with fail
      have hg : w.heap.size ≤ g2 := by have := HG3.out; omega
      refine bodyPost_ret (results_ct rfl _ _ g2 29 _ (0, 0) _ rfl (blk15 K2'.out) Try.underlying29 rfl (by kernel_rfl)) rfl ⟨?_, ?_⟩
      · simp only [Array.getD_eq_getD_getElem?]
        exact .inl ⟨HE.out, rfl⟩
      · with_reducible exact below15 HB'.out hg

end Go.Proofs.Ytcmbogdilplmlaa.P
