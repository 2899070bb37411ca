import Derived.Test.YtcmbogdilplmlaaS8
import Derived.Test.YtcmbogdilplmlaaTh
namespace Go.Proofs.Ytcmbogdilplmlaa.P
open Go.RowKit Go.Proofs.YtcmbogdilplmlaaW.PrintWords Go.Proofs.YtcmbogdilplmlaaW.PrintLast Go.Proofs.YtcmbogdilplmlaaW.PrintMore Go.Proofs.YtcmbogdilplmlaaX
attribute [local go_sem] max2_int min2_int max_two min_two max_three min_three max_four min_four
set_option linter.unusedVariables false
set_option linter.unusedSimpArgs false
open Go.Proofs.Th

theorem bits_Mul64_eq {x y : Int} (x0 : 0 ≤ x) (x1 : x < 18446744073709551616) (y0 : 0 ≤ y) (y1 : y < 18446744073709551616) :
    bits_Mul64.f x y = some (x * y / 18446744073709551616, x * y % 18446744073709551616) := by
  unfold bits_Mul64.f
  rw [mul_hi x y x0 x1 y0 y1, u64_wrap]
theorem wide_Mul_eq {x y : Int} (x0 : 0 ≤ x) (x1 : x < 18446744073709551616) (y0 : 0 ≤ y) (y1 : y < 18446744073709551616) :
    wide_Mul.f x y = some (hi64 (x * y), lo64 (x * y)) := by
  unfold wide_Mul.f
  rw [bits_Mul64_eq x0 x1 y0 y1]; rfl

theorem wide_Add_eq {h l h' l' : Int} (a0 : 0 ≤ h) (a1 : h < 18446744073709551616) (b0 : 0 ≤ l) (b1 : l < 18446744073709551616) (c0 : 0 ≤ h') (c1 : h' < 18446744073709551616) (d0 : 0 ≤ l') (d1 : l' < 18446744073709551616) :
    wide_Add.f h l h' l' = some (hi64 ((W h l + W h' l') % 340282366920938463463374607431768211456), lo64 ((W h l + W h' l') % 340282366920938463463374607431768211456), (W h l + W h' l') / 340282366920938463463374607431768211456) := by
  unfold wide_Add.f bits_Add64.f
  rw [if_pos (by omega)]
  simp only [Option.bind_some]
  rw [if_pos (by omega)]
  simp only [Option.bind_some, Option.some.injEq, Prod.mk.injEq]
  unfold W hi64 lo64
  refine ⟨?_, ?_, ?_⟩ <;> omega

theorem wide_Sub_eq {h l h' l' : Int} (a0 : 0 ≤ h) (a1 : h < 18446744073709551616) (b0 : 0 ≤ l) (b1 : l < 18446744073709551616) (c0 : 0 ≤ h') (c1 : h' < 18446744073709551616) (d0 : 0 ≤ l') (d1 : l' < 18446744073709551616) :
    wide_Sub.f h l h' l' = some (hi64 ((W h l - W h' l') % 340282366920938463463374607431768211456), lo64 ((W h l - W h' l') % 340282366920938463463374607431768211456), if W h l < W h' l' then 1 else 0) := by
  unfold wide_Sub.f bits_Sub64.f
  rw [if_pos (by omega)]
  simp only [Option.bind_some]
  rw [if_pos (by split <;> omega)]
  simp only [Option.bind_some, Option.some.injEq, Prod.mk.injEq]
  unfold W hi64 lo64
  refine ⟨?_, ?_, ?_⟩
  · split <;> omega
  · omega
  · split <;> split <;> split <;> omega

theorem wide_Cmp_eq {h l h' l' : Int} (b0 : 0 ≤ l) (b1 : l < 18446744073709551616) (d0 : 0 ≤ l') (d1 : l' < 18446744073709551616) :
    wide_Cmp.f h l h' l' = some (if W h l < W h' l' then -1 else if W h' l' < W h l then 1 else 0) := by
  unfold wide_Cmp.f W
  congr 1
  repeat' split
  all_goals omega

theorem bt_len8 : ∀ n : Fin 256, bt Lib.len8tab (n.val : Int) = (Lib.bitLen n.val : Int) := by decide +kernel
theorem bt_len {i : Int} (h0 : 0 ≤ i) (h1 : i < 256) : bt Lib.len8tab i = (Lib.bitLen i.toNat : Int) := by
  have := bt_len8 ⟨i.toNat, by omega⟩
  simpa [Int.toNat_of_nonneg h0] using this
theorem bt_len_le {i : Int} (h0 : 0 ≤ i) (h1 : i < 256) : Lib.bitLen i.toNat ≤ 8 := Lib.bitLen_le8 ⟨i.toNat, by omega⟩

theorem bits_Len64_low {x c : Int} (k : Nat) (hk : 1 ≤ k) (c0 : 0 ≤ c) (c1 : c ≤ 32) (x0 : 0 ≤ x) (x1 : x < 4294967296) : bits_Len64.j0 k x c = some (c + (Lib.bitLen x.toNat : Int)) := by
  obtain ⟨k, rfl⟩ : ∃ m, k = m + 1 := ⟨k - 1, by omega⟩
  have key : ∀ (i d : Int), 0 ≤ i → i < 256 → 0 ≤ d → d ≤ 64 → wrap64 (d + wrap64 (bt Lib.len8tab i)) = d + (Lib.bitLen i.toNat : Int) := by
    intro i d i0 i1 d0 d1
    have := bt_len_le i0 i1
    rw [bt_len i0 i1, wrap64_id (x := (Lib.bitLen i.toNat : Int)) (by omega) (by omega), wrap64_id (by omega) (by omega)]
  by_cases h16 : x ≥ 65536
  · by_cases h24 : x / 65536 ≥ 256
    · have e : bits_Len64.j0 (k + 1) x c = some (wrap64 (wrap64 (wrap64 (c + 16) + 8) + wrap64 (bt Lib.len8tab (x / 65536 / 256 % 256)))) := by
        show (if x ≥ 65536 then _ else _) = _
        rw [if_pos h16, if_pos h24, if_pos (by omega), if_pos (by omega)]; rfl
      rw [e, wrap64_id (x := c + 16) (by omega) (by omega), wrap64_id (x := c + 16 + 8) (by omega) (by omega), key _ _ (by omega) (by omega) (by omega) (by omega)]
      have s := Lib.bitLen_shift24 x.toNat (by omega) (by omega)
      rw [show (x / 65536 / 256 % 256).toNat = x.toNat / 16777216 by omega]
      congr 1; omega
    · have e : bits_Len64.j0 (k + 1) x c = some (wrap64 (wrap64 (c + 16) + wrap64 (bt Lib.len8tab (x / 65536 % 256)))) := by
        show (if x ≥ 65536 then _ else _) = _
        rw [if_pos h16, if_neg h24, if_pos (by omega), if_pos (by omega)]; rfl
      rw [e, wrap64_id (x := c + 16) (by omega) (by omega), key _ _ (by omega) (by omega) (by omega) (by omega)]
      have s := Lib.bitLen_shift16 x.toNat (by omega) (by omega)
      rw [show (x / 65536 % 256).toNat = x.toNat / 65536 by omega]
      congr 1; omega
  · by_cases h8 : x ≥ 256
    · have e : bits_Len64.j0 (k + 1) x c = some (wrap64 (wrap64 (c + 8) + wrap64 (bt Lib.len8tab (x / 256 % 256)))) := by
        show (if x ≥ 65536 then _ else _) = _
        rw [if_neg h16, if_pos h8, if_pos (by omega), if_pos (by omega)]; rfl
      rw [e, wrap64_id (x := c + 8) (by omega) (by omega), key _ _ (by omega) (by omega) (by omega) (by omega)]
      have s := Lib.bitLen_shift8 x.toNat (by omega) (by omega)
      rw [show (x / 256 % 256).toNat = x.toNat / 256 by omega]
      congr 1; omega
    · have e : bits_Len64.j0 (k + 1) x c = some (wrap64 (c + wrap64 (bt Lib.len8tab (x % 256)))) := by
        show (if x ≥ 65536 then _ else _) = _
        rw [if_neg h16, if_neg h8, if_pos (by omega), if_pos (by omega)]; rfl
      rw [e, key _ _ (by omega) (by omega) (by omega) (by omega)]
      rw [show (x % 256).toNat = x.toNat by omega]

theorem bits_Len64_eq {x : Int} (k : Nat) (hk : 1 ≤ k) (x0 : 0 ≤ x) (x1 : x < 18446744073709551616) : bits_Len64.f k x = some (Lib.bitLen x.toNat : Int) := by
  unfold bits_Len64.f
  by_cases h : x ≥ 4294967296
  · rw [if_pos h, bits_Len64_low k hk (by omega) (by omega) (by omega) (by omega)]
    have s := Lib.bitLen_shift32 x.toNat (by omega) (by omega)
    rw [show (x / 4294967296).toNat = x.toNat / 4294967296 by omega]
    congr 1; omega
  · rw [if_neg h, bits_Len64_low k hk (by omega) (by omega) (by omega) (by omega)]
    congr 1; omega

theorem shl_u64 (x : Int) (n : Int) : shl .u64 x n = x * 2 ^ min n.toNat 64 % 18446744073709551616 := by unfold shl; rw [u64_wrap]; rfl
theorem shr_u64 (x : Int) (n : Int) : shr .u64 x n = x / 2 ^ min n.toNat 64 := rfl
theorem shl_lt64 {x n : Int} (h : n ≤ 64) : shl .u64 x n = x * 2 ^ n.toNat % 18446744073709551616 := by rw [shl_u64, Nat.min_eq_left (by omega)]
theorem shr_lt64 {x n : Int} (h : n ≤ 64) : shr .u64 x n = x / 2 ^ n.toNat := by rw [shr_u64, Nat.min_eq_left (by omega)]

theorem mod_mul_pow (x : Int) {n : Nat} (hn : n ≤ 64) : x * 2 ^ n % 18446744073709551616 = x % 2 ^ (64 - n) * 2 ^ n := by
  have e : (18446744073709551616 : Int) = 2 ^ (64 - n) * 2 ^ n := by rw [← Int.pow_add, Nat.sub_add_cancel hn]; rfl
  rw [e, Int.mul_comm x, Int.mul_comm (2 ^ (64 - n)), Int.mul_emod_mul_of_pos _ _ (two_pow_pos n), Int.mul_comm]


theorem wide_Len_eq {h l : Int} (k : Nat) (hk : 1 ≤ k) (a0 : 0 ≤ h) (a1 : h < 18446744073709551616) (b0 : 0 ≤ l) (b1 : l < 18446744073709551616) : wide_Len.f k h l = some (blen (W h l) : Int) := by
  unfold wide_Len.f
  by_cases hz : h = 0
  · rw [if_pos hz, bits_Len64_eq k hk b0 b1]
    subst hz
    simp only [Option.bind_some]
    rw [bitLen_is (by omega), Int.toNat_of_nonneg b0, show W 0 l = l by unfold W; omega]
  · rw [if_neg hz, bits_Len64_eq k hk a0 a1]
    simp only [Option.bind_some]
    rw [bitLen_is (by omega), Int.toNat_of_nonneg a0, blen_W (by omega) a1 b0 b1]
    have := blen_128 (v := h) a0 (by omega)
    rw [wrap64_id (by omega) (by omega)]
    congr 1

theorem wide_Right_neg {h l n : Int} (hn : n < 0) : wide_Right.f h l n = some (h, l) := by unfold wide_Right.f; rw [if_pos hn]

theorem wide_Right_eq {h l n : Int} (hn : 0 ≤ n) (hn1 : n ≤ 9223372036854775807) (a0 : 0 ≤ h) (a1 : h < 18446744073709551616) (b0 : 0 ≤ l) (b1 : l < 18446744073709551616) :
    wide_Right.f h l n = some (hi64 (W h l / 2 ^ n.toNat), lo64 (W h l / 2 ^ n.toNat)) := by
  unfold wide_Right.f
  rw [if_neg (by omega)]
  by_cases h64 : n ≥ 64
  · rw [if_pos h64, wrap64_id (by omega) (by omega), if_pos (by omega), shr_u64]
    have e1 : W h l / 2 ^ n.toNat = h / 2 ^ min (n - 64).toNat 64 := by
      rw [show n.toNat = 64 + (n - 64).toNat by omega, ediv_pow, show (2 : Int) ^ 64 = 18446744073709551616 from rfl]
      have : W h l / 18446744073709551616 = h := by unfold W; omega
      rw [this]
      by_cases h128 : n ≤ 128
      · rw [Nat.min_eq_left (by omega)]
      · rw [Nat.min_eq_right (by omega), show (n - 64).toNat = 64 + (n - 128).toNat by omega, ediv_pow, show (2 : Int) ^ 64 = 18446744073709551616 from rfl, show h / 18446744073709551616 = 0 by omega, Int.zero_ediv]
    rw [e1]
    have hp := two_pow_pos (min (n - 64).toNat 64)
    have q0 : 0 ≤ h / 2 ^ min (n - 64).toNat 64 := Int.ediv_nonneg a0 (Int.le_of_lt hp)
    have q1 : h / 2 ^ min (n - 64).toNat 64 ≤ h := Int.ediv_le_self _ a0
    generalize h / 2 ^ min (n - 64).toNat 64 = u at *
    unfold hi64 lo64
    congr 2 <;> omega
  · rw [if_neg h64, if_pos hn, wrap64_id (by omega) (by omega), if_pos (by omega), shr_lt64 (by omega), shr_lt64 (by omega), shl_lt64 (by omega)]
    obtain ⟨m, rfl⟩ := Int.eq_ofNat_of_zero_le hn
    rw [Int.toNat_natCast, show ((64 : Int) - (m : Int)).toNat = 64 - m by omega]
    have hm : m ≤ 64 := by omega
    have hp := two_pow_pos m
    have hq := two_pow_pos (64 - m)
    have e : (2 : Int) ^ (64 - m) * 2 ^ m = 18446744073709551616 := by rw [← Int.pow_add, Nat.sub_add_cancel hm]; rfl
    have hl : l / 2 ^ m < 2 ^ (64 - m) := Int.ediv_lt_of_lt_mul hp (by omega)
    have hl0 : 0 ≤ l / 2 ^ m := Int.ediv_nonneg b0 (Int.le_of_lt hp)
    have hqle : (2 : Int) ^ (64 - m) ≤ 18446744073709551616 := pow_le64 (by omega)
    have hx : h * 2 ^ (64 - m) % 18446744073709551616 = h % 2 ^ m * 2 ^ (64 - m) := by
      have := mod_mul_pow h (n := 64 - m) (by omega)
      rwa [show 64 - (64 - m) = m by omega] at this
    have hy0 : 0 ≤ h % 2 ^ m := Int.emod_nonneg _ (by omega)
    have hy1 : h % 2 ^ m ≤ 2 ^ m - 1 := by have := Int.emod_lt_of_pos h hp; omega
    have hz : h % 2 ^ m * 2 ^ (64 - m) ≤ 18446744073709551616 - 2 ^ (64 - m) := by
      have h2 := Int.mul_le_mul_of_nonneg_right hy1 (Int.le_of_lt hq)
      rw [Int.sub_mul, Int.mul_comm (2 ^ m), e, Int.one_mul] at h2
      exact h2
    have hz0 : 0 ≤ h % 2 ^ m * 2 ^ (64 - m) := Int.mul_nonneg hy0 (Int.le_of_lt hq)
    rw [hx, or_join' (64 - m) hz0 (Int.mul_emod_left _ _) (by omega) hl0 hl (by omega), W_shr hm a0 b0 b1]
    rw [hi_W (by omega) (by omega), lo_W (by omega) (by omega)]
open Go.Proofs.Th
theorem right_c {v n : Int} (h0 : 0 ≤ v) (h1 : v < 340282366920938463463374607431768211456) (n0 : 0 ≤ n) (n1 : n ≤ 200) (w : World) :
    Calls Try.prog 21 #[.agg #[.int .u64 (hi64 v), .int .u64 (lo64 v)], .int .i64 n] w fun e w' => e = .returned (.agg #[.int .u64 (hi64 (v / 2 ^ n.toNat)), .int .u64 (lo64 (v / 2 ^ n.toNat))]) ∧ Below w.heap.size w w' := by
  have e := wide_Right_eq n0 (by omega) (hi_nn h0) (hi_lt h1) (lo_nn v) (lo_lt v)
  rw [W_hl] at e
  exact wide_Right.calls _ _ _ _ _ w e
theorem add_c {v : Int} (h0 : 0 ≤ v) (h1 : v < 340282366920938463463374607431768211456) (w : World) :
    Calls Try.prog 22 #[.agg #[.int .u64 (hi64 v), .int .u64 (lo64 v)], .agg #[.int .u64 (hi64 v), .int .u64 (lo64 v)]] w fun e w' => e = .returned (.tuple #[.agg #[.int .u64 (hi64 ((v + v) % 340282366920938463463374607431768211456)), .int .u64 (lo64 ((v + v) % 340282366920938463463374607431768211456))], .int .u64 ((v + v) / 340282366920938463463374607431768211456)]) ∧ Below w.heap.size w w' := by
  have e := wide_Add_eq (hi_nn h0) (hi_lt h1) (lo_nn v) (lo_lt v) (hi_nn h0) (hi_lt h1) (lo_nn v) (lo_lt v)
  rw [W_hl] at e
  exact wide_Add.calls _ _ _ _ _ _ _ w e
theorem sub_c {u v : Int} (h0 : 0 ≤ u) (h1 : u < 340282366920938463463374607431768211456) (h2 : 0 ≤ v) (h3 : v < 340282366920938463463374607431768211456) (w : World) :
    Calls Try.prog 24 #[.agg #[.int .u64 (hi64 u), .int .u64 (lo64 u)], .agg #[.int .u64 (hi64 v), .int .u64 (lo64 v)]] w fun e w' => e = .returned (.tuple #[.agg #[.int .u64 (hi64 ((u - v) % 340282366920938463463374607431768211456)), .int .u64 (lo64 ((u - v) % 340282366920938463463374607431768211456))], .int .u64 (if u < v then 1 else 0)]) ∧ Below w.heap.size w w' := by
  have e := wide_Sub_eq (hi_nn h0) (hi_lt h1) (lo_nn u) (lo_lt u) (hi_nn h2) (hi_lt h3) (lo_nn v) (lo_lt v)
  rw [W_hl, W_hl] at e
  exact wide_Sub.calls _ _ _ _ _ _ _ w e
theorem cmp_c {u v : Int} (w : World) :
    Calls Try.prog 23 #[.agg #[.int .u64 (hi64 u), .int .u64 (lo64 u)], .agg #[.int .u64 (hi64 v), .int .u64 (lo64 v)]] w fun e w' => e = .returned (.int .i64 (if u < v then -1 else if v < u then 1 else 0)) ∧ Below w.heap.size w w' := by
  have e := wide_Cmp_eq (h := hi64 u) (l := lo64 u) (h' := hi64 v) (l' := lo64 v) (lo_nn u) (lo_lt u) (lo_nn v) (lo_lt v)
  rw [W_hl, W_hl] at e
  exact wide_Cmp.calls _ _ _ _ _ w e
theorem cmp_ge {u v : Int} (h : v ≤ u) (w : World) :
    Calls Try.prog 23 #[.agg #[.int .u64 (hi64 u), .int .u64 (lo64 u)], .agg #[.int .u64 (hi64 v), .int .u64 (lo64 v)]] w fun e w' => (∃ c : Int, e = .returned (.int .i64 c) ∧ decide (0 ≤ c) = true) ∧ Below w.heap.size w w' :=
  (cmp_c w).mono fun _ _ ⟨h1, h2⟩ => ⟨⟨_, h1, by rw [if_neg (by omega)]; split <;> rfl⟩, h2⟩
theorem cmp_lt {u v : Int} (h : u < v) (w : World) :
    Calls Try.prog 23 #[.agg #[.int .u64 (hi64 u), .int .u64 (lo64 u)], .agg #[.int .u64 (hi64 v), .int .u64 (lo64 v)]] w fun e w' => (∃ c : Int, e = .returned (.int .i64 c) ∧ decide (0 ≤ c) = false) ∧ Below w.heap.size w w' :=
  (cmp_c w).mono fun _ _ ⟨h1, h2⟩ => ⟨⟨_, h1, by rw [if_pos h]; rfl⟩, h2⟩
theorem len_c {v : Int} (h0 : 0 ≤ v) (h1 : v < 340282366920938463463374607431768211456) (w : World) :
    Calls Try.prog 20 #[.agg #[.int .u64 (hi64 v), .int .u64 (lo64 v)]] w fun e w' => e = .returned (.int .i64 (blen v : Int)) ∧ Below w.heap.size w w' := by
  have e := wide_Len_eq 1000 (by decide) (hi_nn h0) (hi_lt h1) (lo_nn v) (lo_lt v)
  rw [W_hl] at e
  exact wide_Len.calls _ _ _ _ w e
theorem cells2 {x y : Value} {T : TypeId} {w : World} {g : Nat} (h : Aside0 (w.heap[g]? = some (.cells #[x, y] T (0, 0)))) : w.cell? ⟨g, 0, none⟩ = some x ∧ w.cell? ⟨g, 1, none⟩ = some y :=
  ⟨(blk_cell h.out 0).trans rfl, (blk_cell h.out 1).trans rfl⟩
theorem put2 {x y a b : Value} {T : TypeId} {W : World} {g : Nat} (h : W.heap[g]? = some (.cells #[x, y] T (0, 0))) : ((W.setCell ⟨g, 0, none⟩ a).setCell ⟨g, 1, none⟩ b).heap[g]? = some (.cells #[a, b] T (0, 0)) :=
  blk_put (cs := #[a, y]) (blk_put h 0 a rfl) 1 b rfl
theorem far2 {cs : Array Value} {a b : Value} {T : TypeId} {W : World} {g g' : Nat} (h : W.heap[g']? = some (.cells cs T (0, 0))) (hn : g' ≠ g) : ((W.setCell ⟨g, 0, none⟩ a).setCell ⟨g, 1, none⟩ b).heap[g']? = some (.cells cs T (0, 0)) :=
  blk_far (blk_far h hn a) hn b
theorem below2 {a b : Value} {w W : World} {g : Nat} (h : Below w.heap.size w W) (hg : w.heap.size ≤ g) : Below w.heap.size w ((W.setCell ⟨g, 0, none⟩ a).setCell ⟨g, 1, none⟩ b) := below_set (below_set h hg) hg
theorem ratio_bit {A n : Int} (h0 : 0 ≤ A) : Go.bits .and .u64 (lo64 (A / 2 ^ n.toNat)) 1 = A / 2 ^ n.toNat % 2 := by
  have := and_mask (x := lo64 (A / 2 ^ n.toNat)) 1 (by decide) (lo_nn _) (lo_lt _)
  rw [show (2 : Int) ^ 1 - 1 = 1 from rfl] at this
  rw [this]
  unfold lo64
  show A / 2 ^ n.toNat % 18446744073709551616 % 2 = _
  omega
theorem right_n {A V t n : Int} (h0 : 0 ≤ A) (h1 : A < 340282366920938463463374607431768211456) (ht : t ≤ 148) (hV : A / 2 ^ (max (t - 21) 0).toNat = V) (hn : n = max (t - 21) 0) (w : World) :
    Calls Try.prog 21 #[.agg #[.int .u64 (hi64 A), .int .u64 (lo64 A)], .int .i64 n] w fun e w' => e = .returned (.agg #[.int .u64 (hi64 V), .int .u64 (lo64 V)]) ∧ Below w.heap.size w w' := by
  subst hV; subst hn
  exact right_c h0 h1 (by omega) (by omega) w
theorem and_one {V : Int} : Go.bits .and .u64 (lo64 V) 1 = V % 2 := by
  have := and_mask (x := lo64 V) 1 (by decide) (lo_nn _) (lo_lt _)
  rw [show (2 : Int) ^ 1 - 1 = 1 from rfl] at this
  rw [this]
  unfold lo64
  show V % 18446744073709551616 % 2 = _
  omega
theorem or_even {S b : Int} (hb : b = 0 ∨ b = 1) (hS : S % 2 = 0) : Go.bits .or .u64 (lo64 S) b = lo64 (S + b) ∧ hi64 S = hi64 (S + b) := by
  constructor
  · rw [or_join (x := lo64 S) (y := b) 1 (lo_nn _) (by unfold lo64; show S % 18446744073709551616 % 2 = 0; omega) (lo_lt _) (by omega) (by show b < 2; omega) (by omega)]
    unfold lo64; omega
  · unfold hi64; omega
theorem or_one {q : Int} (h0 : 0 ≤ q) (h1 : q < 4611686018427387904) : Go.bits .or .u64 (q * 2) 1 = q * 2 + 1 :=
  or_join (x := q * 2) (y := 1) 1 (by omega) (by show q * 2 % 2 = 0; omega) (by omega) (by decide) (by decide) (by decide)
open Go.Proofs.Th
theorem mul_c {x y : Int} (x0 : 0 ≤ x) (x1 : x < 18446744073709551616) (y0 : 0 ≤ y) (y1 : y < 18446744073709551616) (w : World) :
    Calls Try.prog 45 #[.int .u64 x, .int .u64 y] w fun e w' => e = .returned (.agg #[.int .u64 (hi64 (x * y)), .int .u64 (lo64 (x * y))]) ∧ Below w.heap.size w w' :=
  wide_Mul.calls _ _ _ _ w (wide_Mul_eq x0 x1 y0 y1)
set_option maxHeartbeats 4000000 in
set_option maxRecDepth 100000 in
theorem prod_c {x y : Int} (x0 : 0 ≤ x) (x1 : x < 9223372036854775808) (y0 : 0 ≤ y) (y1 : y < 9223372036854775808) (w : World) :
    Calls Try.prog 44 #[.int .i64 x, .int .i64 y] w fun e w' => e = .returned (.agg #[.int .u64 (hi64 (x * y)), .int .u64 (lo64 (x * y))]) ∧ Below w.heap.size w w' := by
  have e1 : IntKind.u64.wrap x = x := u64_id x0 (by omega)
  have e2 : IntKind.u64.wrap y = y := u64_id y0 (by omega)
  have MC := fun X => mul_c x0 (by omega) y0 (by omega) X
  go_enter Try.func44, Try.ntmps44
  go_wp2_with fail
  have K := Aside0.mk (blk_new w (.cells #[.int .u64 0, .int .u64 0] 24))
  have HB := Aside0.mk (below_alloc (Below.refl w.heap.size w) (.cells #[.int .u64 0, .int .u64 0] 24))
  refine (MC _).mono ?_
  rintro e w1 ⟨rfl, hb⟩
  have K1 := Aside0.mk (blk_below K.out hb)
  have HB1 := Aside0.mk (below_step HB.out hb)
  clear hb K HB MC
  have c := cells2 K1
  have f := blk_frozen K1.out
  go_split_ands
  go_wp2_with fail
  exact bodyPost_ret (results_cell_row rfl _ _ w.heap.size 24 _ (0, 0) _ rfl (put2 K1.out) Try.underlying24 rfl (by kernel_rfl)) rfl ⟨rfl, below2 HB1.out (Nat.le_refl _)⟩
set_option maxHeartbeats 4000000 in
set_option maxRecDepth 100000 in
theorem apart_c {x y u v : Int} (x0 : 0 ≤ x) (x1 : x < 9223372036854775808) (y0 : 0 ≤ y) (y1 : y < 9223372036854775808) (u0 : 0 ≤ u) (u1 : u < 9223372036854775808) (v0 : 0 ≤ v) (v1 : v < 9223372036854775808) (w : World) :
    Calls Try.prog 30 #[.int .i64 x, .int .i64 y, .int .i64 u, .int .i64 v] w fun e w' => e = .returned (.tuple #[.agg #[.int .u64 (hi64 (if x * y < u * v then u * v - x * y else x * y - u * v)), .int .u64 (lo64 (if x * y < u * v then u * v - x * y else x * y - u * v))], .bool (decide (x * y < u * v))]) ∧ Below w.heap.size w w' := by
  have p0 : 0 ≤ x * y := Int.mul_nonneg x0 y0
  have q0 : 0 ≤ u * v := Int.mul_nonneg u0 v0
  have p1 : x * y ≤ 9223372036854775807 * 9223372036854775807 := Int.mul_le_mul (by omega) (by omega) (by omega) (by omega)
  have q1 : u * v ≤ 9223372036854775807 * 9223372036854775807 := Int.mul_le_mul (by omega) (by omega) (by omega) (by omega)
  have PC := fun X => prod_c x0 x1 y0 y1 X
  have QC := fun X => prod_c u0 u1 v0 v1 X
  generalize x * y = P at *
  generalize u * v = Q at *
  have PC := Aside0.mk PC
  have QC := Aside0.mk QC
  have S1 : Aside0 (∀ X, Q < P ∨ Q = P → _) := ⟨fun X (h : Q < P ∨ Q = P) => by
    have := sub_c (u := P) (v := Q) p0 (by omega) q0 (by omega) X
    rw [Int.emod_eq_of_lt (by omega) (by omega)] at this
    exact this⟩
  have S2 : Aside0 (∀ X, P < Q → _) := ⟨fun X (h : P < Q) => by
    have := sub_c (u := Q) (v := P) q0 (by omega) p0 (by omega) X
    rw [Int.emod_eq_of_lt (by omega) (by omega)] at this
    exact this⟩
  clear p1 q1 p0 q0
  by_cases h : P < Q
  · have CC := Aside0.mk (fun X => cmp_lt (u := P) (v := Q) h X)
    have SC := Aside0.mk (fun X => S2.out X h)
    have hd : decide (P < Q) = true := decide_eq_true h
    rw [if_pos h, hd]
    clear h hd
    go_enter Try.func30, Try.ntmps30
    go_wp2_with fail
    have K := Aside0.mk (blk_new w (.cells #[.int .u64 0, .int .u64 0] 24))
    have HB := Aside0.mk (below_alloc (Below.refl w.heap.size w) (.cells #[.int .u64 0, .int .u64 0] 24))
    refine (PC.out _).mono ?_
    rintro e w1 ⟨rfl, hb⟩
    have K1 := Aside0.mk (blk_below K.out hb)
    have HB1 := Aside0.mk (below_step HB.out hb)
    clear hb K HB
    go_wp2_with fail
    refine (QC.out _).mono ?_
    rintro e w2 ⟨rfl, hb⟩
    have K2 := Aside0.mk (blk_below K1.out hb)
    have HB2 := Aside0.mk (below_step HB1.out hb)
    clear hb K1 HB1
    go_wp2_with fail
    have KP := Aside0.mk (blk_alloc (blk_new w2 (.cells #[.int .u64 (hi64 P), .int .u64 (lo64 P)] 24)) (.cells #[.int .u64 (hi64 Q), .int .u64 (lo64 Q)] 24))
    have KQ : Aside0 (((w2.alloc (.cells #[.int .u64 (hi64 P), .int .u64 (lo64 P)] 24)).alloc (.cells #[.int .u64 (hi64 Q), .int .u64 (lo64 Q)] 24)).heap[w2.heap.size + 1]? = some (.cells #[.int .u64 (hi64 Q), .int .u64 (lo64 Q)] 24 (0, 0))) := ⟨by
      have := blk_new (w2.alloc (.cells #[.int .u64 (hi64 P), .int .u64 (lo64 P)] 24)) (.cells #[.int .u64 (hi64 Q), .int .u64 (lo64 Q)] 24)
      simpa using this⟩
    have K3 := Aside0.mk (blk_alloc (blk_alloc K2.out (.cells #[.int .u64 (hi64 P), .int .u64 (lo64 P)] 24)) (.cells #[.int .u64 (hi64 Q), .int .u64 (lo64 Q)] 24))
    have HB3 := Aside0.mk (below_alloc (below_alloc HB2.out (.cells #[.int .u64 (hi64 P), .int .u64 (lo64 P)] 24)) (.cells #[.int .u64 (hi64 Q), .int .u64 (lo64 Q)] 24))
    have HS : Aside0 (w.heap.size < w2.heap.size) := ⟨by have := blk_lt K2.out; exact this⟩
    have n1 : w2.heap.size ≠ w2.heap.size + 1 := by omega
    have n2 : w2.heap.size + 1 ≠ w2.heap.size := by omega
    have n3 : w.heap.size ≠ w2.heap.size := Nat.ne_of_lt HS.out
    have n4 : w.heap.size ≠ w2.heap.size + 1 := by have := HS.out; omega
    have hg : w.heap.size ≤ w2.heap.size := Nat.le_of_lt HS.out
    refine (CC.out _).mono ?_
    rintro e w3 ⟨⟨c, rfl, hc⟩, hb⟩
    have hc' : decide (c < 0) = true := decide_eq_true (by have := of_decide_eq_false hc; omega)
    clear hc
    have KP3 := Aside0.mk (blk_below KP.out hb)
    have KQ3 := Aside0.mk (blk_below KQ.out hb)
    have K33 := Aside0.mk (blk_below K3.out hb)
    have HB33 := Aside0.mk (below_step HB3.out hb)
    clear hb
    have c1 := cells2 KP3
    have c2 := cells2 KQ3
    have f1 := blk_frozen KP3.out
    have f2 := blk_frozen KQ3.out
    go_split_ands
    go_wp2_with fail
    refine (SC.out _).mono ?_
    rintro e w4 ⟨rfl, hb⟩
    have K4 := Aside0.mk (blk_below (far2 (far2 K33.out n3) n4) hb)
    have HB4 := Aside0.mk (below_step (below2 (below2 HB33.out hg) (by omega)) hb)
    clear hb
    have c4 := cells2 K4
    have f4 := blk_frozen K4.out
    have l4 := blk_lt K4.out
    have n5 : w.heap.size ≠ w4.heap.size := Nat.ne_of_lt l4
    have n6 : w4.heap.size ≠ w.heap.size := Ne.symm n5
    go_split_ands
    go_wp2_with fail
    all_goals exact bodyPost_ret (results_ct rfl _ _ w.heap.size 24 _ (0, 0) _ rfl (blk_alloc (put2 K4.out) _) Try.underlying24 rfl (by kernel_rfl)) rfl ⟨rfl, below_alloc (below2 HB4.out (Nat.le_refl _)) _⟩
  · have CC := Aside0.mk (fun X => cmp_ge (u := P) (v := Q) (by omega) X)
    have SC := Aside0.mk (fun X => S1.out X (by omega))
    have hd : decide (P < Q) = false := decide_eq_false h
    rw [if_neg h, hd]
    clear h hd
    go_enter Try.func30, Try.ntmps30
    go_wp2_with fail
    have K := Aside0.mk (blk_new w (.cells #[.int .u64 0, .int .u64 0] 24))
    have HB := Aside0.mk (below_alloc (Below.refl w.heap.size w) (.cells #[.int .u64 0, .int .u64 0] 24))
    refine (PC.out _).mono ?_
    rintro e w1 ⟨rfl, hb⟩
    have K1 := Aside0.mk (blk_below K.out hb)
    have HB1 := Aside0.mk (below_step HB.out hb)
    clear hb K HB
    go_wp2_with fail
    refine (QC.out _).mono ?_
    rintro e w2 ⟨rfl, hb⟩
    have K2 := Aside0.mk (blk_below K1.out hb)
    have HB2 := Aside0.mk (below_step HB1.out hb)
    clear hb K1 HB1
    go_wp2_with fail
    have KP := Aside0.mk (blk_alloc (blk_new w2 (.cells #[.int .u64 (hi64 P), .int .u64 (lo64 P)] 24)) (.cells #[.int .u64 (hi64 Q), .int .u64 (lo64 Q)] 24))
    have KQ : Aside0 (((w2.alloc (.cells #[.int .u64 (hi64 P), .int .u64 (lo64 P)] 24)).alloc (.cells #[.int .u64 (hi64 Q), .int .u64 (lo64 Q)] 24)).heap[w2.heap.size + 1]? = some (.cells #[.int .u64 (hi64 Q), .int .u64 (lo64 Q)] 24 (0, 0))) := ⟨by
      have := blk_new (w2.alloc (.cells #[.int .u64 (hi64 P), .int .u64 (lo64 P)] 24)) (.cells #[.int .u64 (hi64 Q), .int .u64 (lo64 Q)] 24)
      simpa using this⟩
    have K3 := Aside0.mk (blk_alloc (blk_alloc K2.out (.cells #[.int .u64 (hi64 P), .int .u64 (lo64 P)] 24)) (.cells #[.int .u64 (hi64 Q), .int .u64 (lo64 Q)] 24))
    have HB3 := Aside0.mk (below_alloc (below_alloc HB2.out (.cells #[.int .u64 (hi64 P), .int .u64 (lo64 P)] 24)) (.cells #[.int .u64 (hi64 Q), .int .u64 (lo64 Q)] 24))
    have HS : Aside0 (w.heap.size < w2.heap.size) := ⟨by have := blk_lt K2.out; exact this⟩
    have n1 : w2.heap.size ≠ w2.heap.size + 1 := by omega
    have n2 : w2.heap.size + 1 ≠ w2.heap.size := by omega
    have n3 : w.heap.size ≠ w2.heap.size := Nat.ne_of_lt HS.out
    have n4 : w.heap.size ≠ w2.heap.size + 1 := by have := HS.out; omega
    have hg : w.heap.size ≤ w2.heap.size := Nat.le_of_lt HS.out
    refine (CC.out _).mono ?_
    rintro e w3 ⟨⟨c, rfl, hc⟩, hb⟩
    have hc' : decide (c < 0) = false := decide_eq_false (by have := of_decide_eq_true hc; omega)
    clear hc
    have KP3 := Aside0.mk (blk_below KP.out hb)
    have KQ3 := Aside0.mk (blk_below KQ.out hb)
    have K33 := Aside0.mk (blk_below K3.out hb)
    have HB33 := Aside0.mk (below_step HB3.out hb)
    clear hb
    have c1 := cells2 KP3
    have c2 := cells2 KQ3
    have f1 := blk_frozen KP3.out
    have f2 := blk_frozen KQ3.out
    go_split_ands
    go_wp2_with fail
    refine (SC.out _).mono ?_
    rintro e w4 ⟨rfl, hb⟩
    have K4 := Aside0.mk (blk_below K33.out hb)
    have HB4 := Aside0.mk (below_step HB33.out hb)
    clear hb
    have c4 := cells2 K4
    have f4 := blk_frozen K4.out
    have l4 := blk_lt K4.out
    have n5 : w.heap.size ≠ w4.heap.size := Nat.ne_of_lt l4
    have n6 : w4.heap.size ≠ w.heap.size := Ne.symm n5
    go_split_ands
    go_wp2_with fail
    all_goals exact bodyPost_ret (results_ct rfl _ _ w.heap.size 24 _ (0, 0) _ rfl (blk_alloc (put2 K4.out) _) Try.underlying24 rfl (by kernel_rfl)) rfl ⟨rfl, below_alloc (below2 HB4.out (Nat.le_refl _)) _⟩
open Go.Proofs.Th
def slope_apart.f (a0 : Int) (a1 : Int) (a2 : Int) (a3 : Int) : Option (Int × Int × Bool) := if 0 ≤ a0 ∧ a0 < 9223372036854775808 ∧ 0 ≤ a1 ∧ a1 < 9223372036854775808 ∧ 0 ≤ a2 ∧ a2 < 9223372036854775808 ∧ 0 ≤ a3 ∧ a3 < 9223372036854775808 then some (hi64 (if a0 * a1 < a2 * a3 then a2 * a3 - a0 * a1 else a0 * a1 - a2 * a3), lo64 (if a0 * a1 < a2 * a3 then a2 * a3 - a0 * a1 else a0 * a1 - a2 * a3), decide (a0 * a1 < a2 * a3)) else none
theorem slope_apart.calls (a0 : Int) (a1 : Int) (a2 : Int) (a3 : Int) (r1 : Int) (r2 : Int) (r3 : Bool) (w : World) (h : slope_apart.f a0 a1 a2 a3 = some (r1, r2, r3)) :
    Calls Try.prog 30 #[.int .i64 a0, .int .i64 a1, .int .i64 a2, .int .i64 a3] w fun e w' => e = .returned (.tuple #[.agg #[.int .u64 r1, .int .u64 r2], .bool r3]) ∧ Below w.heap.size w w' := by
  unfold slope_apart.f at h
  by_cases c : 0 ≤ a0 ∧ a0 < 9223372036854775808 ∧ 0 ≤ a1 ∧ a1 < 9223372036854775808 ∧ 0 ≤ a2 ∧ a2 < 9223372036854775808 ∧ 0 ≤ a3 ∧ a3 < 9223372036854775808
  · rw [if_pos c] at h
    have h := Option.some.inj h
    simp only [Prod.mk.injEq] at h
    obtain ⟨rfl, rfl, rfl⟩ := h
    exact apart_c c.1 c.2.1 c.2.2.1 c.2.2.2.1 c.2.2.2.2.1 c.2.2.2.2.2.1 c.2.2.2.2.2.2.1 c.2.2.2.2.2.2.2 w
  · rw [if_neg c] at h
    cases h

end Go.Proofs.Ytcmbogdilplmlaa.P
