/- What layer 1's functions tell, as the print spells them: sums, differences, products, quotients, shifts and lengths of numbers of 128 bits. -/
import Derived.Test.YtpfhlimcemkneaaPx4
import Derived.Test.YtpfhlimcemkneaaPx20
import Derived.Test.YtpfhlimcemkneaaPx21
import Derived.Test.YtpfhlimcemkneaaPx19
import Derived.Test.YtpfhlimcemkneaaPx6
import Derived.Test.YtpfhlimcemkneaaTh
set_option linter.unusedVariables false
set_option linter.unusedSimpArgs false
namespace Go.Proofs.Ytpfhlimcemkneaa.P
open Go.RowKit Go.Proofs.Th Go.Proofs.YtpfhlimcemkneaaW.PrintWords Go.Proofs.YtpfhlimcemkneaaW.PrintMore

theorem bits_Mul64_eq {x y : Int} (x0 : 0 ≤ x) (x1 : x < 18446744073709551616) (y0 : 0 ≤ y) (y1 : y < 18446744073709551616) :
    bits_Mul64.f x y = some (x * y / 18446744073709551616, x * y % 18446744073709551616) := by
  unfold bits_Mul64.f
  rw [mul_hi x y x0 x1 y0 y1, u64_wrap]
theorem wide_Mul_eq {x y : Int} (x0 : 0 ≤ x) (x1 : x < 18446744073709551616) (y0 : 0 ≤ y) (y1 : y < 18446744073709551616) :
    wide_Mul.f x y = some (hi64 (x * y), lo64 (x * y)) := by
  unfold wide_Mul.f
  rw [bits_Mul64_eq x0 x1 y0 y1]; rfl

theorem wide_Add_eq {h l h' l' : Int} (a0 : 0 ≤ h) (a1 : h < 18446744073709551616) (b0 : 0 ≤ l) (b1 : l < 18446744073709551616) (c0 : 0 ≤ h') (c1 : h' < 18446744073709551616) (d0 : 0 ≤ l') (d1 : l' < 18446744073709551616) :
    wide_Add.f h l h' l' = some (hi64 ((W h l + W h' l') % 340282366920938463463374607431768211456), lo64 ((W h l + W h' l') % 340282366920938463463374607431768211456), (W h l + W h' l') / 340282366920938463463374607431768211456) := by
  unfold wide_Add.f bits_Add64.f
  rw [if_pos (by omega)]
  simp only [Option.bind_some]
  rw [if_pos (by omega)]
  simp only [Option.bind_some, Option.some.injEq, Prod.mk.injEq]
  unfold W hi64 lo64
  refine ⟨?_, ?_, ?_⟩ <;> omega

theorem wide_Sub_eq {h l h' l' : Int} (a0 : 0 ≤ h) (a1 : h < 18446744073709551616) (b0 : 0 ≤ l) (b1 : l < 18446744073709551616) (c0 : 0 ≤ h') (c1 : h' < 18446744073709551616) (d0 : 0 ≤ l') (d1 : l' < 18446744073709551616) :
    wide_Sub.f h l h' l' = some (hi64 ((W h l - W h' l') % 340282366920938463463374607431768211456), lo64 ((W h l - W h' l') % 340282366920938463463374607431768211456), if W h l < W h' l' then 1 else 0) := by
  unfold wide_Sub.f bits_Sub64.f
  rw [if_pos (by omega)]
  simp only [Option.bind_some]
  rw [if_pos (by split <;> omega)]
  simp only [Option.bind_some, Option.some.injEq, Prod.mk.injEq]
  unfold W hi64 lo64
  refine ⟨?_, ?_, ?_⟩
  · split <;> omega
  · omega
  · split <;> split <;> split <;> omega

theorem wide_Cmp_eq {h l h' l' : Int} (b0 : 0 ≤ l) (b1 : l < 18446744073709551616) (d0 : 0 ≤ l') (d1 : l' < 18446744073709551616) :
    wide_Cmp.f h l h' l' = some (if W h l < W h' l' then -1 else if W h' l' < W h l then 1 else 0) := by
  unfold wide_Cmp.f W
  congr 1
  repeat' split
  all_goals omega

theorem bt_len8 : ∀ n : Fin 256, bt Lib.len8tab (n.val : Int) = (Lib.bitLen n.val : Int) := by decide +kernel
theorem bt_len {i : Int} (h0 : 0 ≤ i) (h1 : i < 256) : bt Lib.len8tab i = (Lib.bitLen i.toNat : Int) := by
  have := bt_len8 ⟨i.toNat, by omega⟩
  simpa [Int.toNat_of_nonneg h0] using this
theorem bt_len_le {i : Int} (h0 : 0 ≤ i) (h1 : i < 256) : Lib.bitLen i.toNat ≤ 8 := Lib.bitLen_le8 ⟨i.toNat, by omega⟩

theorem bits_Len64_low {x c : Int} (k : Nat) (hk : 1 ≤ k) (c0 : 0 ≤ c) (c1 : c ≤ 32) (x0 : 0 ≤ x) (x1 : x < 4294967296) : bits_Len64.j0 k x c = some (c + (Lib.bitLen x.toNat : Int)) := by
  obtain ⟨k, rfl⟩ : ∃ m, k = m + 1 := ⟨k - 1, by omega⟩
  have key : ∀ (i d : Int), 0 ≤ i → i < 256 → 0 ≤ d → d ≤ 64 → wrap64 (d + wrap64 (bt Lib.len8tab i)) = d + (Lib.bitLen i.toNat : Int) := by
    intro i d i0 i1 d0 d1
    have := bt_len_le i0 i1
    rw [bt_len i0 i1, wrap64_id (x := (Lib.bitLen i.toNat : Int)) (by omega) (by omega), wrap64_id (by omega) (by omega)]
  by_cases h16 : x ≥ 65536
  · by_cases h24 : x / 65536 ≥ 256
    · have e : bits_Len64.j0 (k + 1) x c = some (wrap64 (wrap64 (wrap64 (c + 16) + 8) + wrap64 (bt Lib.len8tab (x / 65536 / 256 % 256)))) := by
        show (if x ≥ 65536 then _ else _) = _
        rw [if_pos h16, if_pos h24, if_pos (by omega), if_pos (by omega)]; rfl
      rw [e, wrap64_id (x := c + 16) (by omega) (by omega), wrap64_id (x := c + 16 + 8) (by omega) (by omega), key _ _ (by omega) (by omega) (by omega) (by omega)]
      have s := Lib.bitLen_shift24 x.toNat (by omega) (by omega)
      rw [show (x / 65536 / 256 % 256).toNat = x.toNat / 16777216 by omega]
      congr 1; omega
    · have e : bits_Len64.j0 (k + 1) x c = some (wrap64 (wrap64 (c + 16) + wrap64 (bt Lib.len8tab (x / 65536 % 256)))) := by
        show (if x ≥ 65536 then _ else _) = _
        rw [if_pos h16, if_neg h24, if_pos (by omega), if_pos (by omega)]; rfl
      rw [e, wrap64_id (x := c + 16) (by omega) (by omega), key _ _ (by omega) (by omega) (by omega) (by omega)]
      have s := Lib.bitLen_shift16 x.toNat (by omega) (by omega)
      rw [show (x / 65536 % 256).toNat = x.toNat / 65536 by omega]
      congr 1; omega
  · by_cases h8 : x ≥ 256
    · have e : bits_Len64.j0 (k + 1) x c = some (wrap64 (wrap64 (c + 8) + wrap64 (bt Lib.len8tab (x / 256 % 256)))) := by
        show (if x ≥ 65536 then _ else _) = _
        rw [if_neg h16, if_pos h8, if_pos (by omega), if_pos (by omega)]; rfl
      rw [e, wrap64_id (x := c + 8) (by omega) (by omega), key _ _ (by omega) (by omega) (by omega) (by omega)]
      have s := Lib.bitLen_shift8 x.toNat (by omega) (by omega)
      rw [show (x / 256 % 256).toNat = x.toNat / 256 by omega]
      congr 1; omega
    · have e : bits_Len64.j0 (k + 1) x c = some (wrap64 (c + wrap64 (bt Lib.len8tab (x % 256)))) := by
        show (if x ≥ 65536 then _ else _) = _
        rw [if_neg h16, if_neg h8, if_pos (by omega), if_pos (by omega)]; rfl
      rw [e, key _ _ (by omega) (by omega) (by omega) (by omega)]
      rw [show (x % 256).toNat = x.toNat by omega]

theorem bits_Len64_eq {x : Int} (k : Nat) (hk : 1 ≤ k) (x0 : 0 ≤ x) (x1 : x < 18446744073709551616) : bits_Len64.f k x = some (Lib.bitLen x.toNat : Int) := by
  unfold bits_Len64.f
  by_cases h : x ≥ 4294967296
  · rw [if_pos h, bits_Len64_low k hk (by omega) (by omega) (by omega) (by omega)]
    have s := Lib.bitLen_shift32 x.toNat (by omega) (by omega)
    rw [show (x / 4294967296).toNat = x.toNat / 4294967296 by omega]
    congr 1; omega
  · rw [if_neg h, bits_Len64_low k hk (by omega) (by omega) (by omega) (by omega)]
    congr 1; omega

theorem shl_u64 (x : Int) (n : Int) : shl .u64 x n = x * 2 ^ min n.toNat 64 % 18446744073709551616 := by unfold shl; rw [u64_wrap]; rfl
theorem shr_u64 (x : Int) (n : Int) : shr .u64 x n = x / 2 ^ min n.toNat 64 := rfl
theorem shl_lt64 {x n : Int} (h : n ≤ 64) : shl .u64 x n = x * 2 ^ n.toNat % 18446744073709551616 := by rw [shl_u64, Nat.min_eq_left (by omega)]
theorem shr_lt64 {x n : Int} (h : n ≤ 64) : shr .u64 x n = x / 2 ^ n.toNat := by rw [shr_u64, Nat.min_eq_left (by omega)]

theorem mod_mul_pow (x : Int) {n : Nat} (hn : n ≤ 64) : x * 2 ^ n % 18446744073709551616 = x % 2 ^ (64 - n) * 2 ^ n := by
  have e : (18446744073709551616 : Int) = 2 ^ (64 - n) * 2 ^ n := by rw [← Int.pow_add, Nat.sub_add_cancel hn]; rfl
  rw [e, Int.mul_comm x, Int.mul_comm (2 ^ (64 - n)), Int.mul_emod_mul_of_pos _ _ (two_pow_pos n), Int.mul_comm]

theorem bits_LeadingZeros64_eq {x : Int} (k : Nat) (hk : 1 ≤ k) (x0 : 0 ≤ x) (x1 : x < 18446744073709551616) : bits_LeadingZeros64.f k x = some (64 - (blen x : Int)) := by
  unfold bits_LeadingZeros64.f
  rw [bits_Len64_eq k hk x0 x1]
  simp only [Option.bind_some]
  rw [bitLen_is (by omega), Int.toNat_of_nonneg x0]
  have := blen_le (v := x) (b := 64) x0 (by omega) (by rw [show (2 : Int) ^ 64 = 18446744073709551616 from rfl]; exact x1)
  rw [wrap64_id (by omega) (by omega)]
end Go.Proofs.Ytpfhlimcemkneaa.P
