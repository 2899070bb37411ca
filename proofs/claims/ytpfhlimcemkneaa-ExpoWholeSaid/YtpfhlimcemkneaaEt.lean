/- Logarithm and power as whole functions. -/
import Derived.Test.YtpfhlimcemkneaaEs
set_option linter.unusedVariables false
set_option linter.unusedSimpArgs false
namespace Go.Proofs.Ytpfhlimcemkneaa.P
open Go.RowKit Go.Proofs.Th Go.Proofs.Ee
theorem blen_mono {a b : Int} (h0 : 0 ≤ a) (h : a ≤ b) (h1 : b < 340282366920938463463374607431768211456) : blen a ≤ blen b :=
  blen_le h0 (by omega) (Int.lt_of_le_of_lt h (blen_lt (by omega) h1))
theorem blen_twice {x : Int} (x0 : 0 < x) (x1 : x < 340282366920938463463374607431768211456) : blen x = blen (x / 2) + 1 := by
  have g1 := blen_lt (v := x / 2) (by omega) (by omega)
  by_cases hz : x / 2 = 0
  · have : x = 1 := by omega
    subst this; rfl
  · have g2 := blen_ge (v := x / 2) (by omega) (by omega)
    refine blen_eq x1 ?_ ?_ <;> rw [Int.pow_succ] <;> omega
theorem Lg_bounds {c : Int} (h0 : 0 < c) (h1 : c ≤ 4611686018427387904) : -20971520 ≤ Lg c ∧ Lg c < 45088768 := by
  obtain ⟨_, p, q, _⟩ := norm_in h0 h1
  have l := lg_lt 20 (c * 2 ^ (63 - blen c)).toNat
  have e : (2 : Nat) ^ 20 = 1048576 := by decide
  rw [e] at l
  unfold Lg
  omega
theorem Lg_mono {a b : Int} (h0 : 0 < a) (h : a ≤ b) (h1 : b ≤ 4611686018427387904) : Lg a ≤ Lg b := by
  have hm := blen_mono (a := a) (b := b) (by omega) h (by omega)
  have e : (2 : Nat) ^ 20 = 1048576 := by decide
  have la := lg_lt 20 (a * 2 ^ (63 - blen a)).toNat
  rw [e] at la
  unfold Lg
  by_cases c : blen a = blen b
  · rw [c]
    have k : a * 2 ^ (63 - blen b) ≤ b * 2 ^ (63 - blen b) := Int.mul_le_mul_of_nonneg_right h (Int.le_of_lt (two_pow_pos _))
    have := lg_mono 20 (a * 2 ^ (63 - blen b)).toNat (b * 2 ^ (63 - blen b)).toNat (by omega)
    omega
  · omega
theorem L_mono {a b : Int} (h : a ≤ b) : L a ≤ L b := by
  unfold L
  by_cases ca : a ≤ 0
  · rw [if_pos ca]
    split
    · exact Int.le_refl _
    · have := (Lg_bounds (c := min b 4611686018427387904) (by omega) (by omega)).1
      omega
  · rw [if_neg ca, if_neg (by omega)]
    exact Lg_mono (by omega) (by omega) (by omega)
theorem E_main {a : Int} (h0 : -20971520 ≤ a) (h1 : a < 44040192) : E a = ((pw rt (a % 1048576).toNat * 2 / 2 ^ (41 - a / 1048576).toNat : Nat) : Int) := by
  unfold E
  rw [if_neg (by omega), if_neg (by omega)]
theorem E_low {a : Int} (h : a < -20971520) : E a = 0 := by unfold E; rw [if_neg (by omega), if_pos h]
theorem E_high {a : Int} (h : 44040192 ≤ a) : E a = 4611686018427387904 := by unfold E; rw [if_pos h]
theorem E_nn (a : Int) : 0 ≤ E a := by
  unfold E
  split
  · decide
  · split
    · decide
    · exact Int.natCast_nonneg _
theorem E_le (a : Int) : E a ≤ 4611686018427387904 := by
  unfold E
  split
  · decide
  · split
    · decide
    · have a1 := pw_lt hrt (a % 1048576).toNat
      have a2 : pw rt (a % 1048576).toNat * 2 / 2 ^ (41 - a / 1048576).toNat ≤ pw rt (a % 1048576).toNat * 2 := Nat.div_le_self _ _
      omega
theorem E_mono {a b : Int} (h : a ≤ b) : E a ≤ E b := by
  by_cases h1 : 44040192 ≤ b
  · rw [E_high h1]; exact E_le a
  by_cases h2 : a < -20971520
  · rw [E_low h2]; exact E_nn b
  rw [E_main (by omega) (by omega), E_main (by omega) (by omega)]
  apply Int.ofNat_le.2
  have p1 := pw_lt hrt (a % 1048576).toNat
  have p2 := pw_ge hrt (b % 1048576).toNat
  by_cases c : a / 1048576 = b / 1048576
  · rw [c]
    exact Nat.div_le_div_right (Nat.mul_le_mul_right _ (pw_mono hrt (by omega)))
  · generalize pw rt (a % 1048576).toNat = x at *
    generalize pw rt (b % 1048576).toNat = y at *
    have hs : ∃ d, (41 - a / 1048576).toNat = 1 + (41 - b / 1048576).toNat + d := ⟨(41 - a / 1048576).toNat - (1 + (41 - b / 1048576).toNat), by omega⟩
    obtain ⟨d, hd⟩ := hs
    rw [hd, Nat.pow_add, ← Nat.div_div_eq_div_mul, Nat.pow_add, ← Nat.div_div_eq_div_mul]
    refine Nat.le_trans (Nat.div_le_self _ _) (Nat.div_le_div_right ?_)
    rw [Nat.pow_one]
    omega
theorem E_double {a : Int} (h0 : -22020096 ≤ a) (h1 : a < 42991616) : E (a + 1048576) = 2 * E a ∨ E (a + 1048576) = 2 * E a + 1 := by
  by_cases h2 : a < -20971520
  · rw [E_low h2, E_main (by omega) (by omega)]
    have p1 := pw_lt hrt ((a + 1048576) % 1048576).toNat
    have p2 := pw_ge hrt ((a + 1048576) % 1048576).toNat
    have e : (41 - (a + 1048576) / 1048576).toNat = 61 := by omega
    have e2 : (2 : Nat) ^ 61 = 2305843009213693952 := by decide
    rw [e, e2]
    omega
  · rw [E_main (by omega) (by omega), E_main (by omega) (by omega)]
    have e1 : (a + 1048576) % 1048576 = a % 1048576 := by omega
    have e2 : (41 - a / 1048576).toNat = (41 - (a + 1048576) / 1048576).toNat + 1 := by omega
    rw [e1, e2, Nat.pow_succ, ← Nat.div_div_eq_div_mul]
    generalize pw rt (a % 1048576).toNat * 2 / 2 ^ (41 - (a + 1048576) / 1048576).toNat = x at *
    omega
theorem L_double {a : Int} (h0 : 0 < a) (h1 : a ≤ 2305843009213693952) : L (2 * a) = L a + 1048576 := by
  unfold L
  rw [if_neg (by omega), if_neg (by omega), show min (2 * a) 4611686018427387904 = 2 * a by omega, show min a 4611686018427387904 = a by omega]
  have hb : blen (2 * a) = blen a + 1 := by
    have := blen_twice (x := 2 * a) (by omega) (by omega)
    rw [show 2 * a / 2 = a by omega] at this
    exact this
  have q : blen a ≤ 62 := blen_le (by omega) (by omega) (by omega)
  unfold Lg
  have e : 2 * a * 2 ^ (63 - blen (2 * a)) = a * 2 ^ (63 - blen a) := by
    rw [hb, show 63 - blen a = (63 - (blen a + 1)) + 1 by omega, Int.pow_succ, Int.mul_comm 2 a, Int.mul_assoc, Int.mul_comm 2]
  rw [e, hb]
  omega
/-! ### back and forth -/
theorem Lg_top : Lg 4611686018427387904 = 44040192 := by decide +kernel
theorem back {c : Int} (h0 : 0 < c) (h1 : c < 4611686018427387904) : E (Lg c) ≤ c ∧ c - c / 1048576 - 2 ≤ E (Lg c) := by
  obtain ⟨hi, p, q, hr⟩ := norm_in h0 (by omega)
  have q2 : blen c ≤ 62 := blen_le (by omega) (by omega) (by omega)
  have l := lg_lt 20 (c * 2 ^ (63 - blen c)).toNat
  have e20 : (2 : Nat) ^ 20 = 1048576 := by decide
  rw [e20] at l
  have up := back_le hrt hi
  have dn := back_ge hrt hi
  have eL : Lg c = ((blen c : Int) - 21) * 1048576 + (lg 20 (c * 2 ^ (63 - blen c)).toNat : Int) := rfl
  have em : Lg c % 1048576 = (lg 20 (c * 2 ^ (63 - blen c)).toNat : Int) := by omega
  have ed : Lg c / 1048576 = (blen c : Int) - 21 := by omega
  have es : (41 - ((blen c : Int) - 21)).toNat = 62 - blen c := by omega
  rw [E_main (by omega) (by omega), em, ed, es, Int.toNat_natCast]
  generalize pw rt (lg 20 (c * 2 ^ (63 - blen c)).toNat) = x at *
  obtain ⟨cn, rfl⟩ := Int.eq_ofNat_of_zero_le (show 0 ≤ c by omega)
  have e2 : (((cn : Int)) * 2 ^ (63 - blen (cn : Int))).toNat = 2 * (cn * 2 ^ (62 - blen (cn : Int))) := by
    apply Int.ofNat.inj
    show ((((cn : Int)) * 2 ^ (63 - blen (cn : Int))).toNat : Int) = ((2 * (cn * 2 ^ (62 - blen (cn : Int))) : Nat) : Int)
    rw [hr, show 63 - blen (cn : Int) = 62 - blen (cn : Int) + 1 by omega, Int.pow_succ]
    simp
    rw [← Int.mul_assoc, Int.mul_comm 2]
  rw [e2] at up dn
  have hp := Nat.two_pow_pos (62 - blen (cn : Int))
  generalize 2 ^ (62 - blen (cn : Int)) = s at *
  constructor
  · apply Int.ofNat_le.2
    apply Nat.le_of_lt_succ
    rw [Nat.div_lt_iff_lt_mul hp, Nat.succ_mul]
    omega
  · have k := Nat.lt_div_mul_add (a := x * 2) hp
    have k2 : 1048575 * cn * s < 1048576 * (x * 2 / s + 1) * s := by
      have e3 : 1048575 * cn * s = 1048575 * (cn * s) := Nat.mul_assoc _ _ _
      have e4 : 1048576 * (x * 2 / s + 1) * s = 1048576 * (x * 2 / s * s + s) := by rw [Nat.mul_assoc, Nat.add_mul, Nat.one_mul]
      omega
    have k3 := Nat.lt_of_mul_lt_mul_right k2
    generalize x * 2 / s = y at *
    omega
theorem forth {a : Int} (h0 : 0 ≤ a) (h1 : a < 44040192) : L (E a) ≤ a ∧ a ≤ L (E a) + 3 := by
  rw [E_main (by omega) h1]
  have hf : (a % 1048576).toNat < 1048576 := by omega
  have p1 := pw_lt hrt (a % 1048576).toNat
  have p2 := pw_ge hrt (a % 1048576).toNat
  have le := fun m => log_le hrt (m := m) hf
  have ge := fun m => log_ge hrt (m := m) hf
  obtain ⟨s, hs⟩ : ∃ s, s = (41 - a / 1048576).toNat := ⟨_, rfl⟩
  have s1 : s ≤ 41 := by omega
  rw [← hs]
  generalize pw rt (a % 1048576).toNat = x at *
  have hp := Nat.two_pow_pos s
  have k1 := Nat.div_mul_le_self (x * 2) (2 ^ s)
  have k2 := Nat.lt_div_mul_add (a := x * 2) hp
  have ps : 2 ^ (62 - s) * 2 ^ s = 4611686018427387904 := by rw [← Nat.pow_add, Nat.sub_add_cancel (by omega)]
  have ps2 : 2 ^ (61 - s) * 2 ^ s = 2305843009213693952 := by rw [← Nat.pow_add, Nat.sub_add_cancel (by omega)]
  have b1 : x * 2 / 2 ^ s < 2 ^ (62 - s) := by rw [Nat.div_lt_iff_lt_mul hp, ps]; omega
  have b0 : 2 ^ (61 - s) ≤ x * 2 / 2 ^ s := by rw [Nat.le_div_iff_mul_le hp, ps2]; omega
  have q41 : (2 : Nat) ^ s ≤ 2 ^ 41 := Nat.pow_le_pow_right (by decide) s1
  have q62 : (2 : Nat) ^ (62 - s) ≤ 2 ^ 62 := Nat.pow_le_pow_right (by decide) (by omega)
  have e41 : (2 : Nat) ^ 41 = 2199023255552 := by decide
  have e62 : (2 : Nat) ^ 62 = 4611686018427387904 := by decide
  rw [e41] at q41
  rw [e62] at q62
  have pp : 2 ^ (62 - s) = 2 * 2 ^ (61 - s) := by rw [show 62 - s = 61 - s + 1 by omega, Nat.pow_succ]; omega
  have pp1 := Nat.two_pow_pos (61 - s)
  generalize hy : x * 2 / 2 ^ s = y at *
  have hb : blen (y : Int) = 62 - s := by
    apply blen_eq (by omega)
    · have : ((2 ^ (62 - s) : Nat) : Int) ≤ ((2 * y : Nat) : Int) := Int.ofNat_le.2 (by omega)
      simpa using this
    · have : ((y : Nat) : Int) < ((2 ^ (62 - s) : Nat) : Int) := Int.ofNat_lt.2 b1
      simpa using this
  have hi := norm_in (c := (y : Int)) (by omega) (by omega)
  have eL : L (y : Int) = ((blen (y : Int) : Int) - 21) * 1048576 + (lg 20 ((y : Int) * 2 ^ (63 - blen (y : Int))).toNat : Int) := by
    unfold L
    rw [if_neg (by omega), show min (y : Int) 4611686018427387904 = y by omega]
    rfl
  have em : ((y : Int) * 2 ^ (63 - blen (y : Int))).toNat = 2 * (y * 2 ^ s) := by
    rw [hb, show 63 - (62 - s) = s + 1 by omega]
    apply Int.ofNat.inj
    show (((y : Int) * 2 ^ (s + 1)).toNat : Int) = ((2 * (y * 2 ^ s) : Nat) : Int)
    rw [Int.toNat_of_nonneg (Int.mul_nonneg (by omega) (Int.le_of_lt (two_pow_pos _))), Int.pow_succ]
    simp
    rw [← Int.mul_assoc, Int.mul_comm 2]
  have hin := hi.1
  rw [em] at hin eL
  have a1 := le _ hin (by omega)
  have a2 := ge _ hin (by omega)
  rw [eL, hb]
  generalize lg 20 (2 * (y * 2 ^ s)) = l at *
  omega
end Go.Proofs.Ytpfhlimcemkneaa.P
