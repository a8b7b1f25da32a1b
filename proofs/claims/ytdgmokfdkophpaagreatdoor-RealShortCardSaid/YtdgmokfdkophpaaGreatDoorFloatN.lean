/-
  The float of a whole number below 2^30, bit by bit. No program in sight.
-/
import Derived.Test.YtdgmokfdkophpaaGreatDoorCmp
import Derived.Test.YtdgmokfdkophpaaGreatDoorPrint
namespace Go.Proofs.YtdgmokfdkophpaaGreatDoor

theorem f64_frac : FloatKind.f64.format.fractionBits = 52 := by kernel_rfl
theorem f64_binade : FloatKind.f64.format.binade = 4503599627370496 := by kernel_rfl
theorem f64_inf : FloatKind.f64.format.infRung = 2047 * 4503599627370496 := by kernel_rfl
theorem f64_sign : FloatKind.f64.format.signWeight = 9223372036854775808 := by kernel_rfl

theorem cut_zero (neg : Bool) (n : Nat) : Ieee.Toward.even.cut neg n 0 = n := by
  unfold Ieee.Toward.cut
  simp only [Nat.zero_min, Nat.shiftLeft_zero, Nat.div_one, Nat.mod_one]
  simp

/-- The exponent and the fraction of a whole number's float. -/
theorem float_nat (n k : Nat) (hk : k ≤ 29) (h1 : 2 ^ k ≤ n) (h2 : n < 2 ^ (k + 1)) : floatOfInt .f64 (n : Nat) = (k + 1022) * 4503599627370496 + n * 2 ^ (52 - k) := by
  have hn : n ≠ 0 := by have := Nat.two_pow_pos k; omega
  have hl : n.log2 = k := (Nat.log2_eq_iff hn).2 ⟨h1, h2⟩
  have hb : n * 2 ^ (52 - k) < 2 ^ 53 := by
    have : 2 ^ (k + 1) * 2 ^ (52 - k) = 2 ^ 53 := by rw [← Nat.pow_add]; congr 1; omega
    rw [← this]
    exact Nat.mul_lt_mul_of_pos_right h2 (Nat.two_pow_pos _)
  have e53 : (2 : Nat) ^ 53 = 9007199254740992 := by decide
  show FloatKind.f64.format.nearest (decide ((n : Int) < 0)) (n : Int).natAbs 0 = _
  rw [decide_eq_false (by omega : ¬ (n : Int) < 0), Int.natAbs_natCast]
  unfold Ieee.Format.nearest
  rw [if_neg hn, hl, least, f64_frac, f64_binade, f64_inf]
  have el : max (0 + (k : Int) - (52 : Nat)) (-1074) = (k : Int) - 52 := by omega
  simp only [el]
  rw [show ((0 : Int) - ((k : Int) - 52)).toNat = 52 - k by omega, show ((k : Int) - 52 - 0).toNat = 0 by omega, show ((k : Int) - 52 - -1074).toNat = k + 1022 by omega, cut_zero, Nat.shiftLeft_eq]
  unfold Ieee.Format.word
  rw [Nat.min_eq_left (by omega)]
  simp

set_option maxRecDepth 100000 in
/-- Its value, in the least float's units. -/
theorem float_kv (n k : Nat) (hk : k ≤ 29) (h1 : 2 ^ k ≤ n) (h2 : n < 2 ^ (k + 1)) : cl (floatOfInt .f64 (n : Nat)) = 0 ∧ kv (floatOfInt .f64 (n : Nat)) = (n * 2 ^ 1074 : Nat) := by
  have hge : 2 ^ 52 ≤ n * 2 ^ (52 - k) := by
    have : 2 ^ k * 2 ^ (52 - k) = 2 ^ 52 := by rw [← Nat.pow_add]; congr 1; omega
    rw [← this]
    exact Nat.mul_le_mul_right _ h1
  have hb : n * 2 ^ (52 - k) < 2 ^ 53 := by
    have : 2 ^ (k + 1) * 2 ^ (52 - k) = 2 ^ 53 := by rw [← Nat.pow_add]; congr 1; omega
    rw [← this]
    exact Nat.mul_lt_mul_of_pos_right h2 (Nat.two_pow_pos _)
  have e52 : (2 : Nat) ^ 52 = 4503599627370496 := by decide
  have e53 : (2 : Nat) ^ 53 = 9007199254740992 := by decide
  obtain ⟨q, hq⟩ : ∃ q, n * 2 ^ (52 - k) = 4503599627370496 + q := ⟨n * 2 ^ (52 - k) - 4503599627370496, by omega⟩
  have eb : floatOfInt .f64 (n : Nat) = (k + 1023) * 4503599627370496 + q := by rw [float_nat n k hk h1 h2, hq]; omega
  have er : FloatKind.f64.format.read ((k + 1023) * 4503599627370496 + q) = .number false (n * 2 ^ (52 - k)) ((k : Int) - 52) := by
    unfold Ieee.Format.read
    simp only [f64_sign, f64_binade, f64_inf, least]
    have r1 : ((k + 1023) * 4503599627370496 + q) % 9223372036854775808 = (k + 1023) * 4503599627370496 + q := by omega
    have r2 : ((k + 1023) * 4503599627370496 + q) / 9223372036854775808 = 0 := by omega
    rw [r1, r2, if_neg (by omega), if_pos (by omega)]
    have r3 : ((k + 1023) * 4503599627370496 + q) % 4503599627370496 = q := by omega
    have r4 : ((k + 1023) * 4503599627370496 + q) / 4503599627370496 = k + 1023 := by omega
    rw [r3, r4, ← hq]
    have : (-1074 : Int) + ((k + 1023 - 1 : Nat) : Int) = (k : Int) - 52 := by omega
    rw [this]
    rfl
  rw [eb]
  unfold cl kv
  rw [er]
  refine ⟨rfl, ?_⟩
  show Ieee.signed false (n * 2 ^ (52 - k)) ((k : Int) - 52 + 1074).toNat = _
  unfold Ieee.signed
  rw [if_neg (by decide), Nat.shiftLeft_eq, show ((k : Int) - 52 + 1074).toNat = k + 1022 by omega, Nat.mul_assoc, ← Nat.pow_add, show 52 - k + (k + 1022) = 1074 by omega]

theorem abs_low (b : Nat) (h : b < 9223372036854775808) : absF b = b := by
  unfold absF
  have e : bits .andNot .u64 (b : Int) 9223372036854775808 = (b : Int) := by
    show IntKind.u64.wrap ((BitVec.ofInt 64 (b : Int) &&& ~~~BitVec.ofInt 64 9223372036854775808).toNat : Int) = _
    have p63 : (2 : Nat) ^ 63 = 9223372036854775808 := by decide
    rw [BitVec.toNat_and, ofInt_u64 b (by omega), show (~~~BitVec.ofInt 64 9223372036854775808).toNat = 2 ^ 63 - 1 by decide, Nat.and_two_pow_sub_one_eq_mod, Nat.mod_eq_of_lt (by omega), wrap_u64]
    omega
  rw [e, Int.toNat_natCast]
def unitK : Nat := 2 ^ 1074
theorem unit_pos : 0 < unitK := by unfold unitK; exact Nat.two_pow_pos 1074
theorem kv_most : cl 9218868437227405311 = 0 ∧ (1073741824 * unitK : Nat) ≤ kv 9218868437227405311 := by
  refine ⟨by kernel_rfl, ?_⟩
  exact of_decide_eq_true (by kernel_rfl)

/-- It is a finite number above 0. -/
theorem posF_nat (n k : Nat) (hk : k ≤ 29) (h1 : 2 ^ k ≤ n) (h2 : n < 2 ^ (k + 1)) : PosF (floatOfInt .f64 (n : Nat)) := by
  obtain ⟨c, v⟩ := float_kv n k hk h1 h2
  have hv : kv (floatOfInt .f64 (n : Nat)) = (n * unitK : Nat) := (by unfold unitK; exact v)
  have hn : 1 ≤ n := by have := Nat.two_pow_pos k; omega
  have hn2 : n ≤ 1073741824 := by
    have : 2 ^ (k + 1) ≤ 2 ^ 30 := Nat.pow_le_pow_right (by omega) (by omega)
    have e30 : (2 : Nat) ^ 30 = 1073741824 := by decide
    omega
  have up : 0 < n * unitK := Nat.mul_pos hn unit_pos
  have ul : n * unitK ≤ 1073741824 * unitK := Nat.mul_le_mul_right _ hn2
  obtain ⟨m1, m2⟩ := kv_most
  have hb : floatOfInt .f64 (n : Nat) < 9223372036854775808 := by
    rw [float_nat n k hk h1 h2]
    have hb : n * 2 ^ (52 - k) < 2 ^ 53 := by
      have : 2 ^ (k + 1) * 2 ^ (52 - k) = 2 ^ 53 := by rw [← Nat.pow_add]; congr 1; omega
      rw [← this]
      exact Nat.mul_lt_mul_of_pos_right h2 (Nat.two_pow_pos _)
    have e53 : (2 : Nat) ^ 53 = 9007199254740992 := by decide
    omega
  clear v
  generalize floatOfInt .f64 (n : Nat) = b at c hv hb ⊢
  generalize n * unitK = U at hv up ul
  generalize 1073741824 * unitK = M at ul m2
  have eq_self : (FloatKind.f64.format.order b b == some .eq) = true := (eq_key b b).2 ⟨⟨by rw [c]; decide, by rw [c]; decide⟩, by simp [cmpK]⟩
  refine ⟨by simp [bne, eq_self], ?_, ?_, ?_⟩
  · have ab : absF b = b := abs_low b hb
    unfold infF
    rw [ab]
    cases h : FloatKind.f64.format.order b 9218868437227405311 == some .gt with
    | false => rfl
    | true =>
      have := ((gt_key b 9218868437227405311).1 h).2
      rw [c, hv, m1] at this
      unfold cmpK at this
      repeat' split at this
      all_goals omega
  · cases h : FloatKind.f64.format.order b 0 == some .eq with
    | false => rfl
    | true =>
      have := ((eq_key b 0).1 h).2
      rw [c, hv, cl_zero, kv_zero] at this
      unfold cmpK at this
      repeat' split at this
      all_goals omega
  · cases h : FloatKind.f64.format.order b 0 == some .lt with
    | false => rfl
    | true =>
      have := ((lt_key b 0).1 h).2
      rw [c, hv, cl_zero, kv_zero] at this
      unfold cmpK at this
      repeat' split at this
      all_goals omega
end Go.Proofs.YtdgmokfdkophpaaGreatDoor
