/-
  Print of a whole number's float is its digits (numbers below 10^9 that are no powers of two).
-/
import Derived.Test.YtdgmokfdkophpaaGreatDoorWholeN
import Derived.Test.YtdgmokfdkophpaaGreatDoorFloatN
import Derived.Test.YtdgmokfdkophpaaGreatDoorPrintB
namespace Go.Proofs.YtdgmokfdkophpaaGreatDoor
open Go.RowKit

theorem ftoa_nat (n k : Nat) (k1 : 1 ≤ k) (k2 : k ≤ 29) (h1 : 2 ^ k < n) (h2 : n < 2 ^ (k + 1)) (h9 : n < 1000000000) :
    FtoaAt (floatOfInt .f64 (n : Nat)) (eText (coreD n) ((Lib.nDigits n : Int) - 1)) := by
  have K := forK k k1 k2
  have hn : 2 ≤ n := by
    have : 2 ^ 1 ≤ 2 ^ k := Nat.pow_le_pow_right (by omega) k1
    omega
  have e52 : (2 : Nat) ^ 52 = 4503599627370496 := by decide
  have e53 : (2 : Nat) ^ 53 = 9007199254740992 := by decide
  have eA : 2 ^ k * 2 ^ (52 - k) = 4503599627370496 := by rw [← e52, ← Nat.pow_add]; congr 1; omega
  have eB : 2 ^ (k + 1) * 2 ^ (52 - k) = 9007199254740992 := by rw [← e53, ← Nat.pow_add]; congr 1; omega
  have p23 : 8388608 ≤ 2 ^ (52 - k) := by
    have : 2 ^ 23 ≤ 2 ^ (52 - k) := Nat.pow_le_pow_right (by omega) (by omega)
    have e23 : (2 : Nat) ^ 23 = 8388608 := by decide
    omega
  have lo : 4503599627370496 + 2 ^ (52 - k) ≤ n * 2 ^ (52 - k) := by
    have := Nat.mul_le_mul_right (2 ^ (52 - k)) (show 2 ^ k + 1 ≤ n from h1)
    rw [Nat.add_mul, eA, Nat.one_mul] at this
    exact this
  have hi : n * 2 ^ (52 - k) + 2 ^ (52 - k) ≤ 9007199254740992 := by
    have := Nat.mul_le_mul_right (2 ^ (52 - k)) (show n + 1 ≤ 2 ^ (k + 1) from h2)
    rw [Nat.add_mul, eB, Nat.one_mul] at this
    exact this
  have e63 : n * 2 ^ (63 - k) = n * 2 ^ (52 - k) * 2048 := by
    rw [Nat.mul_assoc, show (2048 : Nat) = 2 ^ 11 by decide, ← Nat.pow_add]
    congr 2
    omega
  have hb := float_nat n k k2 (by omega) h2
  obtain ⟨f, hf⟩ : ∃ f, n * 2 ^ (52 - k) = 4503599627370496 + f := ⟨n * 2 ^ (52 - k) - 4503599627370496, by omega⟩
  rw [hf] at hb lo hi
  have em : (4503599627370496 + f) * 2048 = n * 2 ^ (63 - k) := by rw [e63, hf]
  obtain ⟨H, hN⟩ := short_whole n k ((4503599627370496 + f) * 2048 / 2048 % 2) k1 k2 hn h9 (by omega) (by rw [← em]; omega) (by rw [← em]; omega) (p10_lt _).1
  rw [← em] at H
  have hn1 : 1 ≤ n * 10 ^ (pK k - 1) := Nat.mul_pos (by omega) (Nat.pow_pos (by decide))
  have kp1 := K.p1
  have kp2 := K.p2
  have := ftoaAt_normal (floatOfInt .f64 (n : Nat)) (1023 + k) f (n * 10 ^ (pK k - 1)) (lK k) (-((pK k : Int) - 1)) (iK k) (sK k) ((4503599627370496 + f) * 2048 / 2048 % 2) _ _ _ _ _ _ _ _
    (by rw [hb]; omega) (by rw [hb]; omega) (by rw [hb]; omega) (by omega) (by omega) (by omega) (by omega)
    (by rw [show (((1023 + k : Nat) : Int) - 1086 + 11) = (k : Int) - 52 by omega]; exact K.p) (by have := K.i; omega) rfl K.s K.s64 rfl rfl rfl rfl rfl rfl rfl rfl rfl (p10_lt _).1 (p10_lt _).2 H hn1 (by omega) (by omega) (by omega)
  rw [core_mul10 n _ (by omega), nDigits_mul10 n (by omega), show (((Lib.nDigits n + (pK k - 1) : Nat) : Int) + -((pK k : Int) - 1) - 1) = (Lib.nDigits n : Int) - 1 by omega] at this
  exact this

theorem nDigits_le (n : Nat) (h : n < 1000000000) : Lib.nDigits n ≤ 20 := nDigits_le20 n (by omega)

/-- Print of a whole number. -/
theorem print_digits (n : Nat) (w : World) (T : Tabs w) (h0 : 1 ≤ n) (h9 : n < 1000000000) (hF : FtoaAt (floatOfInt .f64 (n : Nat)) (eText (coreD n) ((Lib.nDigits n : Int) - 1))) (hP : PosF (floatOfInt .f64 (n : Nat))) :
    Calls Tryz.prog 19 #[.float .f64 (floatOfInt .f64 (n : Nat))] w fun e w' => e = .returned (.string ⟨(Lib.decDigits n).toArray⟩) ∧ Below w.heap.size w w' := by
  obtain ⟨l1, l2⟩ := core_len n h0
  have l3 := nDigits_le n h9
  have P := partsAt_text (coreD n) ((Lib.nDigits n : Int) - 1) l1 (by omega) (core_dig n) (by omega) (by omega)
  have := print_whole _ _ _ _ (coreD n) _ w T hF P hP (by omega) (by omega)
  rw [show ((Lib.nDigits n : Int) - 1 + 1 - ((coreD n).length : Int)).toNat = Lib.nDigits n - (coreD n).length by omega, core_back] at this
  exact this
theorem print_nat (n k : Nat) (w : World) (T : Tabs w) (k1 : 1 ≤ k) (k2 : k ≤ 29) (h1 : 2 ^ k < n) (h2 : n < 2 ^ (k + 1)) (h9 : n < 1000000000) :
    Calls Tryz.prog 19 #[.float .f64 (floatOfInt .f64 (n : Nat))] w fun e w' => e = .returned (.string ⟨(Lib.decDigits n).toArray⟩) ∧ Below w.heap.size w w' :=
  print_digits n w T (by omega) h9 (ftoa_nat n k k1 k2 h1 h2 h9) (posF_nat n k k2 (by omega) h2)
end Go.Proofs.YtdgmokfdkophpaaGreatDoor
