/-
  Print of a power of two below 2^30 is its digits.
-/
import Derived.Test.YtdgmokfdkophpaaGreatDoorPrintN
import Derived.Test.YtdgmokfdkophpaaGreatDoorShortP
namespace Go.Proofs.YtdgmokfdkophpaaGreatDoor
open Go.RowKit

def iP (k : Nat) : Nat := (-((((k : Int) - 52) * 631305 - 261663) / 2097152) + 348).toNat
def lP (k : Nat) : Int := ((iP k : Int) - 348) * 108853 / 32768
def sP (k : Nat) : Nat := (60 - (k : Int) - lP k).toNat
/-- What shortFloat tells of 2^k. -/
def dP (k : Nat) : Nat × Int :=
  shortD (ceilN (nudgeN (uscN (9223372036854775808 - 512) (p10hi (iP k)) (p10lo (iP k)) (sP k)) (0 : Nat)))
    (nudgeN (uscN (9223372036854775808 + 1024) (p10hi (iP k)) (p10lo (iP k)) (sP k)) (-((0 : Nat) : Int)) / 4)
    (roundN (uscN 9223372036854775808 (p10hi (iP k)) (p10lo (iP k)) (sP k))) ((iP k : Int) - 348)
def jP (k : Nat) : Nat := (-(dP k).2).toNat
def okP (k : Nat) : Bool :=
  decide (-((((k : Int) - 52) * 631305 - 261663) / 2097152) = (iP k : Int) - 348) && decide (iP k < 696) && decide (-(((1023 + k : Nat) : Int) - 1086 + lP k + 3) = sP k) && decide (sP k < 64) &&
  decide (dP k = (2 ^ k * 10 ^ jP k, -(jP k : Int))) && decide (2 ^ k * 10 ^ jP k < 18446744073709551616) && decide (jP k ≤ 30)
theorem okP_all : ((List.range 30).all okP) = true := by kernel_rfl

theorem ftoa_pow (k : Nat) (h : k ≤ 29) : FtoaAt (floatOfInt .f64 ((2 ^ k : Nat) : Int)) (eText (coreD (2 ^ k)) ((Lib.nDigits (2 ^ k) : Int) - 1)) := by
  have K := List.all_eq_true.1 okP_all k (List.mem_range.2 (by omega))
  unfold okP at K
  simp only [Bool.and_eq_true, decide_eq_true_eq] at K
  obtain ⟨⟨⟨⟨⟨⟨q1, q2⟩, q3⟩, q4⟩, q5⟩, q6⟩, q7⟩ := K
  have hb := float_nat (2 ^ k) k h (Nat.le_refl _) (Nat.pow_lt_pow_right (by omega) (by omega))
  have eA : 2 ^ k * 2 ^ (52 - k) = 4503599627370496 := by
    have e52 : (2 : Nat) ^ 52 = 4503599627370496 := by decide
    rw [← e52, ← Nat.pow_add]; congr 1; omega
  rw [eA] at hb
  have hp := Nat.two_pow_pos k
  have hn1 : 1 ≤ 2 ^ k * 10 ^ jP k := Nat.mul_pos hp (Nat.pow_pos (by decide))
  have F : FtoaAt (floatOfInt .f64 ((2 ^ k : Nat) : Int)) (eText ((Lib.decDigits (2 ^ k * 10 ^ jP k)).take (trimN (Lib.decDigits (2 ^ k * 10 ^ jP k)))) ((Lib.nDigits (2 ^ k * 10 ^ jP k) : Int) + -(jP k : Int) - 1)) := by
    intro w B ad c S hO T hS
    refine ftoa_normal w B ad c S (floatOfInt .f64 ((2 ^ k : Nat) : Int)) (1023 + k) 0 (2 ^ k * 10 ^ jP k) (-(jP k : Int)) hO T (by rw [hb]; omega) (by rw [hb]; omega) (by rw [hb]; omega) (by omega) (by omega) (by omega) hS ?_ hn1 q6 (by omega) (by omega)
    intro w' T'
    have := short_pow 9223372036854775808 (((1023 + k : Nat) : Int) - 1086) (lP k) (iP k) (sP k) 0 _ _ _ _ _ _ _ _ w' T' (by omega) (by omega) rfl
      (by rw [show (((1023 + k : Nat) : Int) - 1086 + 11) = (k : Int) - 52 by omega]; exact q1) q2 rfl q3 q4 (by decide) rfl rfl rfl rfl rfl rfl rfl rfl (p10_lt _).1 (p10_lt _).2
    have q5' := q5
    unfold dP at q5'
    rw [q5'] at this
    exact this
  rw [core_mul10 _ _ hp, nDigits_mul10 _ hp, show (((Lib.nDigits (2 ^ k) + jP k : Nat) : Int) + -(jP k : Int) - 1) = (Lib.nDigits (2 ^ k) : Int) - 1 by omega] at F
  exact F

/-- Print of a whole number from 1 to 999999999. -/
theorem print_int (n : Nat) (w : World) (T : Tabs w) (h0 : 1 ≤ n) (h9 : n < 1000000000) :
    Calls Tryz.prog 19 #[.float .f64 (floatOfInt .f64 (n : Nat))] w fun e w' => e = .returned (.string ⟨(Lib.decDigits n).toArray⟩) ∧ Below w.heap.size w w' := by
  obtain ⟨k, hk⟩ : ∃ k, k = n.log2 := ⟨_, rfl⟩
  obtain ⟨h1, h2⟩ := (Nat.log2_eq_iff (by omega : n ≠ 0)).1 hk.symm
  have k2 : k ≤ 29 := by
    refine Nat.le_of_not_lt fun h => ?_
    have : 2 ^ 30 ≤ 2 ^ k := Nat.pow_le_pow_right (by omega) h
    have e30 : (2 : Nat) ^ 30 = 1073741824 := by decide
    omega
  by_cases hp : n = 2 ^ k
  · subst hp
    exact print_digits _ w T h0 h9 (ftoa_pow k k2) (posF_nat _ k k2 (Nat.le_refl _) h2)
  · have hk1 : 1 ≤ k := by
      refine Nat.pos_of_ne_zero fun h => ?_
      subst h
      simp at h1 h2 hp
      omega
    exact print_nat n k w T hk1 k2 (by omega) h2 h9
end Go.Proofs.YtdgmokfdkophpaaGreatDoor
