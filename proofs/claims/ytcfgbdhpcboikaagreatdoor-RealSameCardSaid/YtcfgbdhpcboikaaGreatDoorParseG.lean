/-
  parseFloat64 at any digits of 64 bits: what it gives is a function of them.
-/
import Derived.Test.YtcfgbdhpcboikaaGreatDoorAtofW
import Derived.Test.YtcfgbdhpcboikaaGreatDoorShortN
namespace Go.Proofs.YtcfgbdhpcboikaaGreatDoor
open Go.RowKit

/-- The line's upper half. -/
theorem row_hi (i : Nat) (hi : i < 696) : 9223372036854775808 ≤ p10hi i ∧ p10hi i ≤ 18446744073709547521 := by
  obtain ⟨r1, r2, r3, r4, r5, r6⟩ := row_ok i hi
  obtain ⟨b1, b2⟩ := row_bd i hi
  have hD := tenD_pos i
  have epm : pmN i + p10lo i = p10hi i * 18446744073709551616 := by
    unfold pmN
    have : 1 * 18446744073709551616 ≤ p10hi i * 18446744073709551616 := Nat.mul_le_mul_right _ r3
    omega
  have hpm : pmN i ≤ 340282366920938387905510881517444792320 := by
    refine Nat.le_of_not_lt fun h => ?_
    have := Nat.mul_le_mul_right (tenD i) (show 340282366920938387905510881517444792320 + 1 ≤ pmN i from h)
    rw [Nat.add_mul, Nat.one_mul] at this
    omega
  omega
/-- What uscale gives lies by the shifted product. -/
theorem usc_near (x h l s hi : Nat) (hh : x * h / 18446744073709551616 = hi) (h1 : 1 ≤ hi) (h2 : hi < 18446744073709551616) : (hi - 1) / 2 ^ s ≤ uscN x h l s ∧ uscN x h l s ≤ hi / 2 ^ s + 1 := by
  unfold uscN
  simp only []
  rw [hh]
  have m1 : (hi - 1) / 2 ^ s ≤ hi / 2 ^ s := Nat.div_le_div_right (by omega)
  split
  · have := or_bound (hi / 2 ^ s) 1 (by omega)
    omega
  · split
    · rw [show (hi + 18446744073709551615) % 18446744073709551616 = hi - 1 by omega]
      have := or_bound ((hi - 1) / 2 ^ s) (if 1 < (x * h % 18446744073709551616 + 18446744073709551616 - x * l / 18446744073709551616) % 18446744073709551616 then 1 else 0) (by split <;> omega)
      omega
    · have := or_bound (hi / 2 ^ s) (if 1 < (x * h % 18446744073709551616 + 18446744073709551616 - x * l / 18446744073709551616) % 18446744073709551616 then 1 else 0) (by split <;> omega)
      omega

/-- The bounds that parseFloat64's significand keeps, whatever the digits. -/
theorem par_bounds (d i b s u : Nat) (hi : i < 696) (hb1 : 1 ≤ b) (h1 : 2 ^ (b - 1) ≤ d) (h2 : d < 2 ^ b) (hb : b ≤ 64) (hs : parS b i = s) (hu : uscN (d * 2 ^ (64 - b)) (p10hi i) (p10lo i) s = u) :
    u < 72057594037927936 ∧ round4 (cutU u) < 9007199254740992 ∧ (4503599627370496 ≤ round4 (cutU u) ∨ parK b i + cutK u = 0) := by
  have hx2 : d * 2 ^ (64 - b) < 18446744073709551616 := by
    have : d * 2 ^ (64 - b) < 2 ^ b * 2 ^ (64 - b) := Nat.mul_lt_mul_of_pos_right h2 (Nat.two_pow_pos _)
    rw [← Nat.pow_add, show b + (64 - b) = 64 by omega] at this
    exact this
  have hx1 : 9223372036854775808 ≤ d * 2 ^ (64 - b) := by
    have : 2 ^ (b - 1) * 2 ^ (64 - b) ≤ d * 2 ^ (64 - b) := Nat.mul_le_mul_right _ h1
    rw [← Nat.pow_add, show b - 1 + (64 - b) = 63 by omega] at this
    exact this
  obtain ⟨r1, r2⟩ := row_hi i hi
  obtain ⟨x, hx⟩ : ∃ x, d * 2 ^ (64 - b) = x := ⟨_, rfl⟩
  rw [hx] at hx1 hx2 hu
  obtain ⟨H, hH⟩ : ∃ H, x * p10hi i / 18446744073709551616 = H := ⟨_, rfl⟩
  have H1 : 4611686018427387904 ≤ H := by
    rw [← hH, Nat.le_div_iff_mul_le (by decide)]
    have := Nat.mul_le_mul hx1 r1
    omega
  have H2 : H ≤ 18446744073709547521 := by
    rw [← hH]
    refine Nat.div_le_of_le_mul ?_
    have := Nat.mul_le_mul (show x ≤ 18446744073709551616 by omega) r2
    omega
  obtain ⟨n1, n2⟩ := usc_near x (p10hi i) (p10lo i) s H hH (by omega) (by omega)
  rw [hu] at n1 n2
  have s8 : 8 ≤ s := by unfold parS at hs; omega
  have e8 : (2 : Nat) ^ 8 = 256 := by decide
  have n3 : H / 2 ^ s ≤ H / 256 := by
    rw [← e8]
    exact Nat.div_le_div_left (Nat.pow_le_pow_right (by decide) s8) (by decide)
  have u1 : u ≤ 72057594037927921 := by omega
  refine ⟨by omega, ?_, ?_⟩
  · by_cases c : 36028797018963966 ≤ u
    · have : cutU u ≤ u / 2 + 1 := by
        unfold cutU
        rw [if_pos c]
        have := or_bound (u / 2) (u % 2) (by omega)
        omega
      unfold round4
      omega
    · have : cutU u = u := by unfold cutU; rw [if_neg c]
      rw [this]
      unfold round4
      omega
  · by_cases hk : parK b i = 0
    · by_cases c : 36028797018963966 ≤ u
      · left
        have : u / 2 ≤ cutU u := by
          unfold cutU
          rw [if_pos c]
          exact Nat.left_le_or
        have h3 : cutU u = 18014398509481983 ∨ 18014398509481984 ≤ cutU u := by omega
        unfold round4
        rcases h3 with h | h
        · rw [h]; decide
        · omega
      · right
        rw [hk]
        unfold cutK
        rw [if_neg c]
    · left
      have hs8 : s = 8 := by unfold parS at hs; unfold parK at hk; omega
      rw [hs8, e8] at n1
      have h3 : 18014398509481983 ≤ cutU u := by
        by_cases c : 36028797018963966 ≤ u
        · have : u / 2 ≤ cutU u := by
            unfold cutU
            rw [if_pos c]
            exact Nat.left_le_or
          omega
        · have : cutU u = u := by unfold cutU; rw [if_neg c]
          omega
      have h4 : cutU u = 18014398509481983 ∨ 18014398509481984 ≤ cutU u := by omega
      unfold round4
      rcases h4 with h | h
      · rw [h]; decide
      · omega

/-- What parseFloat64 gives, as a function of the digits and the line. -/
def parF (d i : Nat) : Nat × Value :=
  if 64 ≤ parS (Lib.bitLen d) i then (0, .nilIface)
  else (packBits 0 (parK (Lib.bitLen d) i + cutK (uscN (d * 2 ^ (64 - Lib.bitLen d)) (p10hi i) (p10lo i) (parS (Lib.bitLen d) i).toNat)) (round4 (cutU (uscN (d * 2 ^ (64 - Lib.bitLen d)) (p10hi i) (p10lo i) (parS (Lib.bitLen d) i).toNat))),
    packErr (parK (Lib.bitLen d) i + cutK (uscN (d * 2 ^ (64 - Lib.bitLen d)) (p10hi i) (p10lo i) (parS (Lib.bitLen d) i).toNat)))
theorem parF_any (d i S : Nat) (w : World) (T : Tabs w) (hS : IsSign S) (hd1 : 1 ≤ d) (hd : d < 18446744073709551616) (hi : i < 696) :
    Calls Tryz.prog 245 #[.int .u64 d, .int .i64 ((i : Int) - 348), .int .u64 S] w fun e' w' => e' = .returned (.tuple #[.float .f64 (S + (parF d i).1), (parF d i).2]) ∧ Below w.heap.size w w' := by
  obtain ⟨b, hb, b1, b64, l1, l2⟩ := bit_len d hd1 hd
  obtain ⟨p1, p2⟩ := lp_bd i hi
  have hlp : ((i : Int) - 348) * 108853 / 32768 = lpI i := rfl
  obtain ⟨s, hs⟩ : ∃ s : Nat, parS b i = s := ⟨(parS b i).toNat, by unfold parS; omega⟩
  have hs' : -(min 1074 (53 - (b : Int) - lpI i) - (64 - (b : Int)) + lpI i + 3) = s := hs
  unfold parF
  rw [hb, hs, Int.toNat_natCast]
  by_cases hfar : 64 ≤ s
  · rw [if_pos (by omega)]
    exact parseF_far d i b S s (lpI i) _ w T hS hd hb b64 hi hlp rfl hs' hfar
  · rw [if_neg (by omega)]
    obtain ⟨u, hu⟩ : ∃ u, uscN (d * 2 ^ (64 - b)) (p10hi i) (p10lo i) s = u := ⟨_, rfl⟩
    rw [hu]
    obtain ⟨q1, q2, q3⟩ := par_bounds d i b s u hi b1 l1 l2 b64 hs hu
    have hx2 : d * 2 ^ (64 - b) < 18446744073709551616 := by
      have : d * 2 ^ (64 - b) < 2 ^ b * 2 ^ (64 - b) := Nat.mul_lt_mul_of_pos_right l2 (Nat.two_pow_pos _)
      rw [← Nat.pow_add, show b + (64 - b) = 64 by omega] at this
      exact this
    have hk := par_k b i u
    have hr4 : roundN (cutU u) = round4 (cutU u) := round_same _ (by have := cutU_le u; omega)
    obtain ⟨K, hK⟩ : ∃ K, parK b i + cutK u = K := ⟨_, rfl⟩
    obtain ⟨m, hm⟩ : ∃ m, round4 (cutU u) = m := ⟨_, rfl⟩
    rw [hm] at q2 q3 hr4
    rw [hK] at q3 hk
    rw [hK, hm]
    have u63 : u < 9223372036854775808 := Nat.lt_trans q1 (by decide)
    have s64 : s < 64 := Nat.lt_of_not_le hfar
    refine (parseF_near d i b S s u K m _ (lpI i) _ w T hS hd hb b64 hi hlp rfl hs' s64 rfl hx2 hu u63 hm hr4 q2 hk q3).mono ?_
    rintro e w' ⟨hp, hB'⟩
    refine ⟨?_, hB'⟩
    unfold Packed packBits at hp
    unfold packBits
    rw [hp, Nat.zero_add]
end Go.Proofs.YtcfgbdhpcboikaaGreatDoor
