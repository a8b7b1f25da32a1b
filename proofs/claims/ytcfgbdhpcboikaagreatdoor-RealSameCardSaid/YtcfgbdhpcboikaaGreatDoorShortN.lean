/-
  The shortest digits of a whole number below 10^9 are its own. No program in sight.
-/
import Derived.Test.YtcfgbdhpcboikaaGreatDoorShort
namespace Go.Proofs.YtcfgbdhpcboikaaGreatDoor

theorem or_bound (a b : Nat) (hb : b ≤ 1) : a ≤ a ||| b ∧ a ||| b ≤ a + 1 := by
  refine ⟨Nat.left_le_or, ?_⟩
  have : b = 0 ∨ b = 1 := by omega
  rcases this with rfl | rfl
  · simp
  · have h := Nat.or_mod_two_pow (a := a) (b := 1) (n := 1)
    have : a ||| 1 = 2 * (a / 2) + 1 := by
      have e : (a ||| 1) / 2 = a / 2 := by
        have := Nat.or_div_two_pow (a := a) (b := 1) (n := 1)
        simpa using this
      have e2 : (a ||| 1) % 2 = 1 := by
        rw [show (2 : Nat) = 2 ^ 1 from rfl, Nat.or_mod_two_pow]
        have : a % 2 = 0 ∨ a % 2 = 1 := by omega
        rcases this with h | h <;> rw [show (2 : Nat) ^ 1 = 2 from rfl, h] <;> decide
      omega
    omega

/-- uscale by an exact power, up to its sticky bit. -/
theorem usc_exact (x h s : Nat) : x * h / (18446744073709551616 * 2 ^ s) ≤ uscN x h 0 s ∧ uscN x h 0 s ≤ x * h / (18446744073709551616 * 2 ^ s) + 1 := by
  have e : x * h / (18446744073709551616 * 2 ^ s) = x * h / 18446744073709551616 / 2 ^ s := by rw [Nat.div_div_eq_div_mul]
  rw [e]
  unfold uscN
  simp only []
  split
  · exact or_bound _ _ (Nat.le_refl _)
  · rw [if_neg (by rw [Nat.mul_zero, Nat.zero_div]; omega)]
    exact or_bound _ _ (by split <;> omega)

/-- The table's line, the power and the shift for a float of exponent k. -/
def iK (k : Nat) : Nat := (-(((k : Int) - 52) * 78913 / 262144) + 348).toNat
def lK (k : Nat) : Int := ((iK k : Int) - 348) * 108853 / 32768
def sK (k : Nat) : Nat := (60 - (k : Int) - lK k).toNat
def pK (k : Nat) : Nat := iK k - 348
structure ForK (k : Nat) : Prop where
  p : -(((k : Int) - 52) * 78913 / 262144) = (iK k : Int) - 348
  i : iK k = 348 + pK k
  p1 : 7 ≤ pK k
  p2 : pK k ≤ 16
  s : -(((1023 + k : Nat) : Int) - 1086 + lK k + 3) = sK k
  s64 : sK k < 64
  s1 : 1 ≤ sK k
  lo : p10lo (iK k) = 0
  one : 2 ^ (63 - k) * p10hi (iK k) = 4 * 10 ^ pK k * (18446744073709551616 * 2 ^ sK k)
  ge : 2 * (18446744073709551616 * 2 ^ sK k) ≤ 1024 * p10hi (iK k)
  le : 1024 * p10hi (iK k) ≤ 20 * (18446744073709551616 * 2 ^ sK k)
instance (k : Nat) : Decidable (ForK k) :=
  decidable_of_iff (-(((k : Int) - 52) * 78913 / 262144) = (iK k : Int) - 348 ∧ iK k = 348 + pK k ∧ 7 ≤ pK k ∧ pK k ≤ 16 ∧ -(((1023 + k : Nat) : Int) - 1086 + lK k + 3) = sK k ∧ sK k < 64 ∧ 1 ≤ sK k ∧ p10lo (iK k) = 0 ∧ 2 ^ (63 - k) * p10hi (iK k) = 4 * 10 ^ pK k * (18446744073709551616 * 2 ^ sK k) ∧ 2 * (18446744073709551616 * 2 ^ sK k) ≤ 1024 * p10hi (iK k) ∧ 1024 * p10hi (iK k) ≤ 20 * (18446744073709551616 * 2 ^ sK k))
    ⟨fun ⟨a, b, c, d, e, f, f1, g, h, i, j⟩ => ⟨a, b, c, d, e, f, f1, g, h, i, j⟩, fun ⟨a, b, c, d, e, f, f1, g, h, i, j⟩ => ⟨a, b, c, d, e, f, f1, g, h, i, j⟩⟩
theorem forK_all : ((List.range 29).all fun j => decide (ForK (j + 1))) = true := by kernel_rfl
theorem forK (k : Nat) (h1 : 1 ≤ k) (h2 : k ≤ 29) : ForK k := by
  have := List.all_eq_true.1 forK_all (k - 1) (List.mem_range.2 (by omega))
  have e : k - 1 + 1 = k := by omega
  rw [e] at this
  exact of_decide_eq_true this

theorem div_sub_le (N D U : Nat) (_hU : 0 < U) (h : 2 * U ≤ D) (hN : D ≤ N * U) : (N * U - D) / U ≤ N - 2 := by
  have : (N * U - D) ≤ (N - 2) * U := by
    rw [Nat.sub_mul]
    omega
  exact Nat.div_le_of_le_mul (by rw [Nat.mul_comm U]; exact this)
theorem div_add_ge (N D U : Nat) (hU : 0 < U) (h : 2 * U ≤ D) : N + 2 ≤ (N * U + D) / U := by
  rw [Nat.le_div_iff_mul_le hU, Nat.add_mul]
  omega
theorem div_add_le (N D U : Nat) (_hU : 0 < U) (h : D ≤ 20 * U) : (N * U + D) / U ≤ N + 20 := by
  refine Nat.div_le_of_le_mul ?_
  rw [Nat.mul_comm U, Nat.add_mul]
  omega

/-- The shortest digits of n * 2^(63 - k) (a whole number n of k + 1 bits). -/
theorem short_whole (n k odd : Nat) (h1 : 1 ≤ k) (h2 : k ≤ 29) (hn : 2 ≤ n) (hn2 : n < 1000000000) (hodd : odd ≤ 1) (hn3 : 1024 ≤ n * 2 ^ (63 - k)) (hm : n * 2 ^ (63 - k) < 18446744073709551616) (hH : p10hi (iK k) < 18446744073709551616) :
    shortD (ceilN (nudgeN (uscN (n * 2 ^ (63 - k) - 1024) (p10hi (iK k)) (p10lo (iK k)) (sK k)) odd))
      (nudgeN (uscN (n * 2 ^ (63 - k) + 1024) (p10hi (iK k)) (p10lo (iK k)) (sK k)) (-(odd : Int)) / 4)
      (roundN (uscN (n * 2 ^ (63 - k)) (p10hi (iK k)) (p10lo (iK k)) (sK k))) ((iK k : Int) - 348) = (n * 10 ^ (pK k - 1), -((pK k : Int) - 1)) ∧ n * 10 ^ (pK k - 1) < 9223372036854775808 := by
  have K := forK k h1 h2
  rw [K.lo]
  obtain ⟨U, hU⟩ : ∃ U, U = 18446744073709551616 * 2 ^ sK k := ⟨_, rfl⟩
  have hUp : 0 < U := by rw [hU]; exact Nat.mul_pos (by decide) (Nat.two_pow_pos _)
  have kge := K.ge
  have kle := K.le
  have kone := K.one
  obtain ⟨a1, a2⟩ := usc_exact (n * 2 ^ (63 - k) - 1024) (p10hi (iK k)) (sK k)
  obtain ⟨b1, b2⟩ := usc_exact (n * 2 ^ (63 - k) + 1024) (p10hi (iK k)) (sK k)
  rw [← hU] at kge kle kone a1 a2 b1 b2
  obtain ⟨N, hN⟩ : ∃ N, N = n * 10 ^ (pK k - 1) := ⟨_, rfl⟩
  have eP : 10 ^ pK k = 10 * 10 ^ (pK k - 1) := by
    obtain ⟨q, hq⟩ : ∃ q, pK k = q + 1 := ⟨pK k - 1, by have := K.p1; omega⟩
    rw [hq, Nat.pow_succ, Nat.mul_comm, Nat.add_sub_cancel]
  have eN : n * 2 ^ (63 - k) * p10hi (iK k) = 40 * N * U := by
    rw [Nat.mul_assoc, kone, eP, hN]
    generalize 10 ^ (pK k - 1) = c
    rw [show 4 * (10 * c) = 40 * c by omega]
    ac_rfl
  have e1 : (n * 2 ^ (63 - k) - 1024) * p10hi (iK k) = 40 * N * U - 1024 * p10hi (iK k) := by rw [Nat.sub_mul, eN]
  have e2 : (n * 2 ^ (63 - k) + 1024) * p10hi (iK k) = 40 * N * U + 1024 * p10hi (iK k) := by rw [Nat.add_mul, eN]
  rw [e1] at a1 a2
  rw [e2] at b1 b2
  have hle : 1024 * p10hi (iK k) ≤ 40 * N * U := by rw [← eN]; exact Nat.mul_le_mul_right _ hn3
  have c1 := div_sub_le (40 * N) _ U hUp kge hle
  have c2 := div_add_ge (40 * N) _ U hUp kge
  have c3 := div_add_le (40 * N) _ U hUp kle
  have hN1 : 1 ≤ N := by
    rw [hN]
    exact Nat.mul_pos (by omega) (Nat.pow_pos (by decide))
  have hNb : 40 * N < 9223372036854775808 := by
    have t1 : 40 * N * U < 18446744073709551616 * 18446744073709551616 := by
      rw [← eN]
      exact Nat.mul_lt_mul_of_lt_of_le hm (Nat.le_of_lt hH) (by decide)
    have t2 : 18446744073709551616 * 2 ≤ U := by
      rw [hU]
      exact Nat.mul_le_mul_left _ (by
        have : 2 ^ 1 ≤ 2 ^ sK k := Nat.pow_le_pow_right (by omega) K.s1
        exact this)
    refine Nat.lt_of_not_le fun h => ?_
    have := Nat.mul_le_mul h t2
    omega
  have hi := K.i
  have hp1 := K.p1
  generalize uscN (n * 2 ^ (63 - k) - 1024) (p10hi (iK k)) 0 (sK k) = vm at a1 a2 ⊢
  generalize uscN (n * 2 ^ (63 - k) + 1024) (p10hi (iK k)) 0 (sK k) = vp at b1 b2 ⊢
  generalize roundN (uscN (n * 2 ^ (63 - k)) (p10hi (iK k)) 0 (sK k)) = dm
  generalize (40 * N * U - 1024 * p10hi (iK k)) / U = ga at a1 a2 c1
  generalize (40 * N * U + 1024 * p10hi (iK k)) / U = gb at b1 b2 c2 c3
  have d1 : ceilN (nudgeN vm odd) ≤ 10 * N := by
    unfold ceilN nudgeN
    have q1 : (((vm : Int) + odd) % 18446744073709551616).toNat = vm + odd := by omega
    rw [q1]
    omega
  have d2 : nudgeN vp (-(odd : Int)) = vp - odd := by
    unfold nudgeN
    omega
  rw [d2]
  have d3 : (vp - odd) / 4 / 10 = N := by omega
  unfold shortD
  rw [d3, if_pos (by omega), ← hN]
  exact ⟨Prod.ext rfl (by show -((iK k : Int) - 348 - 1) = _; omega), by omega⟩
end Go.Proofs.YtcfgbdhpcboikaaGreatDoor
