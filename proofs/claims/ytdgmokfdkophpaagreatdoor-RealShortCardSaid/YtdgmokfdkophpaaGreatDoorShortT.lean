/-
  What shortFloat computes: digits whose value is nearest to the float, and none coarser. No program in sight.
  The digits of shortFloat, for every float above 0. No program in sight.
-/
import Derived.Test.YtdgmokfdkophpaaGreatDoorUnr
import Derived.Test.YtdgmokfdkophpaaGreatDoorShortB
namespace Go.Proofs.YtdgmokfdkophpaaGreatDoor
/-- What the pick needs: the bounds, the nearest digits. -/
structure Pick (dmin dmax dm : Nat) : Prop where
  ne : dmin ≤ dmax
  mid : dmin < dmax → dmin ≤ dm ∧ dm ≤ dmax
  wide : dmax < dmin + 10

theorem pick_reg (U V M dmin dmax dm : Nat) (h1 : U ≤ V) (h2 : V < 10 * U)
    (hmin : ∀ n, dmin ≤ n ↔ 2 * M * V ≤ 2 * n * U + V ∧ (M % 2 = 1 → 2 * M * V < 2 * n * U + V))
    (hmax : ∀ n, n ≤ dmax ↔ 2 * n * U ≤ (2 * M + 1) * V ∧ (M % 2 = 1 → 2 * n * U < (2 * M + 1) * V))
    (d1 : 2 * M * V ≤ 2 * dm * U + U) (d2 : 2 * dm * U ≤ 2 * M * V + U) : Pick dmin dmax dm := by
  have hU : 0 < U := by omega
  have eM : (2 * M + 1) * V = 2 * M * V + V := by rw [Nat.add_mul, Nat.one_mul]
  have inn : dmin ≤ dm ∧ dm ≤ dmax := by
    rw [hmin, hmax, eM]
    rcases Nat.lt_or_ge U V with h | h
    · exact ⟨⟨by omega, fun _ => by omega⟩, by omega, fun _ => by omega⟩
    · obtain rfl : U = V := by omega
      exact ⟨⟨by omega, fun _ => by
        have : 2 * M * U < 2 * (dm + 1) * U := by rw [Nat.mul_add 2, Nat.add_mul]; omega
        have := Nat.lt_of_mul_lt_mul_right this
        have : 2 * M * U ≤ 2 * dm * U := Nat.mul_le_mul_right _ (by omega)
        omega⟩, by omega, fun _ => by
        have : 2 * dm * U < 2 * (M + 1) * U := by rw [Nat.mul_add 2, Nat.add_mul]; omega
        have := Nat.lt_of_mul_lt_mul_right this
        have : 2 * dm * U ≤ 2 * M * U := Nat.mul_le_mul_right _ (by omega)
        omega⟩
  refine ⟨by omega, fun _ => inn, ?_⟩
  have a := ((hmin dmin).1 (Nat.le_refl _)).1
  have b := ((hmax dmax).1 (Nat.le_refl _)).1
  rw [eM] at b
  have : 2 * dmax * U < 2 * (dmin + 10) * U := by rw [Nat.mul_add 2, Nat.add_mul]; omega
  have := Nat.lt_of_mul_lt_mul_right this
  omega
theorem pick_skew (U V M dmin dmax dm : Nat) (h1 : 4 * U ≤ 3 * V) (h2 : 3 * V < 40 * U)
    (hmin : ∀ n, dmin ≤ n ↔ 4 * M * V ≤ 4 * n * U + V)
    (hmax : ∀ n, n ≤ dmax ↔ 2 * n * U ≤ (2 * M + 1) * V)
    (d1 : 2 * M * V ≤ 2 * dm * U + U) (d2 : 2 * dm * U ≤ 2 * M * V + U) : Pick dmin dmax dm := by
  have hU : 0 < U := by omega
  have eM : (2 * M + 1) * V = 2 * M * V + V := by rw [Nat.add_mul, Nat.one_mul]
  have e4 : 4 * M * V = 2 * (2 * M * V) := by rw [← Nat.mul_assoc, ← Nat.mul_assoc]
  have e4n : ∀ n, 4 * n * U = 2 * (2 * n * U) := fun n => by rw [← Nat.mul_assoc, ← Nat.mul_assoc]
  have ne : dmin ≤ dmax := by
    rw [hmax, eM]
    rcases Nat.eq_zero_or_pos dmin with h | h
    · rw [h]; simp
    · obtain ⟨n, rfl⟩ : ∃ n, dmin = n + 1 := ⟨dmin - 1, by omega⟩
      have : ¬ n + 1 ≤ n := by omega
      rw [hmin, e4n] at this
      have e : 2 * (n + 1) * U = 2 * n * U + 2 * U := by rw [Nat.mul_add 2, Nat.add_mul]
      omega
  refine ⟨ne, fun hlt => ⟨?_, ?_⟩, ?_⟩
  · refine Classical.byContradiction fun hn => ?_
    have h3 : ¬ dmin ≤ dm := hn
    rw [hmin, e4n] at h3
    have b := ((hmax (dm + 2)).1 (by omega))
    rw [eM, Nat.mul_add 2, Nat.add_mul] at b
    omega
  · rw [hmax, eM]; omega
  · have a := ((hmin dmin).1 (Nat.le_refl _))
    have b := ((hmax dmax).1 (Nat.le_refl _))
    rw [eM] at b
    rw [e4n] at a
    have : 2 * dmax * U < 2 * (dmin + 10) * U := by rw [Nat.mul_add 2, Nat.add_mul]; omega
    have := Nat.lt_of_mul_lt_mul_right this
    omega
/-- The digits that are picked: of one digit fewer if there are such, else within the bounds. -/
theorem pick_short (dmin dmax dm : Nat) (p : Int) (h : Pick dmin dmax dm) (h1 : 1 ≤ dmin) :
    (∃ d, shortD dmin dmax dm p = (d, -(p - 1)) ∧ 1 ≤ d ∧ dmin ≤ 10 * d ∧ 10 * d ≤ dmax ∧ (∀ n, dmin ≤ 10 * n → 10 * n ≤ dmax → n = d)) ∨
    (∃ d, shortD dmin dmax dm p = (d, -p) ∧ 1 ≤ d ∧ dmin ≤ d ∧ d ≤ dmax ∧ (∀ n, dmin ≤ 10 * n → 10 * n ≤ dmax → False)) := by
  have w := h.wide
  have n1 := h.ne
  unfold shortD
  by_cases c1 : dmin ≤ dmax / 10 * 10
  · rw [if_pos c1]
    exact .inl ⟨_, rfl, by omega, by omega, by omega, fun n a b => by omega⟩
  · rw [if_neg c1]
    by_cases c2 : dmin < dmax
    · rw [if_pos c2]
      obtain ⟨m1, m2⟩ := h.mid c2
      exact .inr ⟨_, rfl, by omega, m1, m2, fun n a b => by omega⟩
    · rw [if_neg c2]
      exact .inr ⟨_, rfl, by omega, by omega, by omega, fun n a b => by omega⟩

/-- One unit of the digits, and one step of the float, in one measure. -/
def sU (i : Nat) : Nat := 10 ^ (348 - i) * 2 ^ 1074
def sV (k i : Nat) : Nat := 2 ^ k * 10 ^ (i - 348)
theorem sU_pos (i : Nat) : 0 < sU i := Nat.mul_pos (Nat.pow_pos (by decide)) (Nat.two_pow_pos 1074)

/-- A point near the float, scaled. -/
theorem point_unr (Y j k i s z t : Nat) (e : Int) (hi : i < 696) (hY : 0 < Y) (hx : Y * 2 ^ j < 18446744073709551616) (hz : j + t = z) (he : e = (k : Int) - 1074 - z) (hs : -(e + lpI i + 3) = s) (hj : 7 ≤ j) (h5 : 5 ≤ s) :
    uscN (Y * 2 ^ j) (p10hi i) (p10lo i) s = unr (Y * sV k i) (sU i * 2 ^ t) := by
  have hN : Near (Y * 2 ^ j) (pmN i) s (tenT i) (tenD i) := by
    refine near_all _ i s hi (Nat.mul_pos hY (Nat.two_pow_pos _)) hx (.inl ⟨h5, ?_⟩)
    have e : 2 ^ j = 2 ^ (j - 7) * 128 := by rw [show (128 : Nat) = 2 ^ 7 from rfl, ← Nat.pow_add]; congr 1; omega
    rw [e, ← Nat.mul_assoc]
    exact Nat.mul_mod_left _ _
  rw [usc_value _ i s e hi (Nat.mul_pos hY (Nat.two_pow_pos _)) hx hs hN]
  refine unr_cross _ _ _ _ (Nat.mul_pos (Nat.pow_pos (by decide)) (Nat.two_pow_pos _)) (Nat.mul_pos (sU_pos i) (Nat.two_pow_pos _)) ?_
  unfold sU sV
  have e1 : 2 ^ j * 2 ^ e.toNat * 2 ^ 1074 * 2 ^ t = 2 ^ k * 2 ^ (-e).toNat := by
    obtain ⟨zz, hzz⟩ : ∃ zz, 1074 = zz := ⟨_, rfl⟩
    rw [hzz]
    rw [← Nat.pow_add, ← Nat.pow_add, ← Nat.pow_add, ← Nat.pow_add]
    congr 1
    omega
  generalize (2 : Nat) ^ 1074 = y at *
  generalize (2 : Nat) ^ j = a1 at *
  generalize (2 : Nat) ^ k = a2 at *
  generalize (2 : Nat) ^ e.toNat = a3 at *
  generalize (2 : Nat) ^ (-e).toNat = a4 at *
  generalize (2 : Nat) ^ t = a5 at *
  generalize (10 : Nat) ^ (i - 348) = b1 at *
  generalize (10 : Nat) ^ (348 - i) = b2 at *
  calc Y * a1 * b1 * a3 * (b2 * y * a5) = Y * b1 * b2 * (a1 * a3 * y * a5) := by ac_rfl
    _ = Y * b1 * b2 * (a2 * a4) := by rw [e1]
    _ = Y * (a2 * b1) * (b2 * a4) := by ac_rfl

/-- The upper bound's digits. -/
theorem max_iff (U V M umax odd dmax : Nat) (hU : 0 < U) (ho : M % 2 = odd) (hu : umax = unr ((2 * M + 1) * V) (U * 2 ^ 1)) (hb : odd ≤ umax) (hd : (umax - odd) / 4 = dmax) (n : Nat) :
    n ≤ dmax ↔ 2 * n * U ≤ (2 * M + 1) * V ∧ (M % 2 = 1 → 2 * n * U < (2 * M + 1) * V) := by
  have g := fun k => unr_ge ((2 * M + 1) * V) (U * 2 ^ 1) k (by omega)
  have l := fun k => unr_le ((2 * M + 1) * V) (U * 2 ^ 1) k (by omega)
  rw [← hu] at g l
  generalize (2 * M + 1) * V = A at *
  have e : (2 * n) * (U * 2 ^ 1) = 2 * (2 * n * U) := by rw [Nat.pow_one]; ac_rfl
  have g2 := g (2 * n)
  have l2 := l (2 * n)
  rw [e] at g2 l2
  generalize 2 * n * U = z at *
  have : odd = 0 ∨ odd = 1 := by omega
  rcases this with rfl | rfl
  · constructor
    · intro h
      exact ⟨by have := g2.1 (by omega); omega, fun h => by omega⟩
    · rintro ⟨h, _⟩
      have := g2.2 (by omega)
      omega
  · constructor
    · intro h
      have : ¬ umax ≤ 2 * (2 * n) := by omega
      rw [l2] at this
      exact ⟨by omega, fun _ => by omega⟩
    · rintro ⟨_, h⟩
      have := h ho
      have : ¬ umax ≤ 2 * (2 * n) := by rw [l2]; omega
      omega
/-- The lower bound's digits. -/
theorem min_iff (U V M umin odd dmin : Nat) (hU : 0 < U) (hM : 1 ≤ M) (ho : M % 2 = odd) (hu : umin = unr ((2 * M - 1) * V) (U * 2 ^ 1)) (hd : (umin + odd + 3) / 4 = dmin) (n : Nat) :
    dmin ≤ n ↔ 2 * M * V ≤ 2 * n * U + V ∧ (M % 2 = 1 → 2 * M * V < 2 * n * U + V) := by
  have g := fun k => unr_ge ((2 * M - 1) * V) (U * 2 ^ 1) k (by omega)
  have l := fun k => unr_le ((2 * M - 1) * V) (U * 2 ^ 1) k (by omega)
  rw [← hu] at g l
  have eA : 2 * M * V = (2 * M - 1) * V + V := by rw [← Nat.succ_mul]; congr 1; omega
  rw [eA]
  generalize (2 * M - 1) * V = A at *
  have e : (2 * n) * (U * 2 ^ 1) = 2 * (2 * n * U) := by rw [Nat.pow_one]; ac_rfl
  have g2 := g (2 * n)
  have l2 := l (2 * n)
  rw [e] at g2 l2
  generalize 2 * n * U = z at *
  have : odd = 0 ∨ odd = 1 := by omega
  rcases this with rfl | rfl
  · constructor
    · intro h
      exact ⟨by have := l2.1 (by omega); omega, fun h => by omega⟩
    · rintro ⟨h, _⟩
      have := l2.2 (by omega)
      omega
  · constructor
    · intro h
      have : ¬ 2 * (2 * n) ≤ umin := by omega
      rw [g2] at this
      exact ⟨by omega, fun _ => by omega⟩
    · rintro ⟨_, h⟩
      have := h ho
      have : ¬ 2 * (2 * n) ≤ umin := by rw [g2]; omega
      omega
theorem min_iff_skew (U V M umin dmin : Nat) (hU : 0 < U) (hM : 1 ≤ M) (hu : umin = unr ((4 * M - 1) * V) (U * 2 ^ 2)) (hd : (umin + 3) / 4 = dmin) (n : Nat) :
    dmin ≤ n ↔ 4 * M * V ≤ 4 * n * U + V := by
  have l := fun k => unr_le ((4 * M - 1) * V) (U * 2 ^ 2) k (by omega)
  rw [← hu] at l
  have eA : 4 * M * V = (4 * M - 1) * V + V := by rw [← Nat.succ_mul]; congr 1; omega
  rw [eA]
  generalize (4 * M - 1) * V = A at *
  have e : (2 * n) * (U * 2 ^ 2) = 2 * (4 * n * U) := by rw [show (2 : Nat) ^ 2 = 4 from rfl]; ac_rfl
  have l2 := l (2 * n)
  rw [e] at l2
  generalize 4 * n * U = z at *
  constructor
  · intro h
    have := l2.1 (by omega)
    omega
  · intro h
    have := l2.2 (by omega)
    omega

/-- The table's line for a float whose step is 2^k; for a power of two. -/
def iR (k : Nat) : Nat := (348 - ((k : Int) - 1074) * 78913 / 262144).toNat
def iS (k : Nat) : Nat := (348 - (((k : Int) - 1074) * 631305 - 261663) / 2097152).toNat
def RegOK (k : Nat) : Prop := iR k ≤ 672 ∧ (iR k : Int) - 348 = -(((k : Int) - 1074) * 78913 / 262144) ∧ sU (iR k) ≤ sV k (iR k) ∧ sV k (iR k) < 10 * sU (iR k) ∧ 5 ≤ 1082 - (k : Int) - lpI (iR k) ∧ 1082 - (k : Int) - lpI (iR k) ≤ 15 ∧ 56 ≤ iR k
def SkewOK (k : Nat) : Prop := iS k ≤ 672 ∧ (iS k : Int) - 348 = -((((k : Int) - 1074) * 631305 - 261663) / 2097152) ∧ 4 * sU (iS k) ≤ 3 * sV k (iS k) ∧ 3 * sV k (iS k) < 40 * sU (iS k) ∧ 5 ≤ 1082 - (k : Int) - lpI (iS k) ∧ 1082 - (k : Int) - lpI (iS k) ≤ 15 ∧ 56 ≤ iS k
instance (k : Nat) : Decidable (RegOK k) := by unfold RegOK; exact inferInstance
instance (k : Nat) : Decidable (SkewOK k) := by unfold SkewOK; exact inferInstance
theorem reg_all : ((List.range 2046).all fun k => decide (RegOK k)) = true := by kernel_rfl
theorem skew_all : ((List.range 2046).all fun k => decide (SkewOK k)) = true := by kernel_rfl
theorem reg_ok (k : Nat) (h : k < 2046) : RegOK k := of_decide_eq_true (List.all_eq_true.1 reg_all k (List.mem_range.2 h))
theorem skew_ok (k : Nat) (h : k < 2046) : SkewOK k := of_decide_eq_true (List.all_eq_true.1 skew_all k (List.mem_range.2 h))
theorem lp672 : lpI (iR 0) = 1076 := by kernel_rfl

theorem twice_mul (M p : Nat) : M * p + (M * p + p) = (2 * M + 1) * p := by rw [Nat.add_mul, Nat.one_mul, Nat.mul_assoc]; omega
theorem ac_sU (n y z : Nat) : 2 * (n * y * z) = 2 * n * (y * z) := by ac_rfl
theorem tenA_sU (n i : Nat) (hi : i ≤ 696) : 2 * tenA n (696 - i) = 2 * n * sU i := by
  unfold tenA sU
  rw [show 696 - i - 348 = 348 - i by omega]
  exact ac_sU _ _ _
/-- Which digits are nearest to the float. -/
theorem rn_reg (M k i n : Nat) (hi : i ≤ 696) (hM : 1 ≤ M) (hm : M < 9007199254740992) (hk : 4503599627370496 < M ∨ k = 0) (hr : k * 4503599627370496 + M < infR) :
    IsRN (tenA n (696 - i)) (tenB (696 - i)) (k * 4503599627370496 + M) ↔ (2 * M * sV k i ≤ 2 * n * sU i + sV k i ∧ (M % 2 = 1 → 2 * M * sV k i < 2 * n * sU i + sV k i)) ∧ (2 * n * sU i ≤ (2 * M + 1) * sV k i ∧ (M % 2 = 1 → 2 * n * sU i < (2 * M + 1) * sV k i)) := by
  have eA := tenA_sU n i hi
  have eB : tenB (696 - i) = 10 ^ (i - 348) := by unfold tenB; rw [show 348 - (696 - i) = i - 348 by omega]
  have hv := vals_of k M hm (by omega)
  have hu := ulp_of k M hm (by omega)
  have hs := vals_succ (k * 4503599627370496 + M)
  rw [hv, hu] at hs
  have hq : ∀ q, k * 4503599627370496 + M = q + 1 → vals q + vals (k * 4503599627370496 + M) + 2 ^ k = 2 * M * 2 ^ k := by
    intro q hq
    have hs' := vals_succ q
    have hu' : ulp q = 2 ^ k := by
      rw [show q = k * 4503599627370496 + (M - 1) by omega]
      exact ulp_of k (M - 1) (by omega) (by omega)
    rw [← hq, hv, hu'] at hs'
    rw [hv, Nat.mul_assoc]
    omega
  obtain ⟨q0, hq0⟩ : ∃ q, k * 4503599627370496 + M = q + 1 := ⟨k * 4503599627370496 + M - 1, by omega⟩
  have e1 : (vals q0 + vals (k * 4503599627370496 + M)) * 10 ^ (i - 348) + sV k i = 2 * M * sV k i := by
    unfold sV
    rw [← Nat.mul_assoc, ← Nat.add_mul, hq q0 hq0]
  have e2 : (vals (k * 4503599627370496 + M) + vals (k * 4503599627370496 + M + 1)) * 10 ^ (i - 348) = (2 * M + 1) * sV k i := by
    unfold sV
    rw [← Nat.mul_assoc, hs, hv, twice_mul]
  have hpar : (k * 4503599627370496 + M) % 2 = M % 2 := by omega
  constructor
  · intro h
    have a := h.lo q0 hq0
    have b := h.hi hr
    rw [eA, eB] at a b
    rw [e2] at b
    rw [hpar] at a b
    refine ⟨⟨by omega, fun g => by have := a.2 g; omega⟩, b⟩
  · rintro ⟨a, b⟩
    refine ⟨Nat.le_of_lt hr, fun q hq' => ?_, fun _ => ?_⟩
    · obtain rfl : q = q0 := by omega
      rw [eA, eB, hpar]
      exact ⟨by omega, fun g => by have := a.2 g; omega⟩
    · rw [eA, eB, hpar, e2]
      exact b
theorem rn_skew (M k i n : Nat) (hi : i ≤ 696) (hk : 1 ≤ k) (hM : M = 4503599627370496) (hr : k * 4503599627370496 + M < infR) :
    IsRN (tenA n (696 - i)) (tenB (696 - i)) (k * 4503599627370496 + M) ↔ (4 * M * sV k i ≤ 4 * n * sU i + sV k i) ∧ (2 * n * sU i ≤ (2 * M + 1) * sV k i) := by
  have eA := tenA_sU n i hi
  have eB : tenB (696 - i) = 10 ^ (i - 348) := by unfold tenB; rw [show 348 - (696 - i) = i - 348 by omega]
  have hm : M < 9007199254740992 := by omega
  have hv := vals_of k M hm (by omega)
  have hu := ulp_of k M hm (by omega)
  have hs := vals_succ (k * 4503599627370496 + M)
  rw [hv, hu] at hs
  obtain ⟨j, hj⟩ : ∃ j, k = j + 1 := ⟨k - 1, by omega⟩
  have hq : ∀ q, k * 4503599627370496 + M = q + 1 → 2 * (vals q + vals (k * 4503599627370496 + M)) + 2 ^ k = 4 * M * 2 ^ k := by
    intro q hq
    have hs' := vals_succ q
    have hu' : ulp q = 2 ^ j := by
      rw [show q = j * 4503599627370496 + 9007199254740991 by omega]
      exact ulp_of j _ (by omega) (by omega)
    rw [← hq, hv, hu'] at hs'
    have e2 : 2 ^ k = 2 * 2 ^ j := by rw [hj, Nat.pow_succ, Nat.mul_comm]
    rw [hv, Nat.mul_assoc 4]
    omega
  have ev : M % 2 = 0 := by omega
  obtain ⟨q0, hq0⟩ : ∃ q, k * 4503599627370496 + M = q + 1 := ⟨k * 4503599627370496 + M - 1, by omega⟩
  have e1 : 2 * ((vals q0 + vals (k * 4503599627370496 + M)) * 10 ^ (i - 348)) + sV k i = 4 * M * sV k i := by
    unfold sV
    rw [← Nat.mul_assoc 2, ← Nat.mul_assoc (4 * M), ← Nat.add_mul, hq q0 hq0]
  have e2 : (vals (k * 4503599627370496 + M) + vals (k * 4503599627370496 + M + 1)) * 10 ^ (i - 348) = (2 * M + 1) * sV k i := by
    unfold sV
    rw [← Nat.mul_assoc, hs, hv, twice_mul]
  have e4 : 4 * n * sU i = 2 * (2 * n * sU i) := by rw [← Nat.mul_assoc, ← Nat.mul_assoc]
  have hpar : (k * 4503599627370496 + M) % 2 = 0 := by omega
  rw [e4]
  constructor
  · intro h
    have a := h.lo q0 hq0
    have b := h.hi hr
    rw [eA, eB] at a b
    rw [e2] at b
    exact ⟨by omega, b.1⟩
  · rintro ⟨a, b⟩
    refine ⟨Nat.le_of_lt hr, fun q hq' => ?_, fun _ => ?_⟩
    · obtain rfl : q = q0 := by omega
      rw [eA, eB, hpar]
      exact ⟨by omega, fun g => by omega⟩
    · rw [eA, eB, hpar, e2]
      exact ⟨b, fun g => by omega⟩
end Go.Proofs.YtdgmokfdkophpaaGreatDoor

namespace Go.Proofs.YtdgmokfdkophpaaGreatDoor
/-- Digits d * 10^q that are nearest to the float r; none of one digit fewer is; none of as many is ten above. -/
structure ShortAt (r d : Nat) (q : Int) (j : Nat) : Prop where
  idx : (j : Int) = q + 348
  j1 : 24 ≤ j
  j2 : j ≤ 641
  pos : 1 ≤ d
  lt : d < 100000000000000000
  rn : IsRN (tenA d j) (tenB j) r
  coarse : ∀ n, IsRN (tenA n (j + 1)) (tenB (j + 1)) r → 10 * n = d
  near : ∀ n, IsRN (tenA n j) (tenB j) r → n < d + 10

theorem ac_shift1 (n a z : Nat) : n * (a * 10) * z * 1 = 10 * n * a * z * 1 := by ac_rfl
theorem ac_shift2 (n b z : Nat) : n * 1 * z * (b * 10) = 10 * n * 1 * z * b := by ac_rfl
theorem rn_shift (n j r : Nat) : IsRN (tenA n (j + 1)) (tenB (j + 1)) r ↔ IsRN (tenA (10 * n) j) (tenB j) r := by
  have e : tenA n (j + 1) * tenB j = tenA (10 * n) j * tenB (j + 1) := by
    unfold tenA tenB
    by_cases h : 348 ≤ j
    · rw [show j + 1 - 348 = j - 348 + 1 by omega, show 348 - j = 0 by omega, show 348 - (j + 1) = 0 by omega, Nat.pow_succ, Nat.pow_zero]
      exact ac_shift1 _ _ _
    · rw [show j + 1 - 348 = 0 by omega, show j - 348 = 0 by omega, show 348 - j = 348 - (j + 1) + 1 by omega, Nat.pow_succ 10 (348 - (j + 1)), Nat.pow_zero]
      exact ac_shift2 _ _ _
  exact ⟨rn_cross _ _ _ _ _ (tenB_pos _) (tenB_pos _) e, rn_cross _ _ _ _ _ (tenB_pos _) (tenB_pos _) e.symm⟩

/-- The pick, in terms of what is nearest. -/
theorem short_of (r i dmin dmax dm : Nat) (hi : 56 ≤ i) (hi2 : i ≤ 672) (hp : Pick dmin dmax dm) (h1 : 1 ≤ dmin) (hmax : dmax < 100000000000000000)
    (hrn : ∀ n, IsRN (tenA n (696 - i)) (tenB (696 - i)) r ↔ dmin ≤ n ∧ n ≤ dmax) :
    ∃ d q j, shortD dmin dmax dm ((i : Int) - 348) = (d, q) ∧ ShortAt r d q j := by
  have w := hp.wide
  rcases pick_short dmin dmax dm ((i : Int) - 348) hp h1 with ⟨d, e, a1, a2, a3, a4⟩ | ⟨d, e, a1, a2, a3, a4⟩
  · refine ⟨d, _, 697 - i, e, by omega, by omega, by omega, a1, by omega, ?_, fun n h => ?_, fun n h => ?_⟩
    · rw [show 697 - i = 696 - i + 1 by omega, rn_shift, hrn]; exact ⟨a2, a3⟩
    · rw [rn_shift, show 697 - i = 696 - i + 1 by omega, rn_shift, hrn] at h
      exact a4 _ h.1 h.2
    · rw [show 697 - i = 696 - i + 1 by omega, rn_shift, hrn] at h
      have := a4 n h.1 h.2
      omega
  · refine ⟨d, _, 696 - i, e, by omega, by omega, by omega, a1, by omega, ?_, fun n h => ?_, fun n h => ?_⟩
    · rw [hrn]; exact ⟨a2, a3⟩
    · rw [rn_shift, hrn] at h
      exact (a4 n h.1 h.2).elim
    · rw [hrn] at h
      omega

theorem nudge_up (u : Nat) (odd : Nat) (h : u < 9223372036854775808) (ho : odd ≤ 1) : ceilN (nudgeN u odd) = (u + odd + 3) / 4 := by
  unfold ceilN nudgeN
  omega
theorem nudge_down (u : Nat) (odd : Nat) (h : u < 9223372036854775808) (ho : odd ≤ u) : nudgeN u (-(odd : Int)) = u - odd := by
  unfold nudgeN
  omega
theorem round_same (u : Nat) (h : u < 9223372036854775808) : roundN u = round4 u := by
  unfold roundN round4
  omega

/-- Bounds of an unrounded point. -/
theorem unr_small (Y U V t : Nat) (hU : 0 < U) (hV : V < 20 * U) (hY : Y < 36028797018963968) : unr (Y * V) (U * 2 ^ t) < 9223372036854775808 := by
  have hp := Nat.two_pow_pos t
  have : unr (Y * V) (U * 2 ^ t) ≤ 2 * (40 * Y) := by
    rw [unr_le _ _ _ (Nat.mul_pos hU hp)]
    have a : Y * V ≤ Y * (20 * U) := Nat.mul_le_mul_left _ (by omega)
    have b : Y * (20 * U) * 1 ≤ Y * (20 * U) * 2 ^ t := Nat.mul_le_mul_left _ hp
    have e : 40 * Y * (U * 2 ^ t) = 2 * (Y * (20 * U) * 2 ^ t) := by
      generalize 2 ^ t = p
      rw [show 40 * Y * (U * p) = 2 * (20 * (Y * (U * p))) by rw [Nat.mul_assoc 40]; omega]
      congr 1
      ac_rfl
    omega
  omega

theorem half_pow (M z : Nat) (hz : 1 ≤ z) : M * 2 ^ z - 2 ^ (z - 1) = (2 * M - 1) * 2 ^ (z - 1) ∧ M * 2 ^ z + 2 ^ (z - 1) = (2 * M + 1) * 2 ^ (z - 1) := by
  have e : M * 2 ^ z = 2 * M * 2 ^ (z - 1) := by
    rw [show 2 ^ z = 2 * 2 ^ (z - 1) by rw [Nat.mul_comm, ← Nat.pow_succ]; congr 1; omega]
    ac_rfl
  rw [e, Nat.sub_mul, Nat.add_mul, Nat.one_mul]
  exact ⟨rfl, rfl⟩

theorem short_reg (M k z i s odd umin umax um : Nat) (e : Int) (hk : k < 2046) (hM : 1 ≤ M) (hm : M < 9007199254740992) (hkM : 4503599627370496 < M ∨ k = 0) (hz : 11 ≤ z) (hx : M * 2 ^ z < 18446744073709551616)
    (hr : k * 4503599627370496 + M < infR) (hi : i = iR k) (he : e = (k : Int) - 1074 - z) (hs : -(e + lpI i + 3) = s) (ho : M % 2 = odd)
    (h1 : uscN (M * 2 ^ z - 2 ^ (z - 1)) (p10hi i) (p10lo i) s = umin) (h2 : uscN (M * 2 ^ z + 2 ^ (z - 1)) (p10hi i) (p10lo i) s = umax) (h3 : uscN (M * 2 ^ z) (p10hi i) (p10lo i) s = um) :
    ∃ d q j, shortD (ceilN (nudgeN umin odd)) (nudgeN umax (-(odd : Int)) / 4) (roundN um) ((i : Int) - 348) = (d, q) ∧ ShortAt (k * 4503599627370496 + M) d q j := by
  obtain ⟨r1, r2, r3, r4, r5, r6, r7⟩ := reg_ok k hk
  rw [← hi] at r1 r2 r3 r4 r5 r6 r7
  have h5 : 5 ≤ s := by omega
  have hU := sU_pos i
  obtain ⟨p1, p2⟩ := half_pow M z (by omega)
  have hzp : 2 ^ z = 2 * 2 ^ (z - 1) := by rw [Nat.mul_comm, ← Nat.pow_succ]; congr 1; omega
  have hsm : M * 2 ^ z + 2 ^ (z - 1) < 18446744073709551616 := by
    -- a multiple of 2^z below 2^64
    have hz64 : z < 64 := by
      refine Nat.lt_of_not_le fun h => ?_
      have a : 2 ^ 64 ≤ 2 ^ z := Nat.pow_le_pow_right (by decide) h
      have b : 1 * 2 ^ z ≤ M * 2 ^ z := Nat.mul_le_mul_right _ hM
      have c : (2 : Nat) ^ 64 = 18446744073709551616 := by decide
      omega
    have e64 : 18446744073709551616 = 2 ^ (64 - z) * 2 ^ z := by rw [← Nat.pow_add, show 64 - z + z = 64 by omega]
    rw [e64] at hx
    have := Nat.lt_of_mul_lt_mul_right hx
    have : (M + 1) * 2 ^ z ≤ 2 ^ (64 - z) * 2 ^ z := Nat.mul_le_mul_right _ this
    rw [← e64, Nat.add_mul] at this
    have := Nat.two_pow_pos (z - 1)
    omega
  have u1 := point_unr (2 * M - 1) (z - 1) k i s z 1 e (by omega) (by omega) (by rw [← p1]; omega) (by omega) he hs (by omega) h5
  have u2 := point_unr (2 * M + 1) (z - 1) k i s z 1 e (by omega) (by omega) (by rw [← p2]; omega) (by omega) he hs (by omega) h5
  have u3 := point_unr M z k i s z 0 e (by omega) hM hx (by omega) he hs (by omega) h5
  rw [← p1, h1] at u1
  rw [← p2, h2] at u2
  rw [h3] at u3
  have b1 : umin < 9223372036854775808 := by rw [u1]; exact unr_small _ _ _ _ hU (by omega) (by omega)
  have b2 : umax < 9223372036854775808 := by rw [u2]; exact unr_small _ _ _ _ hU (by omega) (by omega)
  have b3 : um < 9223372036854775808 := by rw [u3]; exact unr_small _ _ _ _ hU (by omega) (by omega)
  have o1 : odd ≤ 1 := by omega
  have o2 : odd ≤ umax := by
    have : 2 * 1 ≤ umax := by
      rw [u2, unr_ge _ _ _ (by omega)]
      have : 1 * sV k i ≤ (2 * M + 1) * sV k i := Nat.mul_le_mul_right _ (by omega)
      omega
    omega
  rw [nudge_up umin odd b1 o1, nudge_down umax odd b2 o2, round_same um b3]
  have m1 := max_iff (sU i) (sV k i) M umax odd _ hU ho u2 o2 rfl
  have m2 := min_iff (sU i) (sV k i) M umin odd _ hU hM ho u1 rfl
  rw [Nat.pow_zero, Nat.mul_one] at u3
  obtain ⟨⟨q1, _⟩, q2, _⟩ := unr_round (M * sV k i) (sU i) _ hU (show round4 (unr (M * sV k i) (sU i)) = round4 um by rw [← u3])
  have eMV : 2 * (M * sV k i) = 2 * M * sV k i := by rw [Nat.mul_assoc]
  rw [eMV] at q1 q2
  have eU : (2 * round4 um + 1) * sU i = 2 * round4 um * sU i + sU i := by rw [Nat.add_mul, Nat.one_mul]
  rw [eU] at q1
  refine short_of _ i _ _ _ r7 r1 (pick_reg (sU i) (sV k i) M _ _ _ r3 r4 m2 m1 q1 q2) ?_ ?_ (fun n => ?_)
  · refine Nat.lt_of_not_le fun h => ?_
    have := ((m2 0).1 h).1
    have : 2 * sV k i ≤ 2 * M * sV k i := Nat.mul_le_mul_right _ (by omega)
    omega
  · have := ((m1 _).1 (Nat.le_refl ((umax - odd) / 4))).1
    have a : (2 * M + 1) * sV k i ≤ (2 * M + 1) * (10 * sU i) := Nat.mul_le_mul_left _ (by omega)
    have : 2 * ((umax - odd) / 4) * sU i ≤ 10 * (2 * M + 1) * sU i := by
      rw [show 10 * (2 * M + 1) * sU i = (2 * M + 1) * (10 * sU i) by rw [Nat.mul_comm 10, Nat.mul_assoc]]
      omega
    have := Nat.le_of_mul_le_mul_right this hU
    omega
  · rw [rn_reg M k i n (by omega) hM hm hkM hr, m2, m1]

theorem short_skew (M k i s umin umax um : Nat) (e : Int) (hk : k < 2046) (hk1 : 1 ≤ k) (hM : M = 4503599627370496) (hr : k * 4503599627370496 + M < infR) (hi : i = iS k) (he : e = (k : Int) - 1074 - 11) (hs : -(e + lpI i + 3) = s)
    (h1 : uscN (9223372036854775808 - 512) (p10hi i) (p10lo i) s = umin) (h2 : uscN (9223372036854775808 + 1024) (p10hi i) (p10lo i) s = umax) (h3 : uscN 9223372036854775808 (p10hi i) (p10lo i) s = um) :
    ∃ d q j, shortD (ceilN (nudgeN umin (0 : Nat))) (nudgeN umax (-((0 : Nat) : Int)) / 4) (roundN um) ((i : Int) - 348) = (d, q) ∧ ShortAt (k * 4503599627370496 + M) d q j := by
  obtain ⟨r1, r2, r3, r4, r5, r6, r7⟩ := skew_ok k hk
  rw [← hi] at r1 r2 r3 r4 r5 r6 r7
  have h5 : 5 ≤ s := by omega
  have hU := sU_pos i
  have u1 := point_unr (4 * M - 1) 9 k i s 11 2 e (by omega) (by omega) (by rw [hM]; decide) (by omega) he hs (by omega) h5
  have u2 := point_unr (2 * M + 1) 10 k i s 11 1 e (by omega) (by omega) (by rw [hM]; decide) (by omega) he hs (by omega) h5
  have u3 := point_unr M 11 k i s 11 0 e (by omega) (by omega) (by rw [hM]; decide) (by omega) he hs (by omega) h5
  have p1 : (4 * M - 1) * 2 ^ 9 = 9223372036854775808 - 512 := by rw [hM]
  have p2 : (2 * M + 1) * 2 ^ 10 = 9223372036854775808 + 1024 := by rw [hM]
  have p3 : M * 2 ^ 11 = 9223372036854775808 := by rw [hM]
  rw [p1, h1] at u1
  rw [p2, h2] at u2
  rw [p3, h3] at u3
  have b1 : umin < 9223372036854775808 := by rw [u1]; exact unr_small _ _ _ _ hU (by omega) (by omega)
  have b2 : umax < 9223372036854775808 := by rw [u2]; exact unr_small _ _ _ _ hU (by omega) (by omega)
  have b3 : um < 9223372036854775808 := by rw [u3]; exact unr_small _ _ _ _ hU (by omega) (by omega)
  rw [nudge_up umin 0 b1 (by omega), nudge_down umax 0 b2 (by omega), round_same um b3]
  have m1 := max_iff (sU i) (sV k i) M umax 0 _ hU (by omega) u2 (by omega) rfl
  have m2 := min_iff_skew (sU i) (sV k i) M umin ((umin + 0 + 3) / 4) hU (by omega) u1 rfl
  have m1' : ∀ n, n ≤ (umax - 0) / 4 ↔ 2 * n * sU i ≤ (2 * M + 1) * sV k i := fun n => by
    rw [m1]
    exact ⟨fun h => h.1, fun h => ⟨h, fun g => by omega⟩⟩
  rw [Nat.pow_zero, Nat.mul_one] at u3
  obtain ⟨⟨q1, _⟩, q2, _⟩ := unr_round (M * sV k i) (sU i) _ hU (show round4 (unr (M * sV k i) (sU i)) = round4 um by rw [← u3])
  have eMV : 2 * (M * sV k i) = 2 * M * sV k i := by rw [Nat.mul_assoc]
  rw [eMV] at q1 q2
  have eU : (2 * round4 um + 1) * sU i = 2 * round4 um * sU i + sU i := by rw [Nat.add_mul, Nat.one_mul]
  rw [eU] at q1
  refine short_of _ i _ _ _ r7 r1 (pick_skew (sU i) (sV k i) M _ _ _ r3 r4 m2 m1' q1 q2) ?_ ?_ (fun n => ?_)
  · refine Nat.lt_of_not_le fun h => ?_
    have := ((m2 0).1 h)
    have : 4 * sV k i ≤ 4 * M * sV k i := Nat.mul_le_mul_right _ (by omega)
    omega
  · have := ((m1' _).1 (Nat.le_refl ((umax - 0) / 4)))
    have a : (2 * M + 1) * sV k i ≤ (2 * M + 1) * (14 * sU i) := Nat.mul_le_mul_left _ (by omega)
    have : 2 * ((umax - 0) / 4) * sU i ≤ 14 * (2 * M + 1) * sU i := by
      rw [show 14 * (2 * M + 1) * sU i = (2 * M + 1) * (14 * sU i) by rw [Nat.mul_comm 14, Nat.mul_assoc]]
      omega
    have := Nat.le_of_mul_le_mul_right this hU
    omega
  · rw [rn_skew M k i n (by omega) hk1 hM hr, m2, m1']
end Go.Proofs.YtdgmokfdkophpaaGreatDoor
