/-
  The order of floats as an order of pairs of integers. No program in sight.
-/
import Derived.Laws.FloatArith
namespace Go.Proofs.YtdgmokfdkophpaaGreatDoor

/-- Below all, a number, above all, NaN. -/
def clsD : Ieee.Datum → Int
  | .nan .. => 2
  | .infinity s => if s then -1 else 1
  | .number .. => 0
/-- A number's value in the least float's units. -/
def kvD : Ieee.Datum → Int
  | .number s m i => Ieee.signed s m (i + 1074).toNat
  | _ => 0
/-- No number lies finer than the least float. -/
def Coarse : Ieee.Datum → Prop
  | .number _ _ i => -1074 ≤ i
  | _ => True

def cl (a : Nat) : Int := clsD (FloatKind.f64.format.read a)
def kv (a : Nat) : Int := kvD (FloatKind.f64.format.read a)

theorem least : Ieee.Format.leastPlace FloatKind.f64.format = -1074 := by kernel_rfl
theorem read_coarse (a : Nat) : Coarse (FloatKind.f64.format.read a) := by
  unfold Ieee.Format.read
  simp only []
  split
  · show -1074 ≤ _
    rw [least]
    exact Int.le_refl _
  · split
    · show -1074 ≤ _
      rw [least]
      omega
    · split <;> trivial

theorem signed_shift (s : Bool) (m a b : Nat) : Ieee.signed s m (a + b) = Ieee.signed s m a * (2 ^ b : Nat) := by
  unfold Ieee.signed
  have e : m <<< (a + b) = (m <<< a) * 2 ^ b := by rw [Nat.shiftLeft_add, Nat.shiftLeft_eq (m <<< a)]
  split
  · rw [e, Int.natCast_mul, Int.neg_mul]
  · rw [e, Int.natCast_mul]
theorem compare_mul (x y : Int) (c : Nat) (hc : 0 < c) : compare (x * (c : Int)) (y * (c : Int)) = compare x y := by
  have hc' : (0 : Int) < c := by omega
  rcases Int.lt_trichotomy x y with h | h | h
  · rw [Int.compare_eq_lt.2 h, Int.compare_eq_lt.2 (Int.mul_lt_mul_of_pos_right h hc')]
  · subst h
    rw [Int.compare_eq_eq.2 rfl, Int.compare_eq_eq.2 rfl]
  · rw [Int.compare_eq_gt.2 h, Int.compare_eq_gt.2 (Int.mul_lt_mul_of_pos_right h hc')]

/-- Two numbers stand to each other as their values do. -/
theorem order_numbers (s t : Bool) (m n : Nat) (i j : Int) (hi : -1074 ≤ i) (hj : -1074 ≤ j) :
    (Ieee.Datum.number s m i).order (.number t n j) = some (compare (kvD (.number s m i)) (kvD (.number t n j))) := by
  unfold Ieee.Datum.order kvD
  simp only [Option.some.injEq]
  obtain ⟨b, hb⟩ : ∃ b : Int, min i j = b := ⟨_, rfl⟩
  rw [hb]
  obtain ⟨u, hu⟩ : ∃ u : Nat, i - b = u := ⟨(i - b).toNat, by omega⟩
  obtain ⟨v, hv⟩ : ∃ v : Nat, j - b = v := ⟨(j - b).toNat, by omega⟩
  obtain ⟨c, hc⟩ : ∃ c : Nat, b + 1074 = c := ⟨(b + 1074).toNat, by omega⟩
  have e1 : (i + 1074).toNat = u + c := by omega
  have e2 : (j + 1074).toNat = v + c := by omega
  rw [e1, e2, hu, hv, Int.toNat_natCast, Int.toNat_natCast, signed_shift, signed_shift, compare_mul _ _ _ (Nat.two_pow_pos c)]

/-- How two pairs stand to each other. -/
def cmpK (c1 k1 c2 k2 : Int) : Int := if c1 < c2 then -1 else if c2 < c1 then 1 else if k1 < k2 then -1 else if k2 < k1 then 1 else 0
def ordK (c1 k1 c2 k2 : Int) : Ordering := if c1 < c2 then .lt else if c2 < c1 then .gt else compare k1 k2

theorem order_data (x y : Ieee.Datum) (hx : Coarse x) (hy : Coarse y) : x.order y = if clsD x = 2 ∨ clsD y = 2 then none else some (ordK (clsD x) (kvD x) (clsD y) (kvD y)) := by
  cases x with
  | nan s f =>
    rw [if_pos (.inl rfl)]
    cases y <;> rfl
  | infinity s =>
    cases y with
    | nan => rw [if_pos (.inr rfl)]; rfl
    | infinity t => cases s <;> cases t <;> rfl
    | number t n j => cases s <;> rfl
  | number s m i =>
    cases y with
    | nan => rw [if_pos (.inr rfl)]; rfl
    | infinity t => cases t <;> rfl
    | number t n j =>
      rw [order_numbers s t m n i j hx hy, if_neg (by show ¬ ((0 : Int) = 2 ∨ (0 : Int) = 2); omega)]
      rfl
theorem order_key (a b : Nat) : FloatKind.f64.format.order a b = if cl a = 2 ∨ cl b = 2 then none else some (ordK (cl a) (kv a) (cl b) (kv b)) :=
  order_data _ _ (read_coarse a) (read_coarse b)

theorem cl_zero : cl 0 = 0 := by kernel_rfl
theorem kv_zero : kv 0 = 0 := by kernel_rfl
end Go.Proofs.YtdgmokfdkophpaaGreatDoor
