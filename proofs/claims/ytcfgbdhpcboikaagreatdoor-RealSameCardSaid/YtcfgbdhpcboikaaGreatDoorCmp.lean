/-
  Compare (real's and the document's) over float bits.
  Clamp (real's and the document's) over float bits.
  What Clamp gives is no NaN.
  The order of floats as an order of pairs of integers. No program in sight.
  The order of floats is one; a number between two bounds lies between them. No program in sight.
-/
import Derived.Test.YtcfgbdhpcboikaaGreatDoorChecked
import Derived.WalkKit
import Derived.Lib.Hide
import Derived.Laws.FloatArith
namespace Go.Proofs.YtcfgbdhpcboikaaGreatDoor
open Go.RowKit

def nanF (a : Nat) : Bool := FloatKind.f64.format.order a a != some .eq
/-- Which of two floats is above, NaN behind all. -/
def cmpF (a b : Nat) : Int :=
  if nanF a = true then (if nanF b = true then 0 else 1) else if nanF b = true then -1
  else if (FloatKind.f64.format.order a b == some .lt) = true then -1 else if (FloatKind.f64.format.order a b == some .gt) = true then 1 else 0

theorem compare_any (w : World) (a b : Nat) : Calls Tryz.prog 22 #[.float .f64 a, .float .f64 b] w fun e w' => e = .returned (.int .i64 (cmpF a b)) ∧ w = w' := by
  go_enter Tryz.func22, Tryz.ntmps22
  go_wp2
  all_goals
    go_ret
    refine ⟨?_, rfl⟩
    simp_all [cmpF, nanF]

end Go.Proofs.YtcfgbdhpcboikaaGreatDoor

namespace Go.Proofs.YtcfgbdhpcboikaaGreatDoor
open Go.RowKit

def ltF (a b : Nat) : Bool := FloatKind.f64.format.order a b == some .lt
def gtF (a b : Nat) : Bool := FloatKind.f64.format.order a b == some .gt
def zeroF (a : Nat) : Bool := FloatKind.f64.format.order a 0 == some .eq
def noughtF (a : Nat) : Nat := if zeroF a = true then 0 else a
/-- A number brought between two. -/
def clampF (x lo hi : Nat) : Nat :=
  let y := if nanF x = true then 0 else x
  noughtF (if ltF y lo = true then lo else if gtF y hi = true then hi else y)

theorem clamp_any (w : World) (x lo hi : Nat) : Calls Tryz.prog 64 #[.float .f64 x, .float .f64 lo, .float .f64 hi] w fun e w' => e = .returned (.float .f64 (clampF x lo hi)) ∧ w = w' := by
  go_enter Tryz.func64, Tryz.ntmps64
  go_wp2
  all_goals
    go_ret
    refine ⟨?_, rfl⟩
    simp_all [clampF, noughtF, zeroF, ltF, gtF, nanF]
theorem cmp_swap_nat (a b : Nat) : compare b a = (compare a b).swap := by
  rw [Nat.compare_swap]
theorem cmp_swap_int (a b : Int) : compare b a = (compare a b).swap := by
  exact (Int.compare_swap a b).symm
theorem datum_swap (x y : Ieee.Datum) : y.order x = (x.order y).map Ordering.swap := by
  cases x with
  | nan => cases y <;> rfl
  | infinity s => 
    cases y with
    | nan => rfl
    | infinity t => simp [Ieee.Datum.order, cmp_swap_nat t.toNat s.toNat]
    | number t n j => cases s <;> rfl
  | number s m i =>
    cases y with
    | nan => rfl
    | infinity t => cases t <;> rfl
    | number t n j =>
      simp only [Ieee.Datum.order, Option.map_some]
      rw [Int.min_comm j i, cmp_swap_int]
theorem order_swap (a b : Nat) : FloatKind.f64.format.order b a = (FloatKind.f64.format.order a b).map Ordering.swap := datum_swap _ _

theorem datum_self (x : Ieee.Datum) : x.order x = some .eq ∨ (∀ y : Ieee.Datum, y.order x = none) := by
  cases x with
  | nan => exact .inr (fun y => by cases y <;> rfl)
  | infinity s => exact .inl (by cases s <;> rfl)
  | number s m i => exact .inl (by simp [Ieee.Datum.order, Std.ReflCmp.compare_self])
/-- No float stands to a NaN. -/
theorem order_nan (a b : Nat) (h : nanF b = true) : FloatKind.f64.format.order a b = none := by
  rcases datum_self (FloatKind.f64.format.read b) with e | e
  · have : FloatKind.f64.format.order b b = some .eq := e
    simp [nanF, this] at h
  · exact e _
theorem cmp_lt (a b : Nat) (ha : nanF a = false) (hb : nanF b = false) : (cmpF a b < 0) = (ltF a b = true) := by
  unfold cmpF ltF
  rw [ha, hb]
  simp only [Bool.false_eq_true, if_false]
  split
  · simp_all
  · split <;> simp_all
theorem cmp_gt (a b : Nat) (ha : nanF a = false) (hb : nanF b = false) : (cmpF a b > 0) = (gtF a b = true) := by
  unfold cmpF gtF
  rw [ha, hb]
  simp only [Bool.false_eq_true, if_false]
  split
  · simp_all
  · split <;> simp_all
theorem nan_nought : nanF 0 = false := by kernel_rfl
end Go.Proofs.YtcfgbdhpcboikaaGreatDoor

namespace Go.Proofs.YtcfgbdhpcboikaaGreatDoor
open Go.RowKit

theorem nan_of_lt (a b : Nat) (h : ltF a b = true) : nanF b = false := by
  cases hb : nanF b with
  | false => rfl
  | true => rw [ltF, order_nan a b hb] at h; cases h
theorem nan_of_gt (a b : Nat) (h : gtF a b = true) : nanF b = false := by
  cases hb : nanF b with
  | false => rfl
  | true => rw [gtF, order_nan a b hb] at h; cases h
theorem nought_real (a : Nat) (h : nanF a = false) : nanF (noughtF a) = false := by
  unfold noughtF
  split
  · exact nan_nought
  · exact h
theorem clamp_real (x lo hi : Nat) : nanF (clampF x lo hi) = false := by
  have hy : nanF (if nanF x = true then 0 else x) = false := by
    split
    · exact nan_nought
    · rename_i h; simpa using h
  unfold clampF
  apply nought_real
  generalize (if nanF x = true then 0 else x) = y at hy ⊢
  split
  · rename_i h; exact nan_of_lt _ _ h
  · split
    · rename_i h; exact nan_of_gt _ _ h
    · exact hy
end Go.Proofs.YtcfgbdhpcboikaaGreatDoor

namespace Go.Proofs.YtcfgbdhpcboikaaGreatDoor
/-- Below all, a number, above all, NaN. -/
def clsD : Ieee.Datum → Int
  | .nan .. => 2
  | .infinity s => if s then -1 else 1
  | .number .. => 0
/-- A number's value in the least float's units. -/
def kvD : Ieee.Datum → Int
  | .number s m i => Ieee.signed s m (i + 1074).toNat
  | _ => 0
/-- No number lies finer than the least float. -/
def Coarse : Ieee.Datum → Prop
  | .number _ _ i => -1074 ≤ i
  | _ => True

def cl (a : Nat) : Int := clsD (FloatKind.f64.format.read a)
def kv (a : Nat) : Int := kvD (FloatKind.f64.format.read a)

theorem least : Ieee.Format.leastPlace FloatKind.f64.format = -1074 := by kernel_rfl
theorem read_coarse (a : Nat) : Coarse (FloatKind.f64.format.read a) := by
  unfold Ieee.Format.read
  simp only []
  split
  · show -1074 ≤ _
    rw [least]
    exact Int.le_refl _
  · split
    · show -1074 ≤ _
      rw [least]
      omega
    · split <;> trivial

theorem signed_shift (s : Bool) (m a b : Nat) : Ieee.signed s m (a + b) = Ieee.signed s m a * (2 ^ b : Nat) := by
  unfold Ieee.signed
  have e : m <<< (a + b) = (m <<< a) * 2 ^ b := by rw [Nat.shiftLeft_add, Nat.shiftLeft_eq (m <<< a)]
  split
  · rw [e, Int.natCast_mul, Int.neg_mul]
  · rw [e, Int.natCast_mul]
theorem compare_mul (x y : Int) (c : Nat) (hc : 0 < c) : compare (x * (c : Int)) (y * (c : Int)) = compare x y := by
  have hc' : (0 : Int) < c := by omega
  rcases Int.lt_trichotomy x y with h | h | h
  · rw [Int.compare_eq_lt.2 h, Int.compare_eq_lt.2 (Int.mul_lt_mul_of_pos_right h hc')]
  · subst h
    rw [Int.compare_eq_eq.2 rfl, Int.compare_eq_eq.2 rfl]
  · rw [Int.compare_eq_gt.2 h, Int.compare_eq_gt.2 (Int.mul_lt_mul_of_pos_right h hc')]

/-- Two numbers stand to each other as their values do. -/
theorem order_numbers (s t : Bool) (m n : Nat) (i j : Int) (hi : -1074 ≤ i) (hj : -1074 ≤ j) :
    (Ieee.Datum.number s m i).order (.number t n j) = some (compare (kvD (.number s m i)) (kvD (.number t n j))) := by
  unfold Ieee.Datum.order kvD
  simp only [Option.some.injEq]
  obtain ⟨b, hb⟩ : ∃ b : Int, min i j = b := ⟨_, rfl⟩
  rw [hb]
  obtain ⟨u, hu⟩ : ∃ u : Nat, i - b = u := ⟨(i - b).toNat, by omega⟩
  obtain ⟨v, hv⟩ : ∃ v : Nat, j - b = v := ⟨(j - b).toNat, by omega⟩
  obtain ⟨c, hc⟩ : ∃ c : Nat, b + 1074 = c := ⟨(b + 1074).toNat, by omega⟩
  have e1 : (i + 1074).toNat = u + c := by omega
  have e2 : (j + 1074).toNat = v + c := by omega
  rw [e1, e2, hu, hv, Int.toNat_natCast, Int.toNat_natCast, signed_shift, signed_shift, compare_mul _ _ _ (Nat.two_pow_pos c)]

/-- How two pairs stand to each other. -/
def cmpK (c1 k1 c2 k2 : Int) : Int := if c1 < c2 then -1 else if c2 < c1 then 1 else if k1 < k2 then -1 else if k2 < k1 then 1 else 0
def ordK (c1 k1 c2 k2 : Int) : Ordering := if c1 < c2 then .lt else if c2 < c1 then .gt else compare k1 k2

theorem order_data (x y : Ieee.Datum) (hx : Coarse x) (hy : Coarse y) : x.order y = if clsD x = 2 ∨ clsD y = 2 then none else some (ordK (clsD x) (kvD x) (clsD y) (kvD y)) := by
  cases x with
  | nan s f =>
    rw [if_pos (.inl rfl)]
    cases y <;> rfl
  | infinity s =>
    cases y with
    | nan => rw [if_pos (.inr rfl)]; rfl
    | infinity t => cases s <;> cases t <;> rfl
    | number t n j => cases s <;> rfl
  | number s m i =>
    cases y with
    | nan => rw [if_pos (.inr rfl)]; rfl
    | infinity t => cases t <;> rfl
    | number t n j =>
      rw [order_numbers s t m n i j hx hy, if_neg (by show ¬ ((0 : Int) = 2 ∨ (0 : Int) = 2); omega)]
      rfl
theorem order_key (a b : Nat) : FloatKind.f64.format.order a b = if cl a = 2 ∨ cl b = 2 then none else some (ordK (cl a) (kv a) (cl b) (kv b)) :=
  order_data _ _ (read_coarse a) (read_coarse b)

theorem cl_zero : cl 0 = 0 := by kernel_rfl
theorem kv_zero : kv 0 = 0 := by kernel_rfl
end Go.Proofs.YtcfgbdhpcboikaaGreatDoor

namespace Go.Proofs.YtcfgbdhpcboikaaGreatDoor
theorem ordK_lt (a b c d : Int) : ordK a b c d = .lt ↔ cmpK a b c d = -1 := by
  unfold ordK cmpK
  split
  · simp
  · split
    · simp
    · rw [Int.compare_eq_lt]
      split
      · simp [*]
      · split <;> simp [*]
theorem ordK_gt (a b c d : Int) : ordK a b c d = .gt ↔ cmpK a b c d = 1 := by
  unfold ordK cmpK
  split
  · simp
  · split
    · simp
    · rw [Int.compare_eq_gt]
      split
      · constructor
        · intro h; omega
        · intro h; cases h
      · split <;> simp [*]
theorem ordK_eq (a b c d : Int) : ordK a b c d = .eq ↔ cmpK a b c d = 0 := by
  unfold ordK cmpK
  split
  · simp
  · split
    · simp
    · rw [Int.compare_eq_eq]
      split
      · constructor
        · intro h; omega
        · intro h; cases h
      · split
        · constructor
          · intro h; omega
          · intro h; cases h
        · constructor
          · intro _; rfl
          · intro _; omega

theorem nan_key (a : Nat) : nanF a = decide (cl a = 2) := by
  unfold nanF
  rw [order_key]
  by_cases h : cl a = 2
  · simp [h]
  · have e : ordK (cl a) (kv a) (cl a) (kv a) = .eq := (ordK_eq _ _ _ _).2 (by unfold cmpK; simp)
    simp [h, e]
theorem lt_key (a b : Nat) : ltF a b = true ↔ (cl a ≠ 2 ∧ cl b ≠ 2) ∧ cmpK (cl a) (kv a) (cl b) (kv b) = -1 := by
  unfold ltF
  rw [order_key]
  by_cases h : cl a = 2 ∨ cl b = 2
  · rw [if_pos h]
    constructor
    · intro h'; cases h'
    · rintro ⟨⟨h1, h2⟩, _⟩; rcases h with h | h <;> contradiction
  · rw [if_neg h]
    have h' := not_or.1 h
    rw [beq_iff_eq, Option.some.injEq, ordK_lt]
    exact ⟨fun x => ⟨⟨h'.1, h'.2⟩, x⟩, fun x => x.2⟩
theorem gt_key (a b : Nat) : gtF a b = true ↔ (cl a ≠ 2 ∧ cl b ≠ 2) ∧ cmpK (cl a) (kv a) (cl b) (kv b) = 1 := by
  unfold gtF
  rw [order_key]
  by_cases h : cl a = 2 ∨ cl b = 2
  · rw [if_pos h]
    constructor
    · intro h'; cases h'
    · rintro ⟨⟨h1, h2⟩, _⟩; rcases h with h | h <;> contradiction
  · rw [if_neg h]
    have h' := not_or.1 h
    rw [beq_iff_eq, Option.some.injEq, ordK_gt]
    exact ⟨fun x => ⟨⟨h'.1, h'.2⟩, x⟩, fun x => x.2⟩
theorem eq_key (a b : Nat) : (FloatKind.f64.format.order a b == some .eq) = true ↔ (cl a ≠ 2 ∧ cl b ≠ 2) ∧ cmpK (cl a) (kv a) (cl b) (kv b) = 0 := by
  rw [order_key]
  by_cases h : cl a = 2 ∨ cl b = 2
  · rw [if_pos h]
    constructor
    · intro h'; cases h'
    · rintro ⟨⟨h1, h2⟩, _⟩; rcases h with h | h <;> contradiction
  · rw [if_neg h]
    have h' := not_or.1 h
    rw [beq_iff_eq, Option.some.injEq, ordK_eq]
    exact ⟨fun x => ⟨⟨h'.1, h'.2⟩, x⟩, fun x => x.2⟩

theorem clsD_le (d : Ieee.Datum) : clsD d ≤ 2 := by
  cases d with
  | nan => exact Int.le_refl _
  | infinity s => cases s <;> (show (_ : Int) ≤ 2; decide)
  | number => show (0 : Int) ≤ 2; decide
theorem cl_le (a : Nat) : cl a ≤ 2 := clsD_le _
theorem kvD_nan (d : Ieee.Datum) (h : clsD d = 2) : kvD d = 0 := by
  cases d with
  | nan => rfl
  | infinity s => rfl
  | number s m i => exact absurd h (by show ¬ (0 : Int) = 2; decide)
theorem kv_nan (a : Nat) (h : cl a = 2) : kv a = 0 := kvD_nan _ h

theorem cmp_key (a b : Nat) : cmpF a b = cmpK (cl a) (kv a) (cl b) (kv b) := by
  have ha := cl_le a
  have hb := cl_le b
  unfold cmpF
  rw [nan_key, nan_key]
  by_cases h1 : cl a = 2
  · by_cases h2 : cl b = 2
    · simp [h1, h2, kv_nan a h1, kv_nan b h2, cmpK]
    · have : cl b < 2 := by omega
      simp [h1, h2, cmpK, this]
      omega
  · by_cases h2 : cl b = 2
    · have : cl a < 2 := by omega
      simp [h1, h2, cmpK, this]
    · simp only [h1, h2, decide_false, Bool.false_eq_true, if_false]
      have l := lt_key a b
      have g := gt_key a b
      unfold ltF at l
      unfold gtF at g
      by_cases c1 : cmpK (cl a) (kv a) (cl b) (kv b) = -1
      · rw [if_pos (l.2 ⟨⟨h1, h2⟩, c1⟩), c1]
      · rw [if_neg (fun x => c1 (l.1 x).2)]
        by_cases c2 : cmpK (cl a) (kv a) (cl b) (kv b) = 1
        · rw [if_pos (g.2 ⟨⟨h1, h2⟩, c2⟩), c2]
        · rw [if_neg (fun x => c2 (g.1 x).2)]
          revert c1 c2
          unfold cmpK
          split
          · intro c1; exact absurd rfl c1
          · split
            · intro _ c2; exact absurd rfl c2
            · split
              · intro c1; exact absurd rfl c1
              · split
                · intro _ c2; exact absurd rfl c2
                · intro _ _; rfl

theorem cmp_anti (a b : Nat) : cmpF b a = -cmpF a b := by
  rw [cmp_key, cmp_key]
  unfold cmpK
  repeat' split
  all_goals omega
theorem cmp_self (a : Nat) : cmpF a a = 0 := by
  rw [cmp_key]
  simp [cmpK]
theorem cmp_trans (a b c : Nat) (h1 : cmpF a b ≤ 0) (h2 : cmpF b c ≤ 0) : cmpF a c ≤ 0 := by
  rw [cmp_key] at h1 h2 ⊢
  unfold cmpK at h1 h2 ⊢
  repeat' split at h1
  all_goals repeat' split at h2
  all_goals repeat' split
  all_goals omega
theorem cmp_trans' (a b c : Nat) (h1 : 0 ≤ cmpF a b) (h2 : 0 ≤ cmpF b c) : 0 ≤ cmpF a c := by
  have e1 := cmp_anti a b
  have e2 := cmp_anti b c
  have e3 := cmp_anti a c
  have := cmp_trans c b a (by omega) (by omega)
  omega

/-- A number and its form with a plain nought have one key. -/
theorem nought_key (a : Nat) : cl (noughtF a) = cl a ∧ kv (noughtF a) = kv a := by
  unfold noughtF
  by_cases h : zeroF a = true
  · rw [if_pos h]
    unfold zeroF at h
    have h' := (eq_key a 0).1 h
    rw [cl_zero, kv_zero] at h'
    obtain ⟨⟨h1, _⟩, h2⟩ := h'
    rw [cl_zero, kv_zero]
    unfold cmpK at h2
    repeat' split at h2
    all_goals omega
  · rw [if_neg h]
    exact ⟨rfl, rfl⟩

/-- What Clamp makes of a number, by its key. -/
theorem clamp_key (z x y : Nat) (hx : cl x ≠ 2) (hy : cl y ≠ 2) (hxy : cmpF x y ≤ 0) :
    0 ≤ cmpF (clampF z x y) x ∧ cmpF (clampF z x y) y ≤ 0 ∧ cl (clampF z x y) ≠ 2 ∧
    (cl z = 2 ∨ cmpF z x < 0 ∨ 0 < cmpF z y ∨ cmpF (clampF z x y) z = 0) := by
  obtain ⟨t, ht⟩ : ∃ t, (if nanF z = true then 0 else z) = t := ⟨_, rfl⟩
  have ht2 : cl t ≠ 2 := by
    rw [← ht]
    split
    · rw [cl_zero]; decide
    · rename_i h; rw [nan_key] at h; simpa using h
  have htz : cl z = 2 ∨ t = z := by
    rw [← ht]
    by_cases h : nanF z = true
    · left; rw [nan_key] at h; simpa using h
    · right; rw [if_neg h]
  have hw : clampF z x y = noughtF (if ltF t x = true then x else if gtF t y = true then y else t) := by unfold clampF; simp only [ht]
  rw [cmp_key] at hxy
  have l := lt_key t x
  have g := gt_key t y
  by_cases c1 : ltF t x = true
  · rw [hw, if_pos c1]
    obtain ⟨k1, k2⟩ := nought_key x
    have c1' := (l.1 c1).2
    refine ⟨?_, ?_, by rw [k1]; exact hx, ?_⟩
    · rw [cmp_key, k1, k2]; simp [cmpK]
    · rw [cmp_key, k1, k2]; exact hxy
    · rcases htz with h | h
      · exact .inl h
      · subst h
        exact .inr (.inl (by rw [cmp_key, c1']; decide))
  · rw [hw, if_neg c1]
    by_cases c2 : gtF t y = true
    · rw [if_pos c2]
      obtain ⟨k1, k2⟩ := nought_key y
      have c2' := (g.1 c2).2
      refine ⟨?_, ?_, by rw [k1]; exact hy, ?_⟩
      · rw [cmp_key, k1, k2]
        have := cmp_anti x y
        rw [cmp_key, cmp_key] at this
        omega
      · rw [cmp_key, k1, k2]; simp [cmpK]
      · rcases htz with h | h
        · exact .inl h
        · subst h
          exact .inr (.inr (.inl (by rw [cmp_key, c2']; decide)))
    · rw [if_neg c2]
      obtain ⟨k1, k2⟩ := nought_key t
      have n1 : ¬ cmpK (cl t) (kv t) (cl x) (kv x) = -1 := fun h => c1 (l.2 ⟨⟨ht2, hx⟩, h⟩)
      have n2 : ¬ cmpK (cl t) (kv t) (cl y) (kv y) = 1 := fun h => c2 (g.2 ⟨⟨ht2, hy⟩, h⟩)
      refine ⟨?_, ?_, by rw [k1]; exact ht2, ?_⟩
      · rw [cmp_key, k1, k2]
        revert n1
        unfold cmpK
        repeat' split
        all_goals omega
      · rw [cmp_key, k1, k2]
        revert n2
        unfold cmpK
        repeat' split
        all_goals omega
      · rcases htz with h | h
        · exact .inl h
        · subst h
          right; right; right
          rw [cmp_key, k1, k2]
          simp [cmpK]
/-- What is clamped stays where it is. -/
theorem clamp_twice (z x y : Nat) (hx : cl x ≠ 2) (hy : cl y ≠ 2) (hxy : cmpF x y ≤ 0) : cmpF (clampF (clampF z x y) x y) (clampF z x y) = 0 := by
  obtain ⟨h1, h2, h3, _⟩ := clamp_key z x y hx hy hxy
  obtain ⟨_, _, _, h4⟩ := clamp_key (clampF z x y) x y hx hy hxy
  rcases h4 with h4 | h4 | h4 | h4
  · exact absurd h4 h3
  · omega
  · omega
  · exact h4
end Go.Proofs.YtcfgbdhpcboikaaGreatDoor
