/-
  Clamp (real's and the document's) over float bits.
-/
import Derived.Test.YtdgmokfdkophpaaGreatDoorCmp
namespace Go.Proofs.YtdgmokfdkophpaaGreatDoor
open Go.RowKit

def ltF (a b : Nat) : Bool := FloatKind.f64.format.order a b == some .lt
def gtF (a b : Nat) : Bool := FloatKind.f64.format.order a b == some .gt
def zeroF (a : Nat) : Bool := FloatKind.f64.format.order a 0 == some .eq
def noughtF (a : Nat) : Nat := if zeroF a = true then 0 else a
/-- A number brought between two. -/
def clampF (x lo hi : Nat) : Nat :=
  let y := if nanF x = true then 0 else x
  noughtF (if ltF y lo = true then lo else if gtF y hi = true then hi else y)

theorem clamp_any (w : World) (x lo hi : Nat) : Calls Tryz.prog 12 #[.float .f64 x, .float .f64 lo, .float .f64 hi] w fun e w' => e = .returned (.float .f64 (clampF x lo hi)) ∧ w = w' := by
  go_enter Tryz.func12, Tryz.ntmps12
  go_wp2
  all_goals
    go_ret
    refine ⟨?_, rfl⟩
    simp_all [clampF, noughtF, zeroF, ltF, gtF, nanF]
theorem cmp_swap_nat (a b : Nat) : compare b a = (compare a b).swap := by
  rw [Nat.compare_swap]
theorem cmp_swap_int (a b : Int) : compare b a = (compare a b).swap := by
  exact (Int.compare_swap a b).symm
theorem datum_swap (x y : Ieee.Datum) : y.order x = (x.order y).map Ordering.swap := by
  cases x with
  | nan => cases y <;> rfl
  | infinity s => 
    cases y with
    | nan => rfl
    | infinity t => simp [Ieee.Datum.order, cmp_swap_nat t.toNat s.toNat]
    | number t n j => cases s <;> rfl
  | number s m i =>
    cases y with
    | nan => rfl
    | infinity t => cases t <;> rfl
    | number t n j =>
      simp only [Ieee.Datum.order, Option.map_some]
      rw [Int.min_comm j i, cmp_swap_int]
theorem order_swap (a b : Nat) : FloatKind.f64.format.order b a = (FloatKind.f64.format.order a b).map Ordering.swap := datum_swap _ _

theorem datum_self (x : Ieee.Datum) : x.order x = some .eq ∨ (∀ y : Ieee.Datum, y.order x = none) := by
  cases x with
  | nan => exact .inr (fun y => by cases y <;> rfl)
  | infinity s => exact .inl (by cases s <;> rfl)
  | number s m i => exact .inl (by simp [Ieee.Datum.order, Std.ReflCmp.compare_self])
/-- No float stands to a NaN. -/
theorem order_nan (a b : Nat) (h : nanF b = true) : FloatKind.f64.format.order a b = none := by
  rcases datum_self (FloatKind.f64.format.read b) with e | e
  · have : FloatKind.f64.format.order b b = some .eq := e
    simp [nanF, this] at h
  · exact e _
theorem cmp_lt (a b : Nat) (ha : nanF a = false) (hb : nanF b = false) : (cmpF a b < 0) = (ltF a b = true) := by
  unfold cmpF ltF
  rw [ha, hb]
  simp only [Bool.false_eq_true, if_false]
  split
  · simp_all
  · split <;> simp_all
theorem cmp_gt (a b : Nat) (ha : nanF a = false) (hb : nanF b = false) : (cmpF a b > 0) = (gtF a b = true) := by
  unfold cmpF gtF
  rw [ha, hb]
  simp only [Bool.false_eq_true, if_false]
  split
  · simp_all
  · split <;> simp_all
theorem nan_nought : nanF 0 = false := by kernel_rfl
end Go.Proofs.YtdgmokfdkophpaaGreatDoor
