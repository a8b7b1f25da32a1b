/-
  What Clamp gives is no NaN.
-/
import Derived.Test.YtdgmokfdkophpaaGreatDoorClamp
namespace Go.Proofs.YtdgmokfdkophpaaGreatDoor
open Go.RowKit

theorem nan_of_lt (a b : Nat) (h : ltF a b = true) : nanF b = false := by
  cases hb : nanF b with
  | false => rfl
  | true => rw [ltF, order_nan a b hb] at h; cases h
theorem nan_of_gt (a b : Nat) (h : gtF a b = true) : nanF b = false := by
  cases hb : nanF b with
  | false => rfl
  | true => rw [gtF, order_nan a b hb] at h; cases h
theorem nought_real (a : Nat) (h : nanF a = false) : nanF (noughtF a) = false := by
  unfold noughtF
  split
  · exact nan_nought
  · exact h
theorem clamp_real (x lo hi : Nat) : nanF (clampF x lo hi) = false := by
  have hy : nanF (if nanF x = true then 0 else x) = false := by
    split
    · exact nan_nought
    · rename_i h; simpa using h
  unfold clampF
  apply nought_real
  generalize (if nanF x = true then 0 else x) = y at hy ⊢
  split
  · rename_i h; exact nan_of_lt _ _ h
  · split
    · rename_i h; exact nan_of_gt _ _ h
    · exact hy
end Go.Proofs.YtdgmokfdkophpaaGreatDoor
