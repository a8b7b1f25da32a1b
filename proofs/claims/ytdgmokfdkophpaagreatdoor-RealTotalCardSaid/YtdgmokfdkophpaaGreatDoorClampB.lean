/-
  The document's Clamp over float bits.
-/
import Derived.Test.YtdgmokfdkophpaaGreatDoorClamp
namespace Go.Proofs.YtdgmokfdkophpaaGreatDoor
open Go.RowKit

theorem lt_cmp (a b : Nat) (ha : nanF a = false) (hb : nanF b = false) : (FloatKind.f64.format.order a b = some .lt) = ¬ (0 ≤ cmpF a b) := by
  rw [Int.not_le, cmp_lt a b ha hb]
  simp [ltF]
theorem gt_cmp (a b : Nat) (ha : nanF a = false) (hb : nanF b = false) : (FloatKind.f64.format.order a b = some .gt) = ¬ (cmpF a b ≤ 0) := by
  rw [Int.not_le, ← gt_iff_lt, cmp_gt a b ha hb]
  simp [gtF]

theorem refClamp_any (w : World) (x lo hi : Nat) : Calls Tryz.prog 13 #[.float .f64 x, .float .f64 lo, .float .f64 hi] w fun e w' => e = .returned (.float .f64 (clampF x lo hi)) ∧ w = w' := by
  go_enter Tryz.func13, Tryz.ntmps13
  go_wp2_with (go_at_call 15; refine (refCompare_any _ _ _ (order_swap _ _)).mono ?_; rintro e w9 ⟨rfl, rfl⟩)
  all_goals
    go_ret
    refine ⟨?_, rfl⟩
    have l1 := lt_cmp x lo
    have l2 := gt_cmp x hi
    have l3 := lt_cmp 0 lo nan_nought
    have l4 := gt_cmp 0 hi nan_nought
    have n1 := order_nan x lo
    have n2 := order_nan x hi
    have n3 := order_nan 0 lo
    have n4 := order_nan 0 hi
    have n0 := nan_nought
    simp_all [clampF, noughtF, zeroF, ltF, gtF, nanF]
end Go.Proofs.YtdgmokfdkophpaaGreatDoor
