/-
  Compare (real's and the document's) over float bits.
-/
import Derived.Test.YtdgmokfdkophpaaGreatDoorChecked
import Derived.WalkKit
import Derived.Lib.Hide
import Derived.Laws.FloatArith
namespace Go.Proofs.YtdgmokfdkophpaaGreatDoor
open Go.RowKit

def nanF (a : Nat) : Bool := FloatKind.f64.format.order a a != some .eq
/-- Which of two floats is above, NaN behind all. -/
def cmpF (a b : Nat) : Int :=
  if nanF a = true then (if nanF b = true then 0 else 1) else if nanF b = true then -1
  else if (FloatKind.f64.format.order a b == some .lt) = true then -1 else if (FloatKind.f64.format.order a b == some .gt) = true then 1 else 0

theorem compare_any (w : World) (a b : Nat) : Calls Tryz.prog 14 #[.float .f64 a, .float .f64 b] w fun e w' => e = .returned (.int .i64 (cmpF a b)) ∧ w = w' := by
  go_enter Tryz.func14, Tryz.ntmps14
  go_wp2
  all_goals
    go_ret
    refine ⟨?_, rfl⟩
    simp_all [cmpF, nanF]

theorem refCompare_any (w : World) (a b : Nat) (hs : FloatKind.f64.format.order b a = (FloatKind.f64.format.order a b).map Ordering.swap) : Calls Tryz.prog 15 #[.float .f64 a, .float .f64 b] w fun e w' => e = .returned (.int .i64 (cmpF a b)) ∧ w = w' := by
  go_enter Tryz.func15, Tryz.ntmps15
  go_wp2
  all_goals
    go_ret
    refine ⟨?_, rfl⟩
    simp_all [cmpF, nanF]
end Go.Proofs.YtdgmokfdkophpaaGreatDoor
