/-
  The walk of RealOrders.
-/
import Derived.Test.YtdgmokfdkophpaaGreatDoorShown
import Derived.Test.YtdgmokfdkophpaaGreatDoorClampB
namespace Go.Proofs.YtdgmokfdkophpaaGreatDoor
open Go.RowKit

theorem exact_any (a b : Nat) (w : World) : Calls Tryz.prog 16 #[.float .f64 a, .float .f64 b] w fun e w' => e = .returned (.bool ((a : Int) == b)) ∧ w = w' := by
  have d2 := door23
  go_enter Tryz.func16, Tryz.ntmps16
  go_wp2
  go_ret
  exact ⟨rfl, rfl⟩
theorem exact_same (a : Nat) (w : World) : Calls Tryz.prog 16 #[.float .f64 a, .float .f64 a] w fun e w' => e = .returned (.bool true) ∧ w = w' := by
  have := exact_any a a w
  have e : ((a : Int) == (a : Int)) = true := by simp
  rw [e] at this
  exact this

set_option maxRecDepth 100000 in
set_option maxHeartbeats 2000000 in
theorem orders_any (a b c : Nat) (w : World) (T : Tabs w) : Calls Tryz.prog 3 #[.int .u64 a, .int .u64 b, .int .u64 c] w fun e w' => e = .returned (.bool true) ∧ Below w.heap.size w w' := by
  have HT := Lib.hid T
  clear T
  have d1 := door11
  obtain ⟨y, hy⟩ : ∃ y, y = clampF a b c := ⟨_, rfl⟩
  have CL := fun w => clamp_any w a b c
  have RCL := fun w => refClamp_any w a b c
  obtain ⟨k, hk⟩ : ∃ k, k = cmpF a b := ⟨_, rfl⟩
  have CM := fun w => compare_any w a b
  have RCM := fun w => refCompare_any w a b (order_swap a b)
  have hr := clamp_real a b c
  rw [← hy] at CL RCL hr
  rw [← hk] at CM RCM
  have yy : (FloatKind.f64.format.order y y == some .eq) = true := by
    unfold nanF at hr
    simpa using hr
  have HCL := Lib.hid CL
  have HRCL := Lib.hid RCL
  have HCM := Lib.hid CM
  have HRCM := Lib.hid RCM
  clear CL RCL CM RCM hy hk hr
  go_enter Tryz.func3, Tryz.ntmps3
  go_wp2_with fail
  refine (shown_any _ HT.out).mono ?_
  rintro e w1 ⟨rfl, B1⟩
  have HB := Lib.hid B1
  clear B1
  go_wp2_with (first
    | (go_at_call 12; ((with_reducible refine (HCL.out _).mono ?_); rintro e w' ⟨rfl, rfl⟩))
    | (go_at_call 13; ((with_reducible refine (HRCL.out _).mono ?_); rintro e w' ⟨rfl, rfl⟩))
    | (go_at_call 14; ((with_reducible refine (HCM.out _).mono ?_); rintro e w' ⟨rfl, rfl⟩))
    | (go_at_call 15; ((with_reducible refine (HRCM.out _).mono ?_); rintro e w' ⟨rfl, rfl⟩))
    | (go_at_call 16; ((with_reducible refine (exact_same _ _).mono ?_); rintro e w' ⟨rfl, rfl⟩)))
  go_ret
  exact ⟨rfl, HB.out⟩
end Go.Proofs.YtdgmokfdkophpaaGreatDoor
