/-
  atof64 at a numeral whose value comes out exactly; ParseFloat; Parse.
-/
import Derived.Test.YtdgmokfdkophpaaGreatDoorSpec
namespace Go.Proofs.YtdgmokfdkophpaaGreatDoor
open Go.RowKit

theorem bool2_u64_true (w : World) : Calls Tryz.prog 114 #[.bool true] w fun e w' => e = .returned (.int .u64 1) ∧ w = w' := by
  go_enter Tryz.func114, Tryz.ntmps114
  go_wp2
  go_ret
  exact ⟨rfl, rfl⟩
theorem bool2_u64_false (w : World) : Calls Tryz.prog 114 #[.bool false] w fun e w' => e = .returned (.int .u64 0) ∧ w = w' := by
  go_enter Tryz.func114, Tryz.ntmps114
  go_wp2
  go_ret
  exact ⟨rfl, rfl⟩
theorem bool2_int_true (w : World) : Calls Tryz.prog 102 #[.bool true] w fun e w' => e = .returned (.int .i64 1) ∧ w = w' := by
  go_enter Tryz.func102, Tryz.ntmps102
  go_wp2
  go_ret
  exact ⟨rfl, rfl⟩
theorem bool2_int_false (w : World) : Calls Tryz.prog 102 #[.bool false] w fun e w' => e = .returned (.int .i64 0) ∧ w = w' := by
  go_enter Tryz.func102, Tryz.ntmps102
  go_wp2
  go_ret
  exact ⟨rfl, rfl⟩
theorem bool2_unr_true (w : World) : Calls Tryz.prog 146 #[.bool true] w fun e w' => e = .returned (.int .u64 1) ∧ w = w' := by
  go_enter Tryz.func146, Tryz.ntmps146
  go_wp2
  go_ret
  exact ⟨rfl, rfl⟩
theorem bool2_unr_false (w : World) : Calls Tryz.prog 146 #[.bool false] w fun e w' => e = .returned (.int .u64 0) ∧ w = w' := by
  go_enter Tryz.func146, Tryz.ntmps146
  go_wp2
  go_ret
  exact ⟨rfl, rfl⟩

set_option maxRecDepth 100000 in
set_option maxHeartbeats 2000000 in
theorem atof_exact (s : ByteArray) (m : Nat) (x : Int) (neg : Bool) (r : Nat) (w : World) (T : Tabs w) (_hs : s.size ≤ 40) (hm : m ≠ 0) (x1 : -345 ≤ x) (x2 : x ≤ 310)
    (SP : ∀ w, Calls Tryz.prog 105 #[.string s] w fun e w' => e = .returned (.tuple #[.float .f64 0, .int .i64 0, .bool false]) ∧ w = w')
    (RD : ∀ w, Calls Tryz.prog 106 #[.string s] w fun e w' => e = .returned (.tuple #[.int .u64 m, .int .i64 x, .bool neg, .bool false, .bool false, .int .i64 s.size, .bool true]) ∧ w = w')
    (EX : ∀ w, Tabs w → Calls Tryz.prog 116 #[.int .u64 m, .int .i64 x, .bool neg] w fun e w' => e = .returned (.tuple #[.float .f64 r, .bool true]) ∧ w = w') :
    Calls Tryz.prog 81 #[.string s] w fun e w' => e = .returned (.tuple #[.float .f64 r, .int .i64 s.size, .nilIface]) ∧ w = w' := by
  have h3 := T.opt
  have hm0 : ((m : Int) == 0) = false := beq_eq_false_iff_ne.2 (by omega)
  have HSP := Lib.hid SP
  have HRD := Lib.hid RD
  have HEX := Lib.hid EX
  have HT := Lib.hid T
  clear SP RD EX T
  cases neg
  all_goals
    go_enter Tryz.func81, Tryz.ntmps81
    go_wp2_with (first
      | (go_at_call 105; refine (HSP.out _).mono ?_; rintro e w' ⟨rfl, rfl⟩)
      | (go_at_call 106; refine (HRD.out _).mono ?_; rintro e w' ⟨rfl, rfl⟩)
      | (go_at_call 114; ((with_reducible refine (bool2_u64_true _).mono ?_); rintro e w' ⟨rfl, rfl⟩))
      | (go_at_call 114; ((with_reducible refine (bool2_u64_false _).mono ?_); rintro e w' ⟨rfl, rfl⟩))
      | (go_at_call 116; refine (HEX.out _ HT.out).mono ?_; rintro e w' ⟨rfl, rfl⟩))
    go_ret3
    exact ⟨rfl, rfl⟩

end Go.Proofs.YtdgmokfdkophpaaGreatDoor
