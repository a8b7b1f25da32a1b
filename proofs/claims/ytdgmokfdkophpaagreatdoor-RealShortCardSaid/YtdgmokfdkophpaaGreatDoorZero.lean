/-
  ParseFloat, Parse and Fix of a numeral whose digits are all noughts.
-/
import Derived.Test.YtdgmokfdkophpaaGreatDoorDoors
import Derived.Test.YtdgmokfdkophpaaGreatDoorReadC
import Derived.Test.YtdgmokfdkophpaaGreatDoorPrint
namespace Go.Proofs.YtdgmokfdkophpaaGreatDoor
open Go.RowKit

set_option maxRecDepth 100000 in
set_option maxHeartbeats 600000 in
theorem atof_zero (s : ByteArray) (w : World) (T : Tabs w) (_hs : s.size ≤ 40)
    (SP : ∀ w, Calls Tryz.prog 105 #[.string s] w fun e w' => e = .returned (.tuple #[.float .f64 0, .int .i64 0, .bool false]) ∧ w = w')
    (RD : ∀ w, Calls Tryz.prog 106 #[.string s] w fun e w' => e = .returned (.tuple #[.int .u64 0, .int .i64 0, .bool false, .bool false, .bool false, .int .i64 s.size, .bool true]) ∧ w = w') :
    Calls Tryz.prog 81 #[.string s] w fun e w' => e = .returned (.tuple #[.float .f64 0, .int .i64 s.size, .nilIface]) ∧ w = w' := by
  have h3 := T.opt
  have d1 := door115
  have HSP := Lib.hid SP
  have HRD := Lib.hid RD
  clear SP RD T
  go_enter Tryz.func81, Tryz.ntmps81
  go_wp2_with (first
    | (go_at_call 105; refine (HSP.out _).mono ?_; rintro e w' ⟨rfl, rfl⟩)
    | (go_at_call 106; refine (HRD.out _).mono ?_; rintro e w' ⟨rfl, rfl⟩)
    | (go_at_call 114; ((with_reducible refine (bool2_u64_false _).mono ?_); rintro e w' ⟨rfl, rfl⟩)))
  go_ret3
  exact ⟨rfl, rfl⟩
def s0 : ByteArray := { data := #[48] }
theorem read0 (w : World) : Calls Tryz.prog 106 #[.string s0] w fun e w' => e = .returned (.tuple #[.int .u64 0, .int .i64 0, .bool false, .bool false, .bool false, .int .i64 s0.size, .bool true]) ∧ w = w' := by
  have N : NumText s0 0 1 := by
    refine ⟨by decide, by decide, ?_, ?_, by kernel_rfl, fun h => absurd h (by decide)⟩
    · intro j h _ hj
      match j, h, hj with
      | 0, _, _ => rfl
    · intro j h _ hj
      match j, h, hj with
      | 0, _, _ => intro e; exact absurd (show (48 : UInt8) = 46 from e) (by decide)
  have := read_any s0 false 0 1 w (by decide) ⟨by decide, .inl ⟨rfl, rfl, rfl, rfl⟩⟩ N 0 (.inl ⟨rfl, rfl⟩)
  have e : rfold (part s0 0 1) = ⟨0, 0, 0, -1, false, true, false⟩ := by kernel_rfl
  rw [e] at this
  exact this
theorem parse0 (w : World) (T : Tabs w) : Calls Tryz.prog 21 #[.string s0] w fun e w' => e = .returned (.tuple #[.float .f64 0, .bool true]) ∧ w = w' := by
  refine parse_ok s0 0 w (by decide) (by kernel_rfl) (by kernel_rfl) ?_
  intro w' hw
  subst hw
  exact atof_zero s0 w T (by decide) (fun w => special_plain s0 w (by decide) (by decide) (by decide) rfl rfl) read0
set_option maxRecDepth 100000 in
theorem fix0 (w : World) (T : Tabs w) : Calls Tryz.prog 22 #[.string s0] w fun e w' => e = .returned (.tuple #[.string s0, .bool true]) ∧ Below w.heap.size w w' := by
  have P := parse0
  have Q : ∀ w, Calls Tryz.prog 19 #[.float .f64 0] w fun e w' => e = .returned (.string s0) ∧ w = w' := fun w => print_zero 0 w (by kernel_rfl) (by kernel_rfl) (by kernel_rfl)
  obtain ⟨s, hs⟩ : ∃ s, s = s0 := ⟨_, rfl⟩
  rw [← hs] at P Q ⊢
  have HP := Lib.hid P
  have HQ := Lib.hid Q
  have HT := Lib.hid T
  clear P Q T hs
  go_enter Tryz.func22, Tryz.ntmps22
  go_wp2_with fail
  refine (HP.out _ HT.out).mono ?_
  rintro e w1 ⟨rfl, rfl⟩
  go_wp2_with fail
  refine (HQ.out _).mono ?_
  rintro e w2 ⟨rfl, rfl⟩
  go_wp2
  go_ret2
  exact ⟨rfl, Below.refl _ _⟩
end Go.Proofs.YtdgmokfdkophpaaGreatDoor
