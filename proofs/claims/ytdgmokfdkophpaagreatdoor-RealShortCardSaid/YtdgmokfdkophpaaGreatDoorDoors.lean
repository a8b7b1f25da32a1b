/-
  The doors between a float and its bits; math.Abs, math.IsInf.
-/
import Derived.Test.YtdgmokfdkophpaaGreatDoorAtof
import Derived.Laws.Externs
namespace Go.Proofs.YtdgmokfdkophpaaGreatDoor
open Go.RowKit

theorem door11 (n : Int) (w : World) : (callFunc 11 #[.int .u64 n]).run Tryz.prog w = .ok (.value (.float .f64 n.toNat)) w := by
  rw [run_callFunc_extern Tryz.func11 (by kernel_rfl) (by kernel_rfl) (by kernel_rfl) (e := Extern.MathFloatBits.float64frombits) (by kernel_rfl)]
  rfl
theorem door115 (n : Int) (w : World) : (callFunc 115 #[.int .u64 n]).run Tryz.prog w = .ok (.value (.float .f64 n.toNat)) w := by
  rw [run_callFunc_extern Tryz.func115 (by kernel_rfl) (by kernel_rfl) (by kernel_rfl) (e := Extern.MathFloatBits.float64frombits) (by kernel_rfl)]
  rfl
theorem door23 (r : Nat) (w : World) : (callFunc 23 #[.float .f64 r]).run Tryz.prog w = .ok (.value (.int .u64 r)) w := by
  rw [run_callFunc_extern Tryz.func23 (by kernel_rfl) (by kernel_rfl) (by kernel_rfl) (e := Extern.MathFloatBits.float64bits) (by kernel_rfl)]
  rfl
theorem door85 (r : Nat) (w : World) : (callFunc 85 #[.float .f64 r]).run Tryz.prog w = .ok (.value (.int .u64 r)) w := by
  rw [run_callFunc_extern Tryz.func85 (by kernel_rfl) (by kernel_rfl) (by kernel_rfl) (e := Extern.MathFloatBits.float64bits) (by kernel_rfl)]
  rfl

/-- A float's magnitude. -/
def absF (r : Nat) : Nat := (bits .andNot .u64 r 9223372036854775808).toNat
theorem abs_any (r : Nat) (w : World) : Calls Tryz.prog 34 #[.float .f64 r] w fun e w' => e = .returned (.float .f64 (absF r)) ∧ w = w' := by
  have d1 := door11
  have d2 := door23
  go_enter Tryz.func34, Tryz.ntmps34
  go_wp2
  go_ret
  exact ⟨rfl, rfl⟩

/-- Is a float infinite? -/
def infF (r : Nat) : Bool := FloatKind.f64.format.order (absF r) 9218868437227405311 == some .gt
theorem isInf_any (r : Nat) (w : World) : Calls Tryz.prog 26 #[.float .f64 r, .int .i64 0] w fun e w' => e = .returned (.bool (infF r)) ∧ w = w' := by
  go_enter Tryz.func26, Tryz.ntmps26
  go_wp2_with (go_at_call 34; refine (abs_any _ _).mono ?_; rintro e w' ⟨rfl, rfl⟩)
  go_ret
  exact ⟨rfl, rfl⟩
theorem isInf_at (r : Nat) (b : Bool) (w : World) (h : infF r = b) : Calls Tryz.prog 26 #[.float .f64 r, .int .i64 0] w fun e w' => e = .returned (.bool b) ∧ w = w' := by
  subst h; exact isInf_any r w

/-- What atof64 tells of a text goes up to Parse, where there is no error. -/
theorem prefix_ok (s : ByteArray) (r : Nat) (w : World)
    (A : ∀ w', w = w' → Calls Tryz.prog 81 #[.string s] w' fun e w2 => e = .returned (.tuple #[.float .f64 r, .int .i64 s.size, .nilIface]) ∧ w' = w2) :
    Calls Tryz.prog 64 #[.string s, .int .i64 64] w fun e w' => e = .returned (.tuple #[.float .f64 r, .int .i64 s.size, .nilIface]) ∧ w = w' := by
  have HA := Lib.hid A
  clear A
  go_enter Tryz.func64, Tryz.ntmps64
  go_wp2_with (go_at_call 81; refine (HA.out _ rfl).mono ?_; rintro e w' ⟨rfl, rfl⟩)
  go_ret3
  exact ⟨rfl, rfl⟩
theorem pf46_ok (s : ByteArray) (r : Nat) (w : World)
    (A : ∀ w', w = w' → Calls Tryz.prog 81 #[.string s] w' fun e w2 => e = .returned (.tuple #[.float .f64 r, .int .i64 s.size, .nilIface]) ∧ w' = w2) :
    Calls Tryz.prog 46 #[.string s, .int .i64 64] w fun e w' => e = .returned (.tuple #[.float .f64 r, .nilIface]) ∧ w = w' := by
  have HA := Lib.hid A
  clear A
  go_enter Tryz.func46, Tryz.ntmps46
  go_wp2_with (go_at_call 64; refine (prefix_ok s r _ HA.out).mono ?_; rintro e w' ⟨rfl, rfl⟩)
  go_ret2
  exact ⟨rfl, rfl⟩
theorem pf31_ok (s : ByteArray) (r : Nat) (w : World)
    (A : ∀ w', w = w' → Calls Tryz.prog 81 #[.string s] w' fun e w2 => e = .returned (.tuple #[.float .f64 r, .int .i64 s.size, .nilIface]) ∧ w' = w2) :
    Calls Tryz.prog 31 #[.string s, .int .i64 64] w fun e w' => e = .returned (.tuple #[.float .f64 r, .nilIface]) ∧ w = w' := by
  have HA := Lib.hid A
  clear A
  go_enter Tryz.func31, Tryz.ntmps31
  go_wp2_with (go_at_call 46; refine (pf46_ok s r _ HA.out).mono ?_; rintro e w' ⟨rfl, rfl⟩)
  go_ret2
  exact ⟨rfl, rfl⟩
/-- Parse of a numeral that has a value. -/
theorem parse_ok (s : ByteArray) (r : Nat) (w : World) (hs : s.size ≤ maxLen) (hn : numB s.data.toList = true) (hi : infF r = false)
    (A : ∀ w', w = w' → Calls Tryz.prog 81 #[.string s] w' fun e w2 => e = .returned (.tuple #[.float .f64 r, .int .i64 s.size, .nilIface]) ∧ w' = w2) :
    Calls Tryz.prog 21 #[.string s] w fun e w' => e = .returned (.tuple #[.float .f64 r, .bool true]) ∧ w = w' := by
  have NB := fun w => numeral_any s w hs
  rw [hn] at NB
  have HA := Lib.hid A
  have HNB := Lib.hid NB
  have HI := Lib.hid hi
  clear A NB hn hi hs
  go_enter Tryz.func21, Tryz.ntmps21
  go_wp2_with (first
    | (go_at_call 30; refine (HNB.out _).mono ?_; rintro e w' ⟨rfl, rfl⟩)
    | (go_at_call 31; refine (pf31_ok s r _ HA.out).mono ?_; rintro e w' ⟨rfl, rfl⟩)
    | (go_at_call 26; refine (isInf_at r false _ HI.out).mono ?_; rintro e w' ⟨rfl, rfl⟩))
  go_ret2
  exact ⟨rfl, rfl⟩
end Go.Proofs.YtdgmokfdkophpaaGreatDoor
