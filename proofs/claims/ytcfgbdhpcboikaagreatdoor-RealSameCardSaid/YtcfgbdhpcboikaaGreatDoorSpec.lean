/-
  internal/strconv.special at what begins as a numeral; math.Abs, math.IsInf.
  atof64 at a numeral whose value comes out exactly; ParseFloat; Parse.
  The doors between a float and its bits; math.Abs, math.IsInf.
-/
import Derived.Test.YtcfgbdhpcboikaaGreatDoorExact
import Derived.Handy
import Derived.Laws.Externs
namespace Go.Proofs.YtcfgbdhpcboikaaGreatDoor
open Go.RowKit

/-- No letter in front: nothing in common with a word in small letters. -/
theorem prefix_no (s p : ByteArray) (w : World) (h : 0 < s.size) (hs : s.size ≤ 40) (hp : 0 < p.size) (hp2 : p.size ≤ 40) (h1 : s[0].toNat ≤ 57) (hq : 97 ≤ p[0].toNat) :
    Calls Tryz.prog 269 #[.string s, .string p] w fun e w' => e = .returned (.int .i64 0) ∧ w = w' := by
  have h2 : ¬ 65 ≤ s[0].toNat := by omega
  have h3 : ((s[0].toNat : Int) != (p[0].toNat : Int)) = true := by simp; omega
  by_cases hle : p.size ≤ s.size
  all_goals
    go_enter Tryz.func269, Tryz.ntmps269
    go_wp2
    refine wp_loop_rounds 1 ?_
    rw [rounds_succ]
    go_wp2
    go_ret
    exact ⟨rfl, rfl⟩

set_option maxHeartbeats 1000000 in
theorem special_plain (s : ByteArray) (w : World) (h : 0 < s.size) (hs : s.size ≤ 40) (h1 : s[0].toNat ≤ 57) (h2 : ((s[0].toNat : Int) == 43) = false) (h3 : ((s[0].toNat : Int) == 45) = false) :
    Calls Tryz.prog 233 #[.string s] w fun e w' => e = .returned (.tuple #[.float .f64 0, .int .i64 0, .bool false]) ∧ w = w' := by
  have f1 : ((s[0].toNat : Int) == 105) = false := by simp; omega
  have f2 : ((s[0].toNat : Int) == 73) = false := by simp; omega
  have f3 : ((s[0].toNat : Int) == 110) = false := by simp; omega
  have f4 : ((s[0].toNat : Int) == 78) = false := by simp; omega
  have f0 : ((s.size : Int) == 0) = false := beq_eq_false_iff_ne.2 (by omega)
  go_enter Tryz.func233, Tryz.ntmps233
  go_wp2
  go_ret3
  exact ⟨rfl, rfl⟩

set_option maxHeartbeats 1000000 in
theorem special_minus (s : ByteArray) (w : World) (h : 1 < s.size) (hs : s.size ≤ 40) (h2 : ((s[0].toNat : Int) == 43) = false) (h3 : ((s[0].toNat : Int) == 45) = true) (h1 : s[1].toNat ≤ 57) :
    Calls Tryz.prog 233 #[.string s] w fun e w' => e = .returned (.tuple #[.float .f64 0, .int .i64 0, .bool false]) ∧ w = w' := by
  have f0 : ((s.size : Int) == 0) = false := beq_eq_false_iff_ne.2 (by omega)
  obtain ⟨s2, e2, z2, c2'⟩ := cut_from s 1 (by omega)
  have c2 : ∀ w, (Instr.slice 9 (.string s) (some (.int .i64 1)) none none).run Tryz.prog w = .ok (.string s2) w := c2'
  clear c2'
  have k2 : 0 < s2.size := by omega
  have k3 : s2.size ≤ 40 := by omega
  have g1 : s2[0].toNat ≤ 57 := by
    have : s2[0] = s[1] := by
      have a1 := List.getElem_of_eq e2 (i := 0) (by rw [← size_list]; exact k2)
      rw [List.getElem_drop] at a1
      exact a1
    rw [this]; exact h1
  have PR := fun w => prefix_no s2 ({ data := #[105, 110, 102, 105, 110, 105, 116, 121] } : ByteArray) w k2 k3 (Nat.le_of_ble_eq_true rfl) (Nat.le_of_ble_eq_true rfl) g1 (Nat.le_of_ble_eq_true rfl)
  have HPR := Lib.hid PR
  clear PR e2 z2
  go_enter Tryz.func233, Tryz.ntmps233
  go_wp2_with (go_at_call 269; refine (HPR.out _).mono ?_; rintro e w' ⟨rfl, rfl⟩)
  go_ret3
  exact ⟨rfl, rfl⟩
end Go.Proofs.YtcfgbdhpcboikaaGreatDoor

namespace Go.Proofs.YtcfgbdhpcboikaaGreatDoor
open Go.RowKit

theorem bool2_u64_true (w : World) : Calls Tryz.prog 242 #[.bool true] w fun e w' => e = .returned (.int .u64 1) ∧ w = w' := by
  go_enter Tryz.func242, Tryz.ntmps242
  go_wp2
  go_ret
  exact ⟨rfl, rfl⟩
theorem bool2_u64_false (w : World) : Calls Tryz.prog 242 #[.bool false] w fun e w' => e = .returned (.int .u64 0) ∧ w = w' := by
  go_enter Tryz.func242, Tryz.ntmps242
  go_wp2
  go_ret
  exact ⟨rfl, rfl⟩
theorem bool2_int_true (w : World) : Calls Tryz.prog 266 #[.bool true] w fun e w' => e = .returned (.int .i64 1) ∧ w = w' := by
  go_enter Tryz.func266, Tryz.ntmps266
  go_wp2
  go_ret
  exact ⟨rfl, rfl⟩
theorem bool2_int_false (w : World) : Calls Tryz.prog 266 #[.bool false] w fun e w' => e = .returned (.int .i64 0) ∧ w = w' := by
  go_enter Tryz.func266, Tryz.ntmps266
  go_wp2
  go_ret
  exact ⟨rfl, rfl⟩
theorem bool2_unr_true (w : World) : Calls Tryz.prog 295 #[.bool true] w fun e w' => e = .returned (.int .u64 1) ∧ w = w' := by
  go_enter Tryz.func295, Tryz.ntmps295
  go_wp2
  go_ret
  exact ⟨rfl, rfl⟩
theorem bool2_unr_false (w : World) : Calls Tryz.prog 295 #[.bool false] w fun e w' => e = .returned (.int .u64 0) ∧ w = w' := by
  go_enter Tryz.func295, Tryz.ntmps295
  go_wp2
  go_ret
  exact ⟨rfl, rfl⟩

set_option maxRecDepth 100000 in
set_option maxHeartbeats 2000000 in
theorem atof_exact (s : ByteArray) (m : Nat) (x : Int) (neg : Bool) (r : Nat) (w : World) (T : Tabs w) (_hs : s.size ≤ 40) (hm : m ≠ 0) (x1 : -345 ≤ x) (x2 : x ≤ 310)
    (SP : ∀ w, Calls Tryz.prog 233 #[.string s] w fun e w' => e = .returned (.tuple #[.float .f64 0, .int .i64 0, .bool false]) ∧ w = w')
    (RD : ∀ w, Calls Tryz.prog 234 #[.string s] w fun e w' => e = .returned (.tuple #[.int .u64 m, .int .i64 x, .bool neg, .bool false, .bool false, .int .i64 s.size, .bool true]) ∧ w = w')
    (EX : ∀ w, Tabs w → Calls Tryz.prog 244 #[.int .u64 m, .int .i64 x, .bool neg] w fun e w' => e = .returned (.tuple #[.float .f64 r, .bool true]) ∧ w = w') :
    Calls Tryz.prog 205 #[.string s] w fun e w' => e = .returned (.tuple #[.float .f64 r, .int .i64 s.size, .nilIface]) ∧ w = w' := by
  have h3 := T.opt
  have hm0 : ((m : Int) == 0) = false := beq_eq_false_iff_ne.2 (by omega)
  have HSP := Lib.hid SP
  have HRD := Lib.hid RD
  have HEX := Lib.hid EX
  have HT := Lib.hid T
  clear SP RD EX T
  cases neg
  all_goals
    go_enter Tryz.func205, Tryz.ntmps205
    go_wp2_with (first
      | (go_at_call 233; refine (HSP.out _).mono ?_; rintro e w' ⟨rfl, rfl⟩)
      | (go_at_call 234; refine (HRD.out _).mono ?_; rintro e w' ⟨rfl, rfl⟩)
      | (go_at_call 242; ((with_reducible refine (bool2_u64_true _).mono ?_); rintro e w' ⟨rfl, rfl⟩))
      | (go_at_call 242; ((with_reducible refine (bool2_u64_false _).mono ?_); rintro e w' ⟨rfl, rfl⟩))
      | (go_at_call 244; refine (HEX.out _ HT.out).mono ?_; rintro e w' ⟨rfl, rfl⟩))
    go_ret3
    exact ⟨rfl, rfl⟩
end Go.Proofs.YtcfgbdhpcboikaaGreatDoor

namespace Go.Proofs.YtcfgbdhpcboikaaGreatDoor
open Go.RowKit

theorem door11 (n : Int) (w : World) : (callFunc 169 #[.int .u64 n]).run Tryz.prog w = .ok (.value (.float .f64 n.toNat)) w := by
  rw [run_callFunc_extern Tryz.func169 (by kernel_rfl) (by kernel_rfl) (by kernel_rfl) (e := Extern.MathFloatBits.float64frombits) (by kernel_rfl)]
  rfl
theorem door115 (n : Int) (w : World) : (callFunc 243 #[.int .u64 n]).run Tryz.prog w = .ok (.value (.float .f64 n.toNat)) w := by
  rw [run_callFunc_extern Tryz.func243 (by kernel_rfl) (by kernel_rfl) (by kernel_rfl) (e := Extern.MathFloatBits.float64frombits) (by kernel_rfl)]
  rfl
theorem door23 (r : Nat) (w : World) : (callFunc 170 #[.float .f64 r]).run Tryz.prog w = .ok (.value (.int .u64 r)) w := by
  rw [run_callFunc_extern Tryz.func170 (by kernel_rfl) (by kernel_rfl) (by kernel_rfl) (e := Extern.MathFloatBits.float64bits) (by kernel_rfl)]
  rfl
theorem door85 (r : Nat) (w : World) : (callFunc 254 #[.float .f64 r]).run Tryz.prog w = .ok (.value (.int .u64 r)) w := by
  rw [run_callFunc_extern Tryz.func254 (by kernel_rfl) (by kernel_rfl) (by kernel_rfl) (e := Extern.MathFloatBits.float64bits) (by kernel_rfl)]
  rfl

/-- A float's magnitude. -/
def absF (r : Nat) : Nat := (bits .andNot .u64 r 9223372036854775808).toNat
theorem abs_any (r : Nat) (w : World) : Calls Tryz.prog 121 #[.float .f64 r] w fun e w' => e = .returned (.float .f64 (absF r)) ∧ w = w' := by
  have d1 := door11
  have d2 := door23
  go_enter Tryz.func121, Tryz.ntmps121
  go_wp2
  go_ret
  exact ⟨rfl, rfl⟩

/-- Is a float infinite? -/
def infF (r : Nat) : Bool := FloatKind.f64.format.order (absF r) 9218868437227405311 == some .gt
theorem isInf_any (r : Nat) (w : World) : Calls Tryz.prog 67 #[.float .f64 r, .int .i64 0] w fun e w' => e = .returned (.bool (infF r)) ∧ w = w' := by
  go_enter Tryz.func67, Tryz.ntmps67
  go_wp2_with (go_at_call 121; refine (abs_any _ _).mono ?_; rintro e w' ⟨rfl, rfl⟩)
  go_ret
  exact ⟨rfl, rfl⟩
theorem isInf_at (r : Nat) (b : Bool) (w : World) (h : infF r = b) : Calls Tryz.prog 67 #[.float .f64 r, .int .i64 0] w fun e w' => e = .returned (.bool b) ∧ w = w' := by
  subst h; exact isInf_any r w

/-- What atof64 tells of a text goes up to Parse, where there is no error. -/
theorem prefix_ok (s : ByteArray) (r : Nat) (w : World)
    (A : ∀ w', w = w' → Calls Tryz.prog 205 #[.string s] w' fun e w2 => e = .returned (.tuple #[.float .f64 r, .int .i64 s.size, .nilIface]) ∧ w' = w2) :
    Calls Tryz.prog 164 #[.string s, .int .i64 64] w fun e w' => e = .returned (.tuple #[.float .f64 r, .int .i64 s.size, .nilIface]) ∧ w = w' := by
  have HA := Lib.hid A
  clear A
  go_enter Tryz.func164, Tryz.ntmps164
  go_wp2_with (go_at_call 205; refine (HA.out _ rfl).mono ?_; rintro e w' ⟨rfl, rfl⟩)
  go_ret3
  exact ⟨rfl, rfl⟩
theorem pf46_ok (s : ByteArray) (r : Nat) (w : World)
    (A : ∀ w', w = w' → Calls Tryz.prog 205 #[.string s] w' fun e w2 => e = .returned (.tuple #[.float .f64 r, .int .i64 s.size, .nilIface]) ∧ w' = w2) :
    Calls Tryz.prog 119 #[.string s, .int .i64 64] w fun e w' => e = .returned (.tuple #[.float .f64 r, .nilIface]) ∧ w = w' := by
  have HA := Lib.hid A
  clear A
  go_enter Tryz.func119, Tryz.ntmps119
  go_wp2_with (go_at_call 164; refine (prefix_ok s r _ HA.out).mono ?_; rintro e w' ⟨rfl, rfl⟩)
  go_ret2
  exact ⟨rfl, rfl⟩
theorem pf31_ok (s : ByteArray) (r : Nat) (w : World)
    (A : ∀ w', w = w' → Calls Tryz.prog 205 #[.string s] w' fun e w2 => e = .returned (.tuple #[.float .f64 r, .int .i64 s.size, .nilIface]) ∧ w' = w2) :
    Calls Tryz.prog 66 #[.string s, .int .i64 64] w fun e w' => e = .returned (.tuple #[.float .f64 r, .nilIface]) ∧ w = w' := by
  have HA := Lib.hid A
  clear A
  go_enter Tryz.func66, Tryz.ntmps66
  go_wp2_with (go_at_call 119; refine (pf46_ok s r _ HA.out).mono ?_; rintro e w' ⟨rfl, rfl⟩)
  go_ret2
  exact ⟨rfl, rfl⟩
/-- Parse of a numeral that has a value. -/
theorem parse_ok (s : ByteArray) (r : Nat) (w : World) (hs : s.size ≤ maxLen) (hn : numB s.data.toList = true) (hi : infF r = false)
    (A : ∀ w', w = w' → Calls Tryz.prog 205 #[.string s] w' fun e w2 => e = .returned (.tuple #[.float .f64 r, .int .i64 s.size, .nilIface]) ∧ w' = w2) :
    Calls Tryz.prog 21 #[.string s] w fun e w' => e = .returned (.tuple #[.float .f64 r, .bool true]) ∧ w = w' := by
  have NB := fun w => numeral_any s w hs
  rw [hn] at NB
  have HA := Lib.hid A
  have HNB := Lib.hid NB
  have HI := Lib.hid hi
  clear A NB hn hi hs
  go_enter Tryz.func21, Tryz.ntmps21
  go_wp2_with (first
    | (go_at_call 65; refine (HNB.out _).mono ?_; rintro e w' ⟨rfl, rfl⟩)
    | (go_at_call 66; refine (pf31_ok s r _ HA.out).mono ?_; rintro e w' ⟨rfl, rfl⟩)
    | (go_at_call 67; refine (isInf_at r false _ HI.out).mono ?_; rintro e w' ⟨rfl, rfl⟩))
  go_ret2
  exact ⟨rfl, rfl⟩
end Go.Proofs.YtcfgbdhpcboikaaGreatDoor
