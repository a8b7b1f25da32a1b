/-
  ParseFloat, Parse and Fix of a numeral whose digits are all noughts.
  Parse and Fix, of every text.
-/
import Derived.Test.YtcfgbdhpcboikaaGreatDoorSpec
import Derived.Test.YtcfgbdhpcboikaaGreatDoorReadC
import Derived.Test.YtcfgbdhpcboikaaGreatDoorPrint
import Derived.Test.YtcfgbdhpcboikaaGreatDoorAtofA
namespace Go.Proofs.YtcfgbdhpcboikaaGreatDoor
open Go.RowKit

set_option maxRecDepth 100000 in
set_option maxHeartbeats 600000 in
theorem atof_zero (s : ByteArray) (w : World) (T : Tabs w) (_hs : s.size ≤ 40)
    (SP : ∀ w, Calls Tryz.prog 233 #[.string s] w fun e w' => e = .returned (.tuple #[.float .f64 0, .int .i64 0, .bool false]) ∧ w = w')
    (RD : ∀ w, Calls Tryz.prog 234 #[.string s] w fun e w' => e = .returned (.tuple #[.int .u64 0, .int .i64 0, .bool false, .bool false, .bool false, .int .i64 s.size, .bool true]) ∧ w = w') :
    Calls Tryz.prog 205 #[.string s] w fun e w' => e = .returned (.tuple #[.float .f64 0, .int .i64 s.size, .nilIface]) ∧ w = w' := by
  have h3 := T.opt
  have d1 := door115
  have HSP := Lib.hid SP
  have HRD := Lib.hid RD
  clear SP RD T
  go_enter Tryz.func205, Tryz.ntmps205
  go_wp2_with (first
    | (go_at_call 233; refine (HSP.out _).mono ?_; rintro e w' ⟨rfl, rfl⟩)
    | (go_at_call 234; refine (HRD.out _).mono ?_; rintro e w' ⟨rfl, rfl⟩)
    | (go_at_call 242; ((with_reducible refine (bool2_u64_false _).mono ?_); rintro e w' ⟨rfl, rfl⟩)))
  go_ret3
  exact ⟨rfl, rfl⟩
def s0 : ByteArray := { data := #[48] }
theorem read0 (w : World) : Calls Tryz.prog 234 #[.string s0] w fun e w' => e = .returned (.tuple #[.int .u64 0, .int .i64 0, .bool false, .bool false, .bool false, .int .i64 s0.size, .bool true]) ∧ w = w' := by
  have N : NumText s0 0 1 := by
    refine ⟨by decide, by decide, ?_, ?_, by kernel_rfl, fun h => absurd h (by decide)⟩
    · intro j h _ hj
      match j, h, hj with
      | 0, _, _ => rfl
    · intro j h _ hj
      match j, h, hj with
      | 0, _, _ => intro e; exact absurd (show (48 : UInt8) = 46 from e) (by decide)
  have := read_any s0 false 0 1 w (by decide) ⟨by decide, .inl ⟨rfl, rfl, rfl, rfl⟩⟩ N 0 (.inl ⟨rfl, rfl⟩)
  have e : rfold (part s0 0 1) = ⟨0, 0, 0, -1, false, true, false⟩ := by kernel_rfl
  rw [e] at this
  exact this
theorem parse0 (w : World) (T : Tabs w) : Calls Tryz.prog 21 #[.string s0] w fun e w' => e = .returned (.tuple #[.float .f64 0, .bool true]) ∧ w = w' := by
  refine parse_ok s0 0 w (by decide) (by kernel_rfl) (by kernel_rfl) ?_
  intro w' hw
  subst hw
  exact atof_zero s0 w T (by decide) (fun w => special_plain s0 w (by decide) (by decide) (by decide) rfl rfl) read0
set_option maxRecDepth 100000 in
theorem fix0 (w : World) (T : Tabs w) : Calls Tryz.prog 20 #[.string s0] w fun e w' => e = .returned (.tuple #[.string s0, .bool true]) ∧ Below w.heap.size w w' := by
  have P := parse0
  have Q : ∀ w, Calls Tryz.prog 63 #[.float .f64 0] w fun e w' => e = .returned (.string s0) ∧ w = w' := fun w => print_zero 0 w (by kernel_rfl) (by kernel_rfl) (by kernel_rfl)
  obtain ⟨s, hs⟩ : ∃ s, s = s0 := ⟨_, rfl⟩
  rw [← hs] at P Q ⊢
  have HP := Lib.hid P
  have HQ := Lib.hid Q
  have HT := Lib.hid T
  clear P Q T hs
  go_enter Tryz.func20, Tryz.ntmps20
  go_wp2_with fail
  refine (HP.out _ HT.out).mono ?_
  rintro e w1 ⟨rfl, rfl⟩
  go_wp2_with fail
  refine (HQ.out _).mono ?_
  rintro e w2 ⟨rfl, rfl⟩
  go_wp2
  go_ret2
  exact ⟨rfl, Below.refl _ _⟩
end Go.Proofs.YtcfgbdhpcboikaaGreatDoor

namespace Go.Proofs.YtcfgbdhpcboikaaGreatDoor
open Go.RowKit

theorem prefix_e (s : ByteArray) (r : Nat) (w : World) (T : Tabs w)
    (A : ∀ w', Tabs w' → Calls Tryz.prog 205 #[.string s] w' fun e w2 => e = .returned (.tuple #[.float .f64 r, .int .i64 s.size, .iface 158 (.int .i64 1)]) ∧ Below w'.heap.size w' w2) :
    Calls Tryz.prog 164 #[.string s, .int .i64 64] w fun e w' => e = .returned (.tuple #[.float .f64 r, .int .i64 s.size, .iface 158 (.int .i64 1)]) ∧ Below w.heap.size w w' := by
  have HA := Lib.hid A
  have HT := Lib.hid T
  clear A T
  go_enter Tryz.func164, Tryz.ntmps164
  go_wp2_with fail
  refine (HA.out _ HT.out).mono ?_
  rintro e w2 ⟨rfl, B2⟩
  have HB := Lib.hid B2
  clear B2
  go_wp2
  go_ret3
  exact ⟨rfl, HB.out⟩
theorem pf46_e (s : ByteArray) (r : Nat) (w : World) (T : Tabs w)
    (A : ∀ w', Tabs w' → Calls Tryz.prog 205 #[.string s] w' fun e w2 => e = .returned (.tuple #[.float .f64 r, .int .i64 s.size, .iface 158 (.int .i64 1)]) ∧ Below w'.heap.size w' w2) :
    Calls Tryz.prog 119 #[.string s, .int .i64 64] w fun e w' => e = .returned (.tuple #[.float .f64 r, .iface 158 (.int .i64 1)]) ∧ Below w.heap.size w w' := by
  have HA := Lib.hid A
  have HT := Lib.hid T
  clear A T
  go_enter Tryz.func119, Tryz.ntmps119
  go_wp2_with fail
  refine (prefix_e s r _ HT.out HA.out).mono ?_
  rintro e w2 ⟨rfl, B2⟩
  have HB := Lib.hid B2
  clear B2
  go_wp2
  go_ret2
  exact ⟨rfl, HB.out⟩
/-- Some error. -/
def SomeErr (r : Nat) (e : Ending) : Prop := ∃ t p, e = .returned (.tuple #[.float .f64 r, .iface t p])
theorem pf31_e (s : ByteArray) (hs : s.size ≤ 1000) (r : Nat) (w : World) (T : Tabs w)
    (A : ∀ w', Tabs w' → Calls Tryz.prog 205 #[.string s] w' fun e w2 => e = .returned (.tuple #[.float .f64 r, .int .i64 s.size, .iface 158 (.int .i64 1)]) ∧ Below w'.heap.size w' w2) :
    Calls Tryz.prog 66 #[.string s, .int .i64 64] w fun e w' => SomeErr r e ∧ Below w.heap.size w w' := by
  have HA := Lib.hid A
  have HT := Lib.hid T
  clear A T
  go_enter Tryz.func66, Tryz.ntmps66
  go_wp2_with fail
  refine (pf46_e s r _ HT.out HA.out).mono ?_
  rintro e w2 ⟨rfl, B2⟩
  have HB := Lib.hid B2
  have HT2 := Lib.hid (HT.out.below B2 (Nat.le_refl _))
  clear B2
  go_wp2_with fail
  obtain ⟨t2, v2, h2⟩ := HT2.out.rng
  refine (Tryz.strconv_toError_range _ s _ _ _ _ (by omega) h2 (.inr ⟨_, _, rfl⟩)).mono ?_
  rintro e w3 ⟨N, rfl, _, _, B3⟩
  have HB3 := Lib.hid (HB.out.trans (B3.mono HB.out.size))
  clear B3
  go_wp2
  go_ret2
  exact ⟨⟨_, _, rfl⟩, HB3.out⟩
/-- Parse of a numeral beyond the floats. -/
theorem parse_e (s : ByteArray) (r : Nat) (w : World) (T : Tabs w) (hs : s.size ≤ 1000) (hn : numB s.data.toList = true)
    (A : ∀ w', Tabs w' → Calls Tryz.prog 205 #[.string s] w' fun e w2 => e = .returned (.tuple #[.float .f64 r, .int .i64 s.size, .iface 158 (.int .i64 1)]) ∧ Below w'.heap.size w' w2) :
    Calls Tryz.prog 21 #[.string s] w fun e w' => e = .returned (.tuple #[.float .f64 0, .bool false]) ∧ Below w.heap.size w w' := by
  have NB := fun w => numeral_any s w (by unfold maxLen; omega)
  rw [hn] at NB
  have HA := Lib.hid A
  have HNB := Lib.hid NB
  have HT := Lib.hid T
  clear A NB hn T
  go_enter Tryz.func21, Tryz.ntmps21
  go_wp2_with (go_at_call 65; refine (HNB.out _).mono ?_; rintro e w' ⟨rfl, rfl⟩)
  refine (pf31_e s hs r _ HT.out HA.out).mono ?_
  rintro e w2 ⟨⟨t, p, rfl⟩, B2⟩
  have HB := Lib.hid B2
  clear B2
  go_wp2
  go_ret2
  exact ⟨rfl, HB.out⟩


theorem parse_no (s : ByteArray) (w : World) (hs : s.size ≤ maxLen) (hn : numB s.data.toList = false) :
    Calls Tryz.prog 21 #[.string s] w fun e w' => e = .returned (.tuple #[.float .f64 0, .bool false]) ∧ w = w' := by
  have NB := fun w => numeral_any s w hs
  rw [hn] at NB
  have HNB := Lib.hid NB
  clear NB hn hs
  go_enter Tryz.func21, Tryz.ntmps21
  go_wp2_with (go_at_call 65; refine (HNB.out _).mono ?_; rintro e w' ⟨rfl, rfl⟩)
  go_ret2
  exact ⟨rfl, rfl⟩
theorem fix_no (s : ByteArray) (w : World) (T : Tabs w)
    (P : ∀ w, Tabs w → Calls Tryz.prog 21 #[.string s] w fun e w' => e = .returned (.tuple #[.float .f64 0, .bool false]) ∧ Below w.heap.size w w') :
    Calls Tryz.prog 20 #[.string s] w fun e w' => e = .returned (.tuple #[.string ByteArray.empty, .bool false]) ∧ Below w.heap.size w w' := by
  have HP := Lib.hid P
  have HT := Lib.hid T
  clear P T
  go_enter Tryz.func20, Tryz.ntmps20
  go_wp2_with fail
  refine (HP.out _ HT.out).mono ?_
  rintro e w1 ⟨rfl, B1⟩
  have HB := Lib.hid B1
  clear B1
  go_wp2
  go_ret2
  exact ⟨rfl, HB.out⟩

/-- Of every text: a float, or none. -/
def PFine (s : ByteArray) (neg : Bool) (b : Nat) : Prop := b < infR ∧ ∀ w, Tabs w → Calls Tryz.prog 21 #[.string s] w fun e w' => e = .returned (.tuple #[.float .f64 (sgn neg + b), .bool true]) ∧ Below w.heap.size w w'
def PNone (s : ByteArray) : Prop := ∀ w, Tabs w → Calls Tryz.prog 21 #[.string s] w fun e w' => e = .returned (.tuple #[.float .f64 0, .bool false]) ∧ Below w.heap.size w w'

theorem parse_all (A : ∀ s : ByteArray, numB s.data.toList = true → ARes s) (s : ByteArray) (hs : s.size ≤ maxLen) : (∃ neg b, PFine s neg b) ∨ PNone s := by
  cases hn : numB s.data.toList with
  | false => exact .inr fun w _ => same_below (parse_no s w hs hn)
  | true =>
    have h40 : s.size ≤ 40 := by
      unfold numB at hn
      split at hn
      · cases hn
      · rw [size_list]; omega
    rcases A s hn with ⟨neg, b, hb, h⟩ | ⟨r, h⟩
    · exact .inl ⟨neg, b, hb, fun w T => parse_b s _ w T hs hn (inf_rung neg b hb) h⟩
    · exact .inr fun w T => parse_e s r w T (by omega) hn h
end Go.Proofs.YtcfgbdhpcboikaaGreatDoor
