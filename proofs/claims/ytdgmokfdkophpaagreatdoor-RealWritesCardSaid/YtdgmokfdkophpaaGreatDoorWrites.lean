/-
  The walk of RealWrites, over what its callees answer.
  ParseFloat of a numeral whose digits are all noughts.
  RealWrites, for every text.
-/
import Derived.Test.YtdgmokfdkophpaaGreatDoorFixN
import Derived.Test.YtdgmokfdkophpaaGreatDoorWholes
import Derived.Test.YtdgmokfdkophpaaGreatDoorAtof
import Derived.Test.YtdgmokfdkophpaaGreatDoorDoors
namespace Go.Proofs.YtdgmokfdkophpaaGreatDoor
open Go.RowKit

set_option maxRecDepth 100000 in
set_option maxHeartbeats 1000000 in
theorem writes_bad (s : ByteArray) (w : World) (T : Tabs w) (W : ∀ w, Calls Tryz.prog 17 #[.string s, .int .i64 0, .int .i64 999999999] w fun e w' => e = .returned (.tuple #[.int .i64 0, .bool false]) ∧ Below w.heap.size w w') :
    Calls Tryz.prog 9 #[.string s] w fun e w' => e = .returned (.bool true) ∧ Below w.heap.size w w' := by
  have HT := Lib.hid T
  have HW := Lib.hid W
  clear T W
  go_enter Tryz.func9, Tryz.ntmps9
  go_wp2_with fail
  refine (shown_any _ HT.out).mono ?_
  rintro e w1 ⟨rfl, B1⟩
  have HB := Lib.hid B1
  clear B1
  go_wp2_with fail
  refine (HW.out _).mono ?_
  rintro e w2 ⟨rfl, B2⟩
  have HB2 := Lib.hid (HB.out.trans (B2.mono HB.out.size))
  clear B2
  go_wp2
  go_ret
  exact ⟨rfl, HB2.out⟩

set_option maxRecDepth 100000 in
set_option maxHeartbeats 1500000 in
theorem writes_ok (s : ByteArray) (m b : Nat) (w : World) (T : Tabs w) (hm : m ≤ 999999999) (hb : floatOfInt .f64 (m : Int) = b) (hr : (FloatKind.f64.format.order b b == some .eq) = true)
    (W : ∀ w, Calls Tryz.prog 17 #[.string s, .int .i64 0, .int .i64 999999999] w fun e w' => e = .returned (.tuple #[.int .i64 m, .bool true]) ∧ Below w.heap.size w w')
    (W2 : ∀ w, Calls Tryz.prog 17 #[.string s, .int .i64 ((m : Int) + 1), .int .i64 999999999] w fun e w' => e = .returned (.tuple #[.int .i64 0, .bool false]) ∧ Below w.heap.size w w')
    (W3 : ∀ w, Calls Tryz.prog 17 #[.string s, .int .i64 0, .int .i64 ((m : Int) - 1)] w fun e w' => e = .returned (.tuple #[.int .i64 0, .bool false]) ∧ Below w.heap.size w w')
    (P : ∀ w, Tabs w → Calls Tryz.prog 21 #[.string s] w fun e w' => e = .returned (.tuple #[.float .f64 b, .bool true]) ∧ w = w')
    (F : ∀ w, Tabs w → Calls Tryz.prog 22 #[.string s] w fun e w' => e = .returned (.tuple #[.string s, .bool true]) ∧ Below w.heap.size w w') :
    Calls Tryz.prog 9 #[.string s] w fun e w' => e = .returned (.bool true) ∧ Below w.heap.size w w' := by
  have HT := Lib.hid T
  have HW := Lib.hid W
  have HW2 := Lib.hid W2
  have HW3 := Lib.hid W3
  have HP := Lib.hid P
  have HF := Lib.hid F
  clear T W W2 W3 P F
  go_enter Tryz.func9, Tryz.ntmps9
  go_wp2_with fail
  refine (shown_any _ HT.out).mono ?_
  rintro e w1 ⟨rfl, B1⟩
  have HB := Lib.hid B1
  clear B1
  go_wp2_with fail
  refine (HW.out _).mono ?_
  rintro e w2 ⟨rfl, B2⟩
  have HB2 := Lib.hid (HB.out.trans (B2.mono HB.out.size))
  have HT2 := Lib.hid (HT.out.below HB2.out (Nat.le_refl _))
  clear B2
  go_wp2_with fail
  refine (HP.out _ HT2.out).mono ?_
  rintro e w3 ⟨rfl, rfl⟩
  go_wp2_with fail
  refine (HF.out _ HT2.out).mono ?_
  rintro e w4 ⟨rfl, B4⟩
  have HB4 := Lib.hid (HB2.out.trans (B4.mono HB2.out.size))
  clear B4
  go_wp2_with fail
  refine (HW2.out _).mono ?_
  rintro e w5 ⟨rfl, B5⟩
  have HB5 := Lib.hid (HB4.out.trans (B5.mono HB4.out.size))
  clear B5
  go_wp2_with fail
  refine (HW3.out _).mono ?_
  rintro e w6 ⟨rfl, B6⟩
  have HB6 := Lib.hid (HB5.out.trans (B6.mono HB5.out.size))
  clear B6
  go_wp2
  go_ret
  exact ⟨rfl, HB6.out⟩
end Go.Proofs.YtdgmokfdkophpaaGreatDoor

namespace Go.Proofs.YtdgmokfdkophpaaGreatDoor
open Go.RowKit

set_option maxRecDepth 100000 in
set_option maxHeartbeats 600000 in
theorem atof_zero (s : ByteArray) (w : World) (T : Tabs w) (_hs : s.size ≤ 40)
    (SP : ∀ w, Calls Tryz.prog 105 #[.string s] w fun e w' => e = .returned (.tuple #[.float .f64 0, .int .i64 0, .bool false]) ∧ w = w')
    (RD : ∀ w, Calls Tryz.prog 106 #[.string s] w fun e w' => e = .returned (.tuple #[.int .u64 0, .int .i64 0, .bool false, .bool false, .bool false, .int .i64 s.size, .bool true]) ∧ w = w') :
    Calls Tryz.prog 81 #[.string s] w fun e w' => e = .returned (.tuple #[.float .f64 0, .int .i64 s.size, .nilIface]) ∧ w = w' := by
  have h3 := T.opt
  have d1 := door115
  have HSP := Lib.hid SP
  have HRD := Lib.hid RD
  clear SP RD T
  go_enter Tryz.func81, Tryz.ntmps81
  go_wp2_with (first
    | (go_at_call 105; refine (HSP.out _).mono ?_; rintro e w' ⟨rfl, rfl⟩)
    | (go_at_call 106; refine (HRD.out _).mono ?_; rintro e w' ⟨rfl, rfl⟩)
    | (go_at_call 114; ((with_reducible refine (bool2_u64_false _).mono ?_); rintro e w' ⟨rfl, rfl⟩)))
  go_ret3
  exact ⟨rfl, rfl⟩
end Go.Proofs.YtdgmokfdkophpaaGreatDoor

namespace Go.Proofs.YtdgmokfdkophpaaGreatDoor
open Go.RowKit

def s0 : ByteArray := { data := #[48] }
theorem read0 (w : World) : Calls Tryz.prog 106 #[.string s0] w fun e w' => e = .returned (.tuple #[.int .u64 0, .int .i64 0, .bool false, .bool false, .bool false, .int .i64 s0.size, .bool true]) ∧ w = w' := by
  have N : NumText s0 0 1 := by
    refine ⟨by decide, by decide, ?_, ?_, by kernel_rfl, fun h => absurd h (by decide)⟩
    · intro j h _ hj
      match j, h, hj with
      | 0, _, _ => rfl
    · intro j h _ hj
      match j, h, hj with
      | 0, _, _ => intro e; exact absurd (show (48 : UInt8) = 46 from e) (by decide)
  have := read_any s0 false 0 1 w (by decide) ⟨by decide, .inl ⟨rfl, rfl, rfl, rfl⟩⟩ N 0 (.inl ⟨rfl, rfl⟩)
  have e : rfold (part s0 0 1) = ⟨0, 0, 0, -1, false, true, false⟩ := by kernel_rfl
  rw [e] at this
  exact this
theorem parse0 (w : World) (T : Tabs w) : Calls Tryz.prog 21 #[.string s0] w fun e w' => e = .returned (.tuple #[.float .f64 0, .bool true]) ∧ w = w' := by
  refine parse_ok s0 0 w (by decide) (by kernel_rfl) (by kernel_rfl) ?_
  intro w' hw
  subst hw
  exact atof_zero s0 w T (by decide) (fun w => special_plain s0 w (by decide) (by decide) (by decide) rfl rfl) read0
set_option maxRecDepth 100000 in
theorem fix0 (w : World) (T : Tabs w) : Calls Tryz.prog 22 #[.string s0] w fun e w' => e = .returned (.tuple #[.string s0, .bool true]) ∧ Below w.heap.size w w' := by
  have P := parse0
  have Q : ∀ w, Calls Tryz.prog 19 #[.float .f64 0] w fun e w' => e = .returned (.string s0) ∧ w = w' := fun w => print_zero 0 w (by kernel_rfl) (by kernel_rfl) (by kernel_rfl)
  obtain ⟨s, hs⟩ : ∃ s, s = s0 := ⟨_, rfl⟩
  rw [← hs] at P Q ⊢
  have HP := Lib.hid P
  have HQ := Lib.hid Q
  have HT := Lib.hid T
  clear P Q T hs
  go_enter Tryz.func22, Tryz.ntmps22
  go_wp2_with fail
  refine (HP.out _ HT.out).mono ?_
  rintro e w1 ⟨rfl, rfl⟩
  go_wp2_with fail
  refine (HQ.out _).mono ?_
  rintro e w2 ⟨rfl, rfl⟩
  go_wp2
  go_ret2
  exact ⟨rfl, Below.refl _ _⟩

theorem bound_in (s : ByteArray) (m : Nat) (h : WholeAt s m) :
    (∀ w, Calls Tryz.prog 17 #[.string s, .int .i64 0, .int .i64 999999999] w fun e w' => e = .returned (.tuple #[.int .i64 m, .bool true]) ∧ Below w.heap.size w w') ∧
    (∀ w, Calls Tryz.prog 17 #[.string s, .int .i64 ((m : Int) + 1), .int .i64 999999999] w fun e w' => e = .returned (.tuple #[.int .i64 0, .bool false]) ∧ Below w.heap.size w w') ∧
    (∀ w, Calls Tryz.prog 17 #[.string s, .int .i64 0, .int .i64 ((m : Int) - 1)] w fun e w' => e = .returned (.tuple #[.int .i64 0, .bool false]) ∧ Below w.heap.size w w') := by
  have hl := h.lo
  have hh := h.hi
  refine ⟨fun w => ?_, fun w => ?_, fun w => ?_⟩
  · have := whole_some s m 0 999999999 w h
    unfold boundV at this
    rwa [if_neg (by omega)] at this
  · have := whole_some s m ((m : Int) + 1) 999999999 w h
    unfold boundV at this
    rwa [if_pos (by omega)] at this
  · have := whole_some s m 0 ((m : Int) - 1) w h
    unfold boundV at this
    rwa [if_pos (by omega)] at this

/-- RealWrites returns true. -/
theorem writes_any (s : ByteArray) (hm : s.size ≤ maxLen) (w : World) (T : Tabs w) :
    Calls Tryz.prog 9 #[.string s] w fun e w' => e = .returned (.bool true) ∧ Below w.heap.size w w' := by
  have hle : digs s.data.toList ≤ s.size := by have := digs_le s.data.toList; simpa using this
  by_cases hg : 1 ≤ s.size ∧ s.size ≤ 9 ∧ digs s.data.toList = s.size ∧ (s.size = 1 ∨ ∃ h : 0 < s.size, ((s[0].toNat : Int) == 48) = false)
  · obtain ⟨g1, g2, g3, g4⟩ := hg
    obtain ⟨m, h2, h3⟩ := wholeAt_of s g1 g2 g3 g4
    obtain ⟨W1, W2, W3⟩ := bound_in s m h3
    have hm9 : m ≤ 999999999 := by have := h3.hi; omega
    by_cases hz : ∃ h : 0 < s.size, s[0] ≠ 48
    · obtain ⟨m1, _⟩ := dec_text s g2 g3 hz s.size g1 (Nat.le_refl _) m (by rw [List.take_of_length_le (by simp)]; exact h2)
      obtain ⟨k, hk⟩ : ∃ k, k = m.log2 := ⟨_, rfl⟩
      obtain ⟨k1, k2⟩ := (Nat.log2_eq_iff (by omega : m ≠ 0)).1 hk.symm
      have k3 : k ≤ 29 := by
        refine Nat.le_of_not_lt fun h => ?_
        have : 2 ^ 30 ≤ 2 ^ k := Nat.pow_le_pow_right (by omega) h
        have e30 : (2 : Nat) ^ 30 = 1073741824 := by decide
        omega
      have PF := posF_nat m k k3 k1 k2
      refine writes_ok s m _ w T hm9 rfl ?_ W1 W2 W3 (fun w T => parse_int s m g1 g2 g3 hz h2 m1 (by omega) PF.fin w T) (fun w T => fix_int s m g1 g2 g3 hz h2 (by omega) PF.fin w T)
      have := PF.real
      simpa [bne] using this
    · have h00 : 0 < s.size := g1
      have h48 : s[0] = 48 := Classical.byContradiction fun h => hz ⟨h00, h⟩
      have h1 : s.size = 1 := by
        rcases g4 with g4 | ⟨h, g4⟩
        · exact g4
        · rw [h48] at g4; exact absurd g4 (by decide)
      have es : s = s0 := by
        have hl : s.data.toList.length = 1 := by rw [← size_list]; exact h1
        have : s.data.toList = [48] := by
          match hh : s.data.toList, hl with
          | [c], _ =>
            have hc : s[0] = c := by rw [← bytes_at s 0 h00]; simp [hh]
            rw [← hc, h48]
        exact bytes_ext s [48] this
      subst es
      have em : m = 0 := by
        have e : Lib.decFrom 0 s0.data.toList = some 0 := by kernel_rfl
        rw [e] at h2
        exact (Option.some.inj h2).symm
      subst em
      exact writes_ok s0 0 0 w T hm9 (by kernel_rfl) (by kernel_rfl) W1 W2 W3 parse0 fix0
  · refine writes_bad s w T ?_
    obtain ⟨n, b, R⟩ := wholeRet s 0 999999999 hm
    by_cases c0 : digs s.data.toList < 1
    · exact fun w => still_below (whole_bad s _ _ w hm _ rfl (.inl c0))
    · by_cases c9 : 9 < digs s.data.toList
      · exact fun w => still_below (whole_bad s _ _ w hm _ rfl (.inr (.inl c9)))
      · by_cases cs : digs s.data.toList = s.size
        · refine fun w => still_below (whole_bad s _ _ w hm _ rfl (.inr (.inr (.inr ⟨⟨?_, by omega⟩, cs, by omega, ?_⟩))))
          · refine Nat.lt_of_not_le fun h => hg ⟨by omega, by omega, cs, .inl (by omega)⟩
          · refine Classical.byContradiction fun h => hg ⟨by omega, by omega, cs, .inr ⟨by omega, beq_eq_false_iff_ne.2 (by omega)⟩⟩
        · exact fun w => still_below (whole_bad s _ _ w hm _ rfl (.inr (.inr (.inl ⟨⟨by omega, by omega⟩, cs⟩))))
end Go.Proofs.YtdgmokfdkophpaaGreatDoor
