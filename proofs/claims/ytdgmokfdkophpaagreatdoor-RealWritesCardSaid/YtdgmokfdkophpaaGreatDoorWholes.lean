/-
  RealWholes: real.Whole answers as the document's Whole.
-/
import Derived.Test.YtdgmokfdkophpaaGreatDoorShown
import Derived.Test.YtdgmokfdkophpaaGreatDoorWholesA
namespace Go.Proofs.YtdgmokfdkophpaaGreatDoor
open Go.RowKit

set_option maxRecDepth 100000 in
set_option maxHeartbeats 1500000 in
theorem whole_bad (s : ByteArray) (lo hi : Int) (w : World) (hm : s.size ≤ maxLen) (n : Nat) (hn : digs s.data.toList = n)
    (h : n < 1 ∨ 9 < n ∨ ((1 ≤ n ∧ n ≤ 9) ∧ n ≠ s.size) ∨ ((1 < n ∧ n ≤ 9) ∧ n = s.size ∧ ∃ h : 0 < s.size, s[0].toNat = 48)) :
    Calls Tryz.prog 17 #[.string s, .int .i64 lo, .int .i64 hi] w fun e w' => e = .returned (.tuple #[.int .i64 0, .bool false]) ∧ w = w' := by
  have D := fun w => digits_at s n w hm hn
  have HD := Lib.hid D
  clear D hn
  rcases h with h | h | ⟨⟨h1, h9⟩, h⟩ | ⟨⟨h1, h9⟩, h, h0, h48⟩
  · as_aux_lemma =>
      go_enter Tryz.func17, Tryz.ntmps17
      go_wp2_with (go_at_call 24; (with_reducible refine (HD.out _).mono ?_); rintro e w' ⟨rfl, rfl⟩)
      go_ret2
      exact ⟨rfl, rfl⟩
  · have h' : ¬ n < 1 := by omega
    as_aux_lemma =>
      go_enter Tryz.func17, Tryz.ntmps17
      go_wp2_with (go_at_call 24; (with_reducible refine (HD.out _).mono ?_); rintro e w' ⟨rfl, rfl⟩)
      go_ret2
      exact ⟨rfl, rfl⟩
  · have hne : ((n : Int) != s.size) = true := bne_iff_ne.2 (by omega)
    have HH := Lib.hid h
    clear h
    as_aux_lemma =>
      go_enter Tryz.func17, Tryz.ntmps17
      go_wp2_with (go_at_call 24; (with_reducible refine (HD.out _).mono ?_); rintro e w' ⟨rfl, rfl⟩)
      go_ret2
      exact ⟨rfl, rfl⟩
  · have hne : ((n : Int) != s.size) = false := bne_eq_false_iff_eq.2 (by omega)
    have e0 : ((s[0].toNat : Int) == 48) = true := by simp [h48]
    have HH := Lib.hid h
    clear h
    as_aux_lemma =>
      go_enter Tryz.func17, Tryz.ntmps17
      go_wp2_with (go_at_call 24; (with_reducible refine (HD.out _).mono ?_); rintro e w' ⟨rfl, rfl⟩)
      go_ret2
      exact ⟨rfl, rfl⟩

/-- What either Whole answers. -/
structure WholeRet (s : ByteArray) (lo hi : Int) (n : Int) (b : Bool) : Prop where
  one : ∀ w, Calls Tryz.prog 17 #[.string s, .int .i64 lo, .int .i64 hi] w fun e w' => e = .returned (.tuple #[.int .i64 n, .bool b]) ∧ Below w.heap.size w w'
  two : ∀ w, Calls Tryz.prog 18 #[.string s, .int .i64 lo, .int .i64 hi] w fun e w' => e = .returned (.tuple #[.int .i64 n, .bool b]) ∧ w = w'

theorem still_below {f : Nat} {args : Array Value} {w : World} {v : Value} (h : Calls Tryz.prog f args w fun e w' => e = .returned v ∧ w = w') :
    Calls Tryz.prog f args w fun e w' => e = .returned v ∧ Below w.heap.size w w' :=
  h.mono fun _ _ ⟨a, b⟩ => ⟨a, b ▸ Below.refl _ _⟩

theorem wholeAt_of (s : ByteArray) (h1 : 1 ≤ s.size) (h9 : s.size ≤ 9) (hd : digs s.data.toList = s.size) (h0 : s.size = 1 ∨ ∃ h : 0 < s.size, ((s[0].toNat : Int) == 48) = false) :
    ∃ m : Nat, Lib.decFrom 0 s.data.toList = some m ∧ WholeAt s m := by
  obtain ⟨m, h2, h3⟩ := dec_take s.data.toList s.size (by omega)
  rw [List.take_of_length_le (by simp)] at h2
  have hp : 10 ^ s.size ≤ 10 ^ 9 := Nat.pow_le_pow_right (by omega) h9
  have p9 : (10 : Nat) ^ 9 = 1000000000 := by decide
  have hm9 : m ≤ 999999999 := by
    generalize 10 ^ s.size = t at h3 hp
    omega
  refine ⟨m, h2, ⟨h1, h9, hd, h0, ?_, by omega, by omega⟩⟩
  obtain ⟨c, l, e⟩ : ∃ c l, s.data.toList = c :: l := by
    cases e : s.data.toList with
    | nil => have : s.data.toList.length = 0 := by rw [e]; rfl
             have e2 : s.data.toList.length = s.size := by simp
             omega
    | cons c l => exact ⟨c, l, rfl⟩
  have hc : isDig c = true := by
    have := digs_lt s.data.toList 0 (by rw [e]; simp) (by omega)
    simpa [e] using this
  obtain ⟨c1, c2⟩ := dig_bounds c hc
  rw [e] at h2 ⊢
  unfold Lib.atoi
  have n1 : (c == 45) = false := by
    rw [beq_eq_false_iff_ne]; rintro rfl; revert c1; decide
  have n2 : (c == 43) = false := by
    rw [beq_eq_false_iff_ne]; rintro rfl; revert c1; decide
  simp only [n1, n2, Bool.false_eq_true, if_false]
  unfold Lib.decNat
  rw [if_neg (by simp), h2]
  rfl

theorem wholeRet (s : ByteArray) (lo hi : Int) (hm : s.size ≤ maxLen) : ∃ n b, WholeRet s lo hi n b := by
  have hle : digs s.data.toList ≤ s.size := by have := digs_le s.data.toList; simpa using this
  by_cases h0 : s.size = 0
  · exact ⟨0, false, fun w => still_below (whole_bad s lo hi w hm _ rfl (.inl (by omega))), fun w => refWhole_len s lo hi w (.inl h0)⟩
  · by_cases h9 : 9 < s.size
    · refine ⟨0, false, fun w => still_below (whole_bad s lo hi w hm _ rfl ?_), fun w => refWhole_len s lo hi w (.inr h9)⟩
      by_cases c1 : digs s.data.toList < 1
      · exact .inl c1
      · by_cases c2 : 9 < digs s.data.toList
        · exact .inr (.inl c2)
        · exact .inr (.inr (.inl ⟨⟨by omega, by omega⟩, by omega⟩))
    · by_cases hn : 1 < s.size ∧ (s[0]'(by omega)).toNat = 48
      · refine ⟨0, false, fun w => still_below (whole_bad s lo hi w hm _ rfl ?_), fun w => refWhole_nought s lo hi w hn.1 (by omega) hn.2⟩
        by_cases c1 : digs s.data.toList < 1
        · exact .inl c1
        · by_cases c2 : digs s.data.toList = s.size
          · exact .inr (.inr (.inr ⟨⟨by omega, by omega⟩, c2, by omega, hn.2⟩))
          · exact .inr (.inr (.inl ⟨⟨by omega, by omega⟩, c2⟩))
      · have hh : s.size = 1 ∨ ∃ h : 0 < s.size, ((s[0].toNat : Int) == 48) = false := by
          by_cases c : s.size = 1
          · exact .inl c
          · refine .inr ⟨by omega, beq_eq_false_iff_ne.2 fun e => hn ⟨by omega, by omega⟩⟩
        have R := fun w => refWhole_digits s lo hi w (by omega) (by omega) hh
        by_cases hd : digs s.data.toList = s.size
        · obtain ⟨m, h2, h3⟩ := wholeAt_of s (by omega) (by omega) hd hh
          have S := fun w => whole_some s m lo hi w h3
          rw [if_pos hd, h2, show (some m).get! = m from rfl] at R
          by_cases hb : (m : Int) < lo ∨ hi < (m : Int)
          · refine ⟨0, false, fun w => ?_, fun w => ?_⟩
            · have := S w
              unfold boundV at this
              rwa [if_pos hb] at this
            · have := R w
              unfold boundR at this
              rwa [if_pos hb] at this
          · refine ⟨m, true, fun w => ?_, fun w => ?_⟩
            · have := S w
              unfold boundV at this
              rwa [if_neg hb] at this
            · have := R w
              unfold boundR at this
              rwa [if_neg hb] at this
        · rw [if_neg hd] at R
          refine ⟨0, false, fun w => still_below (whole_bad s lo hi w hm _ rfl ?_), R⟩
          by_cases c1 : digs s.data.toList < 1
          · exact .inl c1
          · exact .inr (.inr (.inl ⟨⟨by omega, by omega⟩, hd⟩))

set_option maxRecDepth 100000 in
set_option maxHeartbeats 1500000 in
theorem wholes_any (s : ByteArray) (lo hi : Int) (hm : s.size ≤ maxLen) (w : World) (T : Tabs w) : Calls Tryz.prog 4 #[.string s, .int .i64 lo, .int .i64 hi] w fun e w' => e = .returned (.bool true) ∧ Below w.heap.size w w' := by
  have HT := Lib.hid T
  clear T
  obtain ⟨n, b, R⟩ := wholeRet s lo hi hm
  have HR := Lib.hid R
  clear R
  go_enter Tryz.func4, Tryz.ntmps4
  go_wp2_with fail
  refine (shown_any _ HT.out).mono ?_
  rintro e w1 ⟨rfl, B1⟩
  have HB := Lib.hid B1
  clear B1
  go_wp2_with fail
  refine (HR.out.one _).mono ?_
  rintro e w2 ⟨rfl, B2⟩
  have HB2 := Lib.hid (HB.out.trans (B2.mono HB.out.size))
  clear B2
  go_wp2_with fail
  refine (HR.out.two _).mono ?_
  rintro e w3 ⟨rfl, rfl⟩
  have e1 : (n == n) = true := beq_self_eq_true n
  have e2 : (b == b) = true := beq_self_eq_true b
  go_wp2
  go_ret
  exact ⟨rfl, HB2.out⟩
end Go.Proofs.YtdgmokfdkophpaaGreatDoor
