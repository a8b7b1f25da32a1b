/-
  real.numeral: which texts are numerals, over lists of bytes.
-/
import Derived.Test.YtcfgbdhpcboikaaGreatDoorStrs
namespace Go.Proofs.YtcfgbdhpcboikaaGreatDoor
open Go.RowKit

/-- What stands behind the e: perhaps a sign, then digits. -/
def num3 (l : List UInt8) : Bool :=
  let l5 := if l.head? = some 43 ∨ l.head? = some 45 then l.drop 1 else l
  !l5.isEmpty && digs l5 == l5.length
def num2 (n : Nat) (l : List UInt8) : Bool :=
  if n = 0 then false else if l = [] then true else if l.head? = some 101 ∨ l.head? = some 69 then num3 (l.drop 1) else false
def num1 (l : List UInt8) : Bool :=
  if (l.drop (digs l)).head? = some 46 then
    (if digs ((l.drop (digs l)).drop 1) = 0 then false else num2 (digs l + digs ((l.drop (digs l)).drop 1)) ((l.drop (digs l)).drop (1 + digs ((l.drop (digs l)).drop 1))))
  else num2 (digs l) (l.drop (digs l))
/-- Is a text a numeral? -/
def numB (l : List UInt8) : Bool := if 40 < l.length then false else num1 (if l.head? = some 45 then l.drop 1 else l)

theorem digits_at (s : ByteArray) (n : Nat) (w : World) (hs : s.size ≤ maxLen) (hn : digs s.data.toList = n) :
    Calls Tryz.prog 112 #[.string s] w fun e w' => e = .returned (.int .i64 n) ∧ w = w' := by
  subst hn
  exact digits_any s w hs
theorem trim_at (s s1 : ByteArray) (w : World) (h : s1.data.toList = if s.data.toList.head? = some 45 then s.data.toList.drop 1 else s.data.toList) :
    Calls Tryz.prog 117 #[.string s, .string { data := #[45] }] w fun e w' => e = .returned (.string s1) ∧ w = w' := by
  refine (Tryz.strings_TrimPrefix _ _ _).mono ?_
  rintro e w' ⟨rfl, rfl⟩
  refine ⟨?_, rfl⟩
  have : Lib.trimPrefix s.data.toList [45] = s1.data.toList := by rw [trim_minus, h]
  simp only [this]
theorem dot_at (s : ByteArray) (b : Bool) (w : World) (h : decide (s.data.toList.head? = some 46) = b) :
    Calls Tryz.prog 118 #[.string s, .string { data := #[46] }] w fun e w' => e = .returned (.bool b) ∧ w = w' := by
  refine (Tryz.strings_HasPrefix _ _ _).mono ?_
  rintro e w' ⟨rfl, rfl⟩
  have : Lib.hasPrefix s.data.toList [46] = b := by rw [has_dot, h]
  exact ⟨by simp only [this], rfl⟩
theorem head_byte (s : ByteArray) (h : 0 < s.size) : s.data.toList.head? = some s[0] := by
  rw [List.head?_eq_getElem?, List.getElem?_eq_getElem (by simpa using h)]
  rfl
theorem empty_toList (s : ByteArray) (h : s.size = 0) : s.toList.isEmpty = true := by rw [Lib.toList_data, empty_list s h]; rfl
theorem full_toList (s : ByteArray) (h : 0 < s.size) : s.toList.isEmpty = false := by
  rw [Lib.toList_data, List.isEmpty_eq_false_iff]
  intro e
  rw [size_list, e] at h
  exact absurd h (by simp)

theorem numeral_long (s : ByteArray) (w : World) (hs : s.size ≤ maxLen) (h : 40 < s.size) :
    Calls Tryz.prog 65 #[.string s] w fun e w' => e = .returned (.bool (numB s.data.toList)) ∧ w = w' := by
  have hv : numB s.data.toList = false := by unfold numB; rw [if_pos (by rw [← size_list]; exact h)]
  rw [hv]
  clear hv
  unfold maxLen at hs
  go_enter Tryz.func65, Tryz.ntmps65
  go_wp2
  go_ret
  exact ⟨rfl, rfl⟩

/-- The walk behind the digits: s3 is what is left, m how many digits there were. -/
theorem num_tail (s3 : ByteArray) (m : Nat) (hs3 : s3.size ≤ 40) (hm : m ≤ 40) :
    (m = 0 ∧ num2 m s3.data.toList = false) ∨ (0 < m ∧ s3.size = 0 ∧ num2 m s3.data.toList = true) ∨
    (0 < m ∧ 0 < s3.size ∧ ∃ c : UInt8, s3.data.toList.head? = some c ∧ c ≠ 101 ∧ c ≠ 69 ∧ num2 m s3.data.toList = false) ∨
    (0 < m ∧ 0 < s3.size ∧ ∃ c : UInt8, s3.data.toList.head? = some c ∧ (c = 101 ∨ c = 69) ∧ num2 m s3.data.toList = num3 (s3.data.toList.drop 1)) := by
  by_cases h0 : m = 0
  · exact .inl ⟨h0, by simp [num2, h0]⟩
  · by_cases h1 : s3.size = 0
    · exact .inr (.inl ⟨by omega, h1, by simp [num2, h0, empty_list s3 h1]⟩)
    · have hh := head_byte s3 (by omega)
      have hne : s3.data.toList ≠ [] := by intro e; rw [e] at hh; simp at hh
      by_cases hc : s3[0]'(by omega) = 101 ∨ s3[0]'(by omega) = 69
      · exact .inr (.inr (.inr ⟨by omega, by omega, _, hh, hc, by simp [num2, h0, hne, hh, hc]⟩))
      · have hc' := not_or.1 hc
        exact .inr (.inr (.inl ⟨by omega, by omega, _, hh, hc'.1, hc'.2, by simp [num2, h0, hne, hh, hc'.1, hc'.2]⟩))
end Go.Proofs.YtcfgbdhpcboikaaGreatDoor
