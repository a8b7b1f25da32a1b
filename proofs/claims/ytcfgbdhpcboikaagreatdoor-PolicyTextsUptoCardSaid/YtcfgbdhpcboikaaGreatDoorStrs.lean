/-
  Cuts and bytes of strings, as equations that a walk may use.
-/
import Derived.Test.YtcfgbdhpcboikaaGreatDoorNum
import Derived.Test.YtcfgbdhpcboikaaGreatDoorShelf
namespace Go.Proofs.YtcfgbdhpcboikaaGreatDoor
open Go.RowKit

/-- 's[n:]'. -/
theorem cut_from (s : ByteArray) (n : Nat) (h : n ≤ s.size) :
    ∃ s2 : ByteArray, s2.data.toList = s.data.toList.drop n ∧ s2.size = s.size - n ∧ ∀ w, (Instr.slice 9 (.string s) (some (.int .i64 n)) none none).run Tryz.prog w = .ok (.string s2) w := by
  refine ⟨s.extract n s.size, ?_, ?_, fun w => ?_⟩
  · rw [Lib.extract_data]
    exact List.take_of_length_le (by rw [List.length_drop]; exact Nat.le_refl _)
  · simp
  · rw [run_slice_string_from_if (P := Tryz.prog) w 9 s .i64 n Tryz.underlying9, if_pos (by omega)]
    simp
/-- 's[:n]'. -/
theorem cut_to (s : ByteArray) (n : Nat) (h : n ≤ s.size) :
    ∃ s2 : ByteArray, s2.data.toList = s.data.toList.take n ∧ s2.size = n ∧ ∀ w, (Instr.slice 9 (.string s) none (some (.int .i64 n)) none).run Tryz.prog w = .ok (.string s2) w := by
  refine ⟨s.extract 0 n, ?_, ?_, fun w => ?_⟩
  · rw [Lib.extract_data]
    simp
  · simp; omega
  · rw [run_slice_string_to_if (P := Tryz.prog) w 9 s .i64 n Tryz.underlying9, if_pos (by omega)]
    simp

theorem size_list (s : ByteArray) : s.size = s.data.toList.length := rfl
theorem empty_list (s : ByteArray) (h : s.size = 0) : s.data.toList = [] := List.eq_nil_of_length_eq_zero h
theorem trim_minus (l : List UInt8) : Lib.trimPrefix l [45] = if l.head? = some 45 then l.drop 1 else l := by
  unfold Lib.trimPrefix Lib.hasPrefix
  cases l with
  | nil => rfl
  | cons c l =>
    by_cases h : c = 45
    · subst h; simp
    · simp [h]; intro hh; exact absurd hh.symm h
theorem has_dot (l : List UInt8) : Lib.hasPrefix l [46] = decide (l.head? = some 46) := by
  unfold Lib.hasPrefix
  cases l with
  | nil => rfl
  | cons c l =>
    by_cases h : c = 46
    · subst h; simp
    · have h' : ¬ (46 : UInt8) = c := fun e => h e.symm
      simp [h, List.isPrefixOf, h']
end Go.Proofs.YtcfgbdhpcboikaaGreatDoor
