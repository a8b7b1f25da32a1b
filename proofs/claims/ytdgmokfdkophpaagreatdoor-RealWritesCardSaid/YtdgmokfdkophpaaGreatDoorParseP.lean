/-
  Parse of a whole number's digits is its float.
-/
import Derived.Test.YtdgmokfdkophpaaGreatDoorReadC
import Derived.Test.YtdgmokfdkophpaaGreatDoorParseK
import Derived.Test.YtdgmokfdkophpaaGreatDoorParseN
import Derived.Test.YtdgmokfdkophpaaGreatDoorPrintP
namespace Go.Proofs.YtdgmokfdkophpaaGreatDoor
open Go.RowKit

theorem numB_digits (l : List UInt8) (h1 : 1 ≤ l.length) (h40 : l.length ≤ 40) (hd : digs l = l.length) : numB l = true := by
  obtain ⟨c, r, e⟩ : ∃ c r, l = c :: r := by
    cases l with
    | nil => simp at h1
    | cons c r => exact ⟨c, r, rfl⟩
  have hc : isDig c = true := by
    have := digs_lt l 0 (by omega) (by omega)
    simpa [e] using this
  have hh : ¬ l.head? = some 45 := by
    rw [e]
    intro h
    have : c = 45 := by simpa using h
    rw [this] at hc
    revert hc; decide
  unfold numB
  rw [if_neg (by omega), if_neg hh]
  unfold num1
  have hdr : l.drop (digs l) = [] := by rw [hd]; simp
  rw [hdr, if_neg (by simp)]
  unfold num2
  rw [if_neg (by omega), if_pos rfl]

theorem read_int (s : ByteArray) (m : Nat) (h1 : 1 ≤ s.size) (h9 : s.size ≤ 9) (hd : digs s.data.toList = s.size) (h0 : ∃ h : 0 < s.size, s[0] ≠ 48) (hm : Lib.decFrom 0 s.data.toList = some m) (w : World) :
    Calls Tryz.prog 106 #[.string s] w fun e w' => e = .returned (.tuple #[.int .u64 m, .int .i64 0, .bool false, .bool false, .bool false, .int .i64 s.size, .bool true]) ∧ w = w' := by
  obtain ⟨h00, h01⟩ := h0
  have hdig : ∀ j (h : j < s.size), isDig s[j] = true := fun j h => digs_lt s.data.toList j (by simpa using h) (by omega)
  have b0 := dig_bounds _ (hdig 0 h00)
  obtain ⟨m', e1, _, e3⟩ := rfold_digits s h9 hd ⟨h00, h01⟩ s.size h1 (Nat.le_refl _)
  rw [List.take_of_length_le (by simp), hm] at e1
  cases e1
  have N : NumText s 0 s.size := by
    refine ⟨h1, Nat.le_refl _, ?_, ?_, by rw [e3], fun h => absurd h (Nat.lt_irrefl _)⟩
    · intro j h _ _
      unfold numCh
      rw [hdig j h]
      rfl
    · intro j h _ _ e
      have := (dig_bounds _ (hdig j h)).1
      rw [e] at this
      exact absurd this (by decide)
  have S : SignAt s false 0 := ⟨h00, .inl ⟨rfl, rfl, by rw [beq_eq_false_iff_ne]; omega, by rw [beq_eq_false_iff_ne]; omega⟩⟩
  have := read_any s false 0 s.size w (by omega) S N 0 (.inl ⟨rfl, rfl⟩)
  rw [e3] at this
  have ex : (⟨m, s.size, s.size, 0, false, true, false⟩ : RS).expo 0 = 0 := by
    unfold RS.expo RS.place
    split
    · rfl
    · simp
  rw [ex] at this
  exact this

theorem signed_plain (m : Nat) : signedF false m = floatOfInt .f64 m := by
  unfold signedF
  rw [if_neg (by decide)]

/-- Parse of a whole number above 0. -/
theorem parse_int (s : ByteArray) (m : Nat) (h1 : 1 ≤ s.size) (h9 : s.size ≤ 9) (hd : digs s.data.toList = s.size) (h0 : ∃ h : 0 < s.size, s[0] ≠ 48) (hm : Lib.decFrom 0 s.data.toList = some m) (hm1 : 1 ≤ m) (hm9 : m < 1000000000)
    (hinf : infF (floatOfInt .f64 m) = false) (w : World) (T : Tabs w) :
    Calls Tryz.prog 21 #[.string s] w fun e w' => e = .returned (.tuple #[.float .f64 (floatOfInt .f64 m), .bool true]) ∧ w = w' := by
  have R := read_int s m h1 h9 hd h0 hm
  obtain ⟨h00, h01⟩ := h0
  have b0 := dig_bounds _ (show isDig s[0] = true from digs_lt s.data.toList 0 (by simpa using h00) (by omega))
  refine parse_ok s (floatOfInt .f64 m) w (by unfold maxLen; omega) (numB_digits _ (by simpa using h1) (by simpa using (by omega : s.size ≤ 40)) (by simpa using hd)) hinf ?_
  intro w' hw
  subst hw
  refine atof_exact s m 0 false (floatOfInt .f64 m) w T (by omega) (by omega) (by omega) (by omega) (fun w => special_plain s w h00 (by omega) b0.2 (by rw [beq_eq_false_iff_ne]; omega) (by rw [beq_eq_false_iff_ne]; omega)) R ?_
  intro w' T'
  have := exact_int m false w' T' (by omega)
  rw [signed_plain] at this
  exact this
end Go.Proofs.YtdgmokfdkophpaaGreatDoor
