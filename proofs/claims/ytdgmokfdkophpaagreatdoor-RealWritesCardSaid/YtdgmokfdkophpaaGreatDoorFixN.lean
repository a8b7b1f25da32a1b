/-
  Fix of a whole number's digits is that text.
-/
import Derived.Test.YtdgmokfdkophpaaGreatDoorParseP
namespace Go.Proofs.YtdgmokfdkophpaaGreatDoor
open Go.RowKit

theorem dec_text (s : ByteArray) (h9 : s.size ≤ 9) (hd : digs s.data.toList = s.size) (h0 : ∃ h : 0 < s.size, s[0] ≠ 48) :
    ∀ j, 1 ≤ j → j ≤ s.size → ∀ m, Lib.decFrom 0 (s.data.toList.take j) = some m → 1 ≤ m ∧ Lib.decDigits m = s.data.toList.take j
  | 0, h, _ => by omega
  | j + 1, _, hj => by
    intro m' hm'
    obtain ⟨h00, h01⟩ := h0
    have hjs : j < s.size := by omega
    have hjl : j < s.data.toList.length := by simpa using hjs
    have hdig : isDig s[j] = true := digs_lt s.data.toList j hjl (by omega)
    obtain ⟨d1, d2⟩ := dig_bounds _ hdig
    have et : s.data.toList.take (j + 1) = s.data.toList.take j ++ [s[j]] := List.take_succ_eq_append_getElem hjl
    by_cases hz : j = 0
    · subst hz
      have hstep := dec_step s 0 0 hjs (by omega) (by simp [Lib.decFrom])
      rw [hstep] at hm'
      cases hm'
      have h48 : 49 ≤ s[0].toNat := by
        have : s[0].toNat ≠ 48 := fun e => h01 (UInt8.toNat_inj.1 (by rw [e]; rfl))
        omega
      refine ⟨by omega, ?_⟩
      rw [et, Lib.decDigits, dif_pos (by omega)]
      simp only [List.take_zero, List.nil_append, List.cons.injEq, and_true]
      rw [show 48 + (10 * 0 + (s[0].toNat - 48)) = s[0].toNat by omega, UInt8.ofNat_toNat]
    · obtain ⟨m, e1, e2, _⟩ := rfold_digits s h9 hd ⟨h00, h01⟩ j (by omega) (by omega)
      obtain ⟨_, e3⟩ := dec_text s h9 hd ⟨h00, h01⟩ j (by omega) (by omega) m e1
      have hstep := dec_step s j m hjs (by omega) e1
      rw [hstep] at hm'
      cases hm'
      refine ⟨by omega, ?_⟩
      rw [et, Lib.decDigits, dif_neg (by omega), show (10 * m + (s[j].toNat - 48)) / 10 = m by omega, e3, show 48 + (10 * m + (s[j].toNat - 48)) % 10 = s[j].toNat by omega, UInt8.ofNat_toNat]

set_option maxRecDepth 100000 in
set_option maxHeartbeats 600000 in
/-- Fix of a whole number above 0. -/
theorem fix_int (s : ByteArray) (m : Nat) (h1 : 1 ≤ s.size) (h9 : s.size ≤ 9) (hd : digs s.data.toList = s.size) (h0 : ∃ h : 0 < s.size, s[0] ≠ 48) (hm : Lib.decFrom 0 s.data.toList = some m) (hm9 : m < 1000000000)
    (hinf : infF (floatOfInt .f64 m) = false) (w : World) (T : Tabs w) :
    Calls Tryz.prog 22 #[.string s] w fun e w' => e = .returned (.tuple #[.string s, .bool true]) ∧ Below w.heap.size w w' := by
  obtain ⟨m1, ht⟩ := dec_text s h9 hd h0 s.size h1 (Nat.le_refl _) m (by rw [List.take_of_length_le (by simp)]; exact hm)
  rw [List.take_of_length_le (by simp)] at ht
  have P := parse_int s m h1 h9 hd h0 hm m1 hm9 hinf
  have Q := fun w T => print_int m w T m1 hm9
  have es : (⟨(Lib.decDigits m).toArray⟩ : ByteArray) = s := by rw [ht]
  rw [es] at Q
  obtain ⟨b, hb⟩ : ∃ b, b = floatOfInt .f64 (m : Nat) := ⟨_, rfl⟩
  rw [← hb] at P Q
  have HP := Lib.hid P
  have HQ := Lib.hid Q
  have HT := Lib.hid T
  clear P Q T hb hinf hm h0 hd ht es
  go_enter Tryz.func22, Tryz.ntmps22
  go_wp2_with fail
  refine (HP.out _ HT.out).mono ?_
  rintro e w1 ⟨rfl, rfl⟩
  go_wp2_with fail
  refine (HQ.out _ HT.out).mono ?_
  rintro e w2 ⟨rfl, B⟩
  have HB := Lib.hid B
  clear B
  go_wp2
  go_ret2
  exact ⟨rfl, HB.out⟩
end Go.Proofs.YtdgmokfdkophpaaGreatDoor
