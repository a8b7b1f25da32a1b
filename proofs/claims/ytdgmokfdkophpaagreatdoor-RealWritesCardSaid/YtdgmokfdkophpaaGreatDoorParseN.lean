/-
  What readFloat makes of a text of digits. No program in sight.
-/
import Derived.Test.YtdgmokfdkophpaaGreatDoorWholesA
import Derived.Test.YtdgmokfdkophpaaGreatDoorReadB
namespace Go.Proofs.YtdgmokfdkophpaaGreatDoor

theorem part_take (s : ByteArray) (j : Nat) : part s 0 j = s.data.toList.take j := by simp [part]
/-- Digits without a nought in front. -/
theorem rfold_digits (s : ByteArray) (h9 : s.size ≤ 9) (hd : digs s.data.toList = s.size) (h0 : ∃ h : 0 < s.size, s[0] ≠ 48) :
    ∀ j, 1 ≤ j → j ≤ s.size → ∃ m, Lib.decFrom 0 (s.data.toList.take j) = some m ∧ 1 ≤ m ∧ rfold (part s 0 j) = ⟨m, j, j, 0, false, true, false⟩
  | 0, h, _ => by omega
  | j + 1, _, hj => by
    obtain ⟨h00, h01⟩ := h0
    have hjs : j < s.size := by omega
    have hdig := digs_lt s.data.toList j (by simpa using hjs) (by omega)
    have hdig' : isDig s[j] = true := hdig
    obtain ⟨d1, d2⟩ := dig_bounds _ hdig'
    rw [part_succ s 0 j (Nat.zero_le _) hjs, rfold_snoc]
    have n46 : s[j] ≠ 46 := by
      intro e; rw [e] at d1; revert d1; decide
    by_cases hz : j = 0
    · subst hz
      have hstep := dec_step s 0 0 hjs (by omega) (by simp [Lib.decFrom])
      have h48 : 49 ≤ s[0].toNat := by
        have : s[0].toNat ≠ 48 := fun e => h01 (UInt8.toNat_inj.1 (by rw [e]; rfl))
        omega
      refine ⟨_, hstep, by omega, ?_⟩
      rw [part_self]
      unfold rstep rfold rs0
      simp [n46, h01]
    · obtain ⟨m, e1, e2, e3⟩ := rfold_digits s h9 hd ⟨h00, h01⟩ j (by omega) (by omega)
      have hstep := dec_step s j m hjs (by omega) e1
      refine ⟨_, hstep, by omega, ?_⟩
      rw [e3]
      unfold rstep
      rw [if_neg n46, if_neg (by simp; omega), if_pos (by show j < 19; omega)]
      simp [Nat.mul_comm]
end Go.Proofs.YtdgmokfdkophpaaGreatDoor
