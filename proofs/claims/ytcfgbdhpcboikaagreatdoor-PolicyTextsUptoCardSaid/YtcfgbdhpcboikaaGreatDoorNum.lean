/-
  real.digits and real.numeral over lists of bytes: which texts are numerals.
-/
import Derived.Test.YtcfgbdhpcboikaaGreatDoorChecked
import Derived.WalkKit
import Derived.WalkLawsBesides
import Derived.WalkSpells
import Derived.LoopTactic
import Derived.Lib.Hide
import Derived.Outline
namespace Go.Proofs.YtcfgbdhpcboikaaGreatDoor
open Go.RowKit

def isDig (c : UInt8) : Bool := decide (48 ≤ c.toNat) && decide (c.toNat ≤ 57)
def digs (l : List UInt8) : Nat := (l.takeWhile isDig).length

theorem digs_le (l : List UInt8) : digs l ≤ l.length := by
  unfold digs
  induction l with
  | nil => simp
  | cons c l ih => rw [List.takeWhile_cons]; split <;> simp <;> omega
theorem digs_step : ∀ (l : List UInt8) (k : Nat) (h : k < l.length), k ≤ digs l → isDig l[k] = true → k + 1 ≤ digs l
  | [], k, h, _, _ => by simp at h
  | c :: l, 0, _, _, hd => by
    have : isDig c = true := hd
    simp [digs, this]
  | c :: l, k + 1, h, hk, hd => by
    unfold digs at hk ⊢
    rw [List.takeWhile_cons] at hk ⊢
    split at hk
    · rename_i hc
      rw [if_pos hc]
      have := digs_step l k (by simpa using h) (by simpa [digs] using hk) (by simpa using hd)
      simp only [List.length_cons]
      unfold digs at this
      omega
    · simp at hk
theorem digs_stop : ∀ (l : List UInt8) (k : Nat), k ≤ digs l → (∀ h : k < l.length, isDig l[k] = false) → digs l = k
  | [], k, hk, _ => by simp [digs] at hk ⊢; omega
  | c :: l, 0, _, hd => by
    have : isDig c = false := hd (by simp)
    simp [digs, this]
  | c :: l, k + 1, hk, hd => by
    unfold digs at hk ⊢
    rw [List.takeWhile_cons] at hk ⊢
    split at hk
    · rename_i hc
      rw [if_pos hc]
      have := digs_stop l k (by simpa [digs] using hk) (fun h => hd (by simpa using h))
      simp only [List.length_cons]
      unfold digs at this
      omega
    · simp at hk

theorem ret_nat {a b : Nat} (h : b = a) : Ending.returned (.int .i64 (a : Int)) = .returned (.int .i64 (b : Int)) := by rw [h]
theorem bytes_at (s : ByteArray) (k : Nat) (h : k < s.size) : s.data.toList[k]'(by simpa using h) = s[k] := rfl

set_option maxHeartbeats 400000 in
theorem digits_any (s : ByteArray) (w : World) (hs : s.size ≤ maxLen) :
    Calls Tryz.prog 112 #[.string s] w fun e w' => e = .returned (.int .i64 (digs s.data.toList : Nat)) ∧ w = w' := by
  unfold maxLen at hs
  go_enter Tryz.func112, Tryz.ntmps112
  go_wp2
  go_loop [3] (fun i => ∃ k : Nat, k ≤ s.size ∧ k ≤ digs s.data.toList ∧ i = .int .i64 k) (fun i => s.size - (intOf i).toNat)
  case atStart => exact ⟨0, Nat.zero_le _, Nat.zero_le _, rfl⟩
  case round =>
    obtain ⟨k, hk, hkd, rfl⟩ := hrel
    have HD := Lib.hid hkd
    clear hkd
    by_cases hlt : k < s.size
    · by_cases h1 : 48 ≤ s[k].toNat
      · by_cases h2 : s[k].toNat ≤ 57
        · go_wp2
          go_round
          case rel => exact ⟨k + 1, by omega, digs_step _ k (by simpa using hlt) HD.out (by rw [bytes_at s k hlt]; simp [isDig, h1, h2]), by go_num⟩
          case measure => simp [intOf]; omega
        · go_wp2
          go_ret
          exact ⟨ret_nat (digs_stop _ k HD.out (fun h => by rw [bytes_at s k hlt]; simp [isDig, h2])), rfl⟩
      · go_wp2
        go_ret
        exact ⟨ret_nat (digs_stop _ k HD.out (fun h => by rw [bytes_at s k hlt]; simp [isDig, h1])), rfl⟩
    · go_wp2
      go_ret
      exact ⟨ret_nat (digs_stop _ k HD.out (fun h => absurd h (by simpa using hlt))), rfl⟩
end Go.Proofs.YtcfgbdhpcboikaaGreatDoor
