/-
  The digits of a whole number, its closing noughts put aside and put back. No program in sight.
-/
import Derived.Test.YtdgmokfdkophpaaGreatDoorPartsN
import Derived.Test.YtdgmokfdkophpaaGreatDoorShortN
import Derived.Test.YtdgmokfdkophpaaGreatDoorKnown
namespace Go.Proofs.YtdgmokfdkophpaaGreatDoor

theorem dec_mul10 (n : Nat) (h : 1 ≤ n) : ∀ j, Lib.decDigits (n * 10 ^ j) = Lib.decDigits n ++ List.replicate j 48
  | 0 => by simp
  | j + 1 => by
    have hp : 1 ≤ 10 ^ j := Nat.pow_pos (by decide)
    have e : n * 10 ^ (j + 1) = n * 10 ^ j * 10 := by rw [Nat.pow_succ, Nat.mul_assoc]
    have hge : 1 ≤ n * 10 ^ j := Nat.mul_pos h hp
    rw [e, Lib.decDigits, dif_neg (by omega), Nat.mul_div_cancel _ (by decide), Nat.mul_mod_left, dec_mul10 n h j, List.replicate_succ', List.append_assoc]
    rfl
theorem nDigits_mul10 (n : Nat) (h : 1 ≤ n) (j : Nat) : Lib.nDigits (n * 10 ^ j) = Lib.nDigits n + j := by
  rw [← Lib.decDigits_length, dec_mul10 n h j, List.length_append, List.length_replicate, Lib.decDigits_length]
theorem dig_ofNat (r : Nat) (h : r < 10) : isDig (UInt8.ofNat (48 + r)) = true := by
  have : ((List.range 10).all fun r => isDig (UInt8.ofNat (48 + r))) = true := by decide
  exact List.all_eq_true.1 this r (List.mem_range.2 h)
theorem dec_dig (n : Nat) : ∀ c ∈ Lib.decDigits n, isDig c = true := by
  induction n using Nat.strongRecOn with
  | ind n ih =>
    rw [Lib.decDigits]
    split
    · intro c hc
      rw [List.mem_singleton.1 hc]
      exact dig_ofNat _ ‹_›
    · intro c hc
      rcases List.mem_append.1 hc with hc | hc
      · exact ih _ (by omega) c hc
      · rw [List.mem_singleton.1 hc]
        exact dig_ofNat _ (by omega)
theorem trim_rep (l : List UInt8) : ∀ j, trimN (l ++ List.replicate j 48) = trimN l
  | 0 => by simp
  | j + 1 => by
    rw [List.replicate_succ', ← List.append_assoc, trimN_snoc, if_pos rfl, trim_rep l j]
theorem trim_split (l : List UInt8) : l.take (trimN l) ++ List.replicate (l.length - trimN l) 48 = l := by
  induction l using snoc_ind with
  | h0 => rfl
  | h1 l a ih =>
    rw [trimN_snoc]
    by_cases h : a = 48
    · rw [if_pos h]
      have hle := trimN_le l
      rw [List.take_append_of_le_length hle, List.length_append, List.length_singleton, show l.length + 1 - trimN l = l.length - trimN l + 1 by omega, List.replicate_succ', ← List.append_assoc, ih, h]
    · rw [if_neg h, List.take_of_length_le (by simp)]
      simp
/-- The digits of a number without its closing noughts. -/
def coreD (n : Nat) : List UInt8 := (Lib.decDigits n).take (trimN (Lib.decDigits n))
theorem core_mul10 (n j : Nat) (h : 1 ≤ n) : (Lib.decDigits (n * 10 ^ j)).take (trimN (Lib.decDigits (n * 10 ^ j))) = coreD n := by
  rw [dec_mul10 n h j, trim_rep]
  exact List.take_append_of_le_length (trimN_le _)
theorem core_back (n : Nat) : coreD n ++ List.replicate (Lib.nDigits n - (coreD n).length) 48 = Lib.decDigits n := by
  have e : (coreD n).length = trimN (Lib.decDigits n) := by
    unfold coreD
    rw [List.length_take]
    have := trimN_le (Lib.decDigits n)
    omega
  rw [e, ← Lib.decDigits_length]
  exact trim_split _
theorem core_len (n : Nat) (h : 1 ≤ n) : 1 ≤ (coreD n).length ∧ (coreD n).length ≤ Lib.nDigits n := by
  have e : (coreD n).length = trimN (Lib.decDigits n) := by
    unfold coreD
    rw [List.length_take]
    have := trimN_le (Lib.decDigits n)
    omega
  rw [e]
  refine ⟨trim_pos n h, ?_⟩
  have := trimN_le (Lib.decDigits n)
  rwa [Lib.decDigits_length] at this
theorem core_dig (n : Nat) : ∀ c ∈ coreD n, isDig c = true := fun c hc => dec_dig n c (List.mem_of_mem_take hc)
end Go.Proofs.YtdgmokfdkophpaaGreatDoor
