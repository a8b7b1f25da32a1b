/-
  A float's text in the form 'e' falls into its digits and its exponent. No program in sight.
  The digits of a whole number, its closing noughts put aside and put back. No program in sight.
-/
import Derived.Test.YtcfgbdhpcboikaaGreatDoorParts
import Derived.Test.YtcfgbdhpcboikaaGreatDoorReadA
import Derived.Test.YtcfgbdhpcboikaaGreatDoorShortN
import Derived.Test.YtcfgbdhpcboikaaGreatDoorKnown
namespace Go.Proofs.YtcfgbdhpcboikaaGreatDoor
theorem index_split (c : UInt8) (b : List UInt8) : ∀ a : List UInt8, (∀ x ∈ a, x ≠ c) → Lib.index (a ++ c :: b) [c] = a.length
  | [], _ => by simp [Lib.index, List.isPrefixOf]
  | x :: a, h => by
    have hx : (c == x) = false := by rw [beq_eq_false_iff_ne]; exact fun e => h x (by simp) e.symm
    have ih := index_split c b a (fun y hy => h y (by simp [hy]))
    rw [List.cons_append, Lib.index]
    simp only [List.isPrefixOf, hx, Bool.false_and, Bool.false_eq_true, if_false, ih]
    rw [if_neg (by simp)]
    simp
theorem index_miss (c : UInt8) : ∀ a : List UInt8, (∀ x ∈ a, x ≠ c) → Lib.index a [c] = -1
  | [], _ => by simp [Lib.index]
  | x :: a, h => by
    have hx : (c == x) = false := by rw [beq_eq_false_iff_ne]; exact fun e => h x (by simp) e.symm
    have ih := index_miss c a (fun y hy => h y (by simp [hy]))
    rw [Lib.index]
    simp [List.isPrefixOf, hx, ih]
theorem cut_split (c : UInt8) (a b : List UInt8) (h : ∀ x ∈ a, x ≠ c) : Lib.cut (a ++ c :: b) [c] = (a, b, true) := by
  unfold Lib.cut
  rw [index_split c b a h, if_pos (by omega)]
  simp
/-- The digits with a point behind the first. -/
def pointed (D : List UInt8) : List UInt8 := D.take 1 ++ (if 1 < D.length then 46 :: D.drop 1 else [])
theorem replace_point (D : List UInt8) (h1 : 1 ≤ D.length) (hd : ∀ x ∈ D, isDig x = true) : Lib.replace (pointed D) [46] [] 1 = D := by
  have nd : ∀ x ∈ D, x ≠ 46 := by
    rintro x hx rfl
    exact absurd (hd 46 hx) (by decide)
  unfold Lib.replace
  rw [if_neg (by decide)]
  cases D with
  | nil => simp at h1
  | cons d D =>
    cases D with
    | nil =>
      have e : pointed [d] = [d] := rfl
      rw [e]
      unfold Lib.replaceNum
      rw [Lib.count_miss (index_miss 46 [d] (fun x hx => nd x hx)), if_pos (.inr (by decide))]
      rfl
    | cons f D =>
      have e : pointed (d :: f :: D) = [d] ++ 46 :: f :: D := by unfold pointed; simp
      have hi : Lib.index ([d] ++ 46 :: f :: D) [46] = (1 : Nat) := index_split 46 (f :: D) [d] (fun x hx => nd x (by simp at hx; simp [hx]))
      rw [e]
      unfold Lib.replaceNum
      rw [if_neg (by rw [Lib.count_hit (by decide) hi]; omega)]
      show Lib.replaceK [46] [] (0 + 1) _ = _
      rw [Lib.replaceK_hit _ _ _ _ 1 hi]
      rfl

theorem exp_num_all : ((List.range 1000).all fun n => Lib.decNat (expText n) == some n) = true := by kernel_rfl
theorem exp_num (n : Nat) (h : n < 1000) : Lib.decNat (expText n) = some n := by
  have := List.all_eq_true.1 exp_num_all n (List.mem_range.2 h)
  simpa using this
theorem exp_len (n : Nat) : (expText n).length ≤ 3 := by
  unfold expText
  split
  · simp
  · split <;> simp
theorem exp_atoi (x : Int) (h0 : -1000 < x) (h1 : x < 1000) : Lib.atoi ((if x < 0 then 45 else 43) :: expText x.natAbs) = some x := by
  have e := exp_num x.natAbs (by omega)
  by_cases h : x < 0
  · rw [if_pos h]
    show (Lib.decNat (expText x.natAbs)).map (fun m : Nat => -(m : Int)) = some x
    rw [e]
    show some (-(x.natAbs : Int)) = some x
    congr 1
    omega
  · rw [if_neg h]
    show (Lib.decNat (expText x.natAbs)).map (fun m : Nat => (m : Int)) = some x
    rw [e]
    show some (x.natAbs : Int) = some x
    congr 1
    omega

/-- The form 'e' falls into its digits and its exponent. -/
theorem partsAt_text (D : List UInt8) (x : Int) (h1 : 1 ≤ D.length) (h2 : D.length ≤ 100) (hd : ∀ c ∈ D, isDig c = true) (x0 : -1000 < x) (x1 : x < 1000) :
    PartsAt (eText D x) D x (pointed D) ((if x < 0 then 45 else 43) :: expText x.natAbs) := by
  have pl : (pointed D).length ≤ 102 := by
    unfold pointed
    split
    · simp; omega
    · simp; omega
  have el := exp_len x.natAbs
  have e : eText D x = pointed D ++ 101 :: ((if x < 0 then 45 else 43) :: expText x.natAbs) := by
    unfold eText pointed
    simp
  refine ⟨?_, exp_atoi x x0 x1, replace_point D h1 hd, ?_, ?_, by omega, ?_, by omega, by omega⟩
  · rw [e]
    refine cut_split 101 _ _ ?_
    rintro y hy rfl
    unfold pointed at hy
    rcases List.mem_append.1 hy with hy | hy
    · exact absurd (hd _ (List.mem_of_mem_take hy)) (by decide)
    · split at hy
      · rcases List.mem_cons.1 hy with hy | hy
        · exact absurd hy (by decide)
        · exact absurd (hd _ (List.mem_of_mem_drop hy)) (by decide)
      · cases hy
  · rw [e, List.length_append, List.length_cons, List.length_cons]; omega
  · rw [List.length_cons]; omega
  · show Lib.count (pointed D) [46] ≤ 1000
    have := Lib.count_le (pointed D) [46]
    omega
end Go.Proofs.YtcfgbdhpcboikaaGreatDoor

namespace Go.Proofs.YtcfgbdhpcboikaaGreatDoor
theorem dec_mul10 (n : Nat) (h : 1 ≤ n) : ∀ j, Lib.decDigits (n * 10 ^ j) = Lib.decDigits n ++ List.replicate j 48
  | 0 => by simp
  | j + 1 => by
    have hp : 1 ≤ 10 ^ j := Nat.pow_pos (by decide)
    have e : n * 10 ^ (j + 1) = n * 10 ^ j * 10 := by rw [Nat.pow_succ, Nat.mul_assoc]
    have hge : 1 ≤ n * 10 ^ j := Nat.mul_pos h hp
    rw [e, Lib.decDigits, dif_neg (by omega), Nat.mul_div_cancel _ (by decide), Nat.mul_mod_left, dec_mul10 n h j, List.replicate_succ', List.append_assoc]
    rfl
theorem nDigits_mul10 (n : Nat) (h : 1 ≤ n) (j : Nat) : Lib.nDigits (n * 10 ^ j) = Lib.nDigits n + j := by
  rw [← Lib.decDigits_length, dec_mul10 n h j, List.length_append, List.length_replicate, Lib.decDigits_length]
theorem dig_ofNat (r : Nat) (h : r < 10) : isDig (UInt8.ofNat (48 + r)) = true := by
  have : ((List.range 10).all fun r => isDig (UInt8.ofNat (48 + r))) = true := by decide
  exact List.all_eq_true.1 this r (List.mem_range.2 h)
theorem dec_dig (n : Nat) : ∀ c ∈ Lib.decDigits n, isDig c = true := by
  induction n using Nat.strongRecOn with
  | ind n ih =>
    rw [Lib.decDigits]
    split
    · intro c hc
      rw [List.mem_singleton.1 hc]
      exact dig_ofNat _ ‹_›
    · intro c hc
      rcases List.mem_append.1 hc with hc | hc
      · exact ih _ (by omega) c hc
      · rw [List.mem_singleton.1 hc]
        exact dig_ofNat _ (by omega)
theorem trim_rep (l : List UInt8) : ∀ j, trimN (l ++ List.replicate j 48) = trimN l
  | 0 => by simp
  | j + 1 => by
    rw [List.replicate_succ', ← List.append_assoc, trimN_snoc, if_pos rfl, trim_rep l j]
theorem trim_split (l : List UInt8) : l.take (trimN l) ++ List.replicate (l.length - trimN l) 48 = l := by
  induction l using snoc_ind with
  | h0 => rfl
  | h1 l a ih =>
    rw [trimN_snoc]
    by_cases h : a = 48
    · rw [if_pos h]
      have hle := trimN_le l
      rw [List.take_append_of_le_length hle, List.length_append, List.length_singleton, show l.length + 1 - trimN l = l.length - trimN l + 1 by omega, List.replicate_succ', ← List.append_assoc, ih, h]
    · rw [if_neg h, List.take_of_length_le (by simp)]
      simp
/-- The digits of a number without its closing noughts. -/
def coreD (n : Nat) : List UInt8 := (Lib.decDigits n).take (trimN (Lib.decDigits n))
theorem core_mul10 (n j : Nat) (h : 1 ≤ n) : (Lib.decDigits (n * 10 ^ j)).take (trimN (Lib.decDigits (n * 10 ^ j))) = coreD n := by
  rw [dec_mul10 n h j, trim_rep]
  exact List.take_append_of_le_length (trimN_le _)
theorem core_back (n : Nat) : coreD n ++ List.replicate (Lib.nDigits n - (coreD n).length) 48 = Lib.decDigits n := by
  have e : (coreD n).length = trimN (Lib.decDigits n) := by
    unfold coreD
    rw [List.length_take]
    have := trimN_le (Lib.decDigits n)
    omega
  rw [e, ← Lib.decDigits_length]
  exact trim_split _
theorem core_len (n : Nat) (h : 1 ≤ n) : 1 ≤ (coreD n).length ∧ (coreD n).length ≤ Lib.nDigits n := by
  have e : (coreD n).length = trimN (Lib.decDigits n) := by
    unfold coreD
    rw [List.length_take]
    have := trimN_le (Lib.decDigits n)
    omega
  rw [e]
  refine ⟨trim_pos n h, ?_⟩
  have := trimN_le (Lib.decDigits n)
  rwa [Lib.decDigits_length] at this
theorem core_dig (n : Nat) : ∀ c ∈ coreD n, isDig c = true := fun c hc => dec_dig n c (List.mem_of_mem_take hc)
end Go.Proofs.YtcfgbdhpcboikaaGreatDoor
