/-
  readFloat: what is asked of a text, and what comes out.
-/
import Derived.Test.YtdgmokfdkophpaaGreatDoorReadA
namespace Go.Proofs.YtdgmokfdkophpaaGreatDoor
open Go.RowKit

theorem low_num (c : UInt8) (h : numCh c = true ∨ c = 101 ∨ c = 69) : (bits .or .u8 (c.toNat : Int) 32 == 120) = false := by
  have all : ∀ n : Fin 256, (numCh (UInt8.ofNat n.val) = true ∨ UInt8.ofNat n.val = 101 ∨ UInt8.ofNat n.val = 69) → (bits .or .u8 ((UInt8.ofNat n.val).toNat : Int) 32 == 120) = false := by decide +kernel
  have := all ⟨c.toNat, c.toNat_lt⟩
  simp only [UInt8.ofNat_toNat] at this
  exact this h
theorem low_e (c : UInt8) (h : c = 101 ∨ c = 69) : (bits .or .u8 (c.toNat : Int) 32 == 101) = true := by
  rcases h with rfl | rfl <;> decide +kernel

theorem lower_at (c : Int) (w : World) : Calls Tryz.prog 82 #[.int .u8 c] w fun e w' => e = .returned (.int .u8 (bits .or .u8 c 32)) ∧ w = w' :=
  (Tryz.internal_strconv_lower c w).mono fun _ _ ⟨h1, h2⟩ => ⟨h1, h2.symm⟩

/-- From p0 to q there stand digits, and one point at the most. -/
structure NumText (s : ByteArray) (p0 q : Nat) : Prop where
  lt : p0 < q
  le : q ≤ s.size
  ch : ∀ j (h : j < s.size), p0 ≤ j → j < q → numCh s[j] = true
  dots : ∀ j (h : j < s.size), p0 ≤ j → j < q → s[j] = 46 → (rfold (part s p0 j)).dot = false
  dig : (rfold (part s p0 q)).dig = true
  stop : ∀ (h : q < s.size), s[q] = 101 ∨ s[q] = 69

/-- The sign. -/
def SignAt (s : ByteArray) (neg : Bool) (p0 : Nat) : Prop :=
  ∃ h : 0 < s.size, (neg = false ∧ p0 = 0 ∧ ((s[0].toNat : Int) == 43) = false ∧ ((s[0].toNat : Int) == 45) = false) ∨ (neg = true ∧ p0 = 1 ∧ ((s[0].toNat : Int) == 43) = false ∧ ((s[0].toNat : Int) == 45) = true)

/-- The head of the digits' loop: what has been counted before the place j. -/
def ReadRel (s : ByteArray) (p0 q : Nat) (mant trunc i us dot dig nd ndM dp : Value) : Prop :=
  ∃ (j : Nat) (r : RS), p0 ≤ j ∧ j ≤ q ∧ rfold (part s p0 j) = r ∧ mant = .int .u64 r.mant ∧ trunc = .bool r.trunc ∧ i = .int .i64 j ∧ us = .bool false ∧ dot = .bool r.dot ∧ dig = .bool r.dig ∧ nd = .int .i64 r.nd ∧ ndM = .int .i64 r.ndM ∧ dp = .int .i64 r.dp
/-- Behind it. -/
def ReadEnd (s : ByteArray) (p0 q : Nat) (mant trunc i us dot dig nd ndM dp : Value) : Prop :=
  ∃ (r : RS), rfold (part s p0 q) = r ∧ mant = .int .u64 r.mant ∧ trunc = .bool r.trunc ∧ i = .int .i64 q ∧ us = .bool false ∧ dot = .bool r.dot ∧ dig = .bool r.dig ∧ nd = .int .i64 r.nd ∧ ndM = .int .i64 r.ndM ∧ dp = .int .i64 r.dp

/-- What stands behind the digits: nothing, or an exponent of the value ev. -/
def ExpAt (s : ByteArray) (q : Nat) (ev : Int) : Prop :=
  (q = s.size ∧ ev = 0) ∨ ∃ (h : q + 1 < s.size) (t : Nat) (es : Int), ((t = q + 1 ∧ es = 1 ∧ isDig s[q + 1] = true) ∨ (t = q + 2 ∧ es = 1 ∧ s[q + 1] = 43) ∨ (t = q + 2 ∧ es = -1 ∧ s[q + 1] = 45)) ∧
    t < s.size ∧ (∀ j (h : j < s.size), t ≤ j → isDig s[j] = true) ∧ ev = (efold (part s t s.size) : Nat) * es
/-- The point's place. -/
def RS.place (r : RS) : Int := if r.dot = true then r.dp else r.nd
/-- The exponent that goes with the mantissa. -/
def RS.expo (r : RS) (ev : Int) : Int := if r.mant = 0 then 0 else r.place + ev - r.ndM
theorem part_all_dig (s : ByteArray) (t j : Nat) (ht : t ≤ j) (hj : j ≤ s.size) (h : ∀ j (h : j < s.size), t ≤ j → isDig s[j] = true) : ∀ c ∈ part s t j, isDig c = true := by
  intro c hc
  obtain ⟨i, hi, rfl⟩ := List.getElem_of_mem hc
  rw [part_len s t j ht hj] at hi
  have : (part s t j)[i]'(by rw [part_len s t j ht hj]; exact hi) = s[t + i]'(by omega) := by
    unfold part
    rw [List.getElem_take, List.getElem_drop]
    rfl
  rw [this]
  exact h (t + i) (by omega) (by omega)
theorem efold_at (s : ByteArray) (t j : Nat) (ht : t ≤ j) (hj : j ≤ s.size) (h : ∀ j (h : j < s.size), t ≤ j → isDig s[j] = true) : efold (part s t j) ≤ 100000 :=
  efold_le _ (part_all_dig s t j ht hj h)

theorem part_all (s : ByteArray) (p0 q : Nat) (N : NumText s p0 q) (j : Nat) (hp : p0 ≤ j) (hj : j ≤ q) : ∀ c ∈ part s p0 j, numCh c = true := by
  intro c hc
  have hle := N.le
  obtain ⟨i, hi, rfl⟩ := List.getElem_of_mem hc
  rw [part_len s p0 j hp (by omega)] at hi
  have : (part s p0 j)[i]'(by rw [part_len s p0 j hp (by omega)]; exact hi) = s[p0 + i]'(by omega) := by
    unfold part
    rw [List.getElem_take, List.getElem_drop]
    rfl
  rw [this]
  exact N.ch (p0 + i) (by omega) (by omega) (by omega)
theorem rb_at (s : ByteArray) (p0 q : Nat) (N : NumText s p0 q) (j : Nat) (hp : p0 ≤ j) (hj : j ≤ q) : RB (rfold (part s p0 j)) (j - p0) := by
  have := rb_fold (part s p0 j) (part_all s p0 q N j hp hj)
  rwa [part_len s p0 j hp (Nat.le_trans hj N.le)] at this
end Go.Proofs.YtdgmokfdkophpaaGreatDoor
