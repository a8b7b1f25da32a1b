/-
  What readFloat counts, over the bytes of a text: the digits' fold and the exponent's fold.
  readFloat: what is asked of a text, and what comes out.
-/
import Derived.Test.YtcfgbdhpcboikaaGreatDoorExact
namespace Go.Proofs.YtcfgbdhpcboikaaGreatDoor
open Go.RowKit

theorem snoc_ind {α : Type} {P : List α → Prop} (h0 : P []) (h1 : ∀ l a, P l → P (l ++ [a])) (l : List α) : P l := by
  rw [← List.reverse_reverse l]
  generalize l.reverse = r
  induction r with
  | nil => exact h0
  | cons a r ih => rw [List.reverse_cons]; exact h1 _ _ ih

/-- What has been counted: the mantissa, the digits, those in the mantissa, the point's place, was there a point, was there a digit, was something left out. -/
structure RS where
  mant : Nat
  nd : Nat
  ndM : Nat
  dp : Int
  dot : Bool
  dig : Bool
  trunc : Bool
deriving DecidableEq

def rs0 : RS := ⟨0, 0, 0, 0, false, false, false⟩
def rstep (r : RS) (c : UInt8) : RS :=
  if c = 46 then { r with dot := true, dp := r.nd }
  else if c = 48 ∧ r.nd = 0 then { r with dig := true, dp := r.dp - 1 }
  else if r.ndM < 19 then { r with dig := true, nd := r.nd + 1, mant := r.mant * 10 + (c.toNat - 48), ndM := r.ndM + 1 }
  else { r with dig := true, nd := r.nd + 1, trunc := r.trunc || c != 48 }
def rfold (l : List UInt8) : RS := l.foldl rstep rs0
theorem rfold_snoc (l : List UInt8) (c : UInt8) : rfold (l ++ [c]) = rstep (rfold l) c := by simp [rfold]

/-- A digit or the point. -/
def numCh (c : UInt8) : Bool := isDig c || c == 46

structure RB (r : RS) (k : Nat) : Prop where
  nd : r.nd ≤ k
  ndM : r.ndM = min r.nd 19
  mant : r.mant < 10 ^ r.ndM
  lo : -(k : Int) ≤ r.dp
  hi : r.dp ≤ k
theorem dig_bd (c : UInt8) (h : isDig c = true) : 48 ≤ c.toNat ∧ c.toNat ≤ 57 := by simpa [isDig] using h
theorem rb_step {r : RS} {k : Nat} {c : UInt8} (h : RB r k) (hc : numCh c = true) : RB (rstep r c) (k + 1) := by
  obtain ⟨h1, h2, h3, h4, h5⟩ := h
  unfold rstep
  split
  · exact ⟨by show r.nd ≤ _; omega, h2, h3, by show _ ≤ ((r.nd : Nat) : Int); omega, by show ((r.nd : Nat) : Int) ≤ _; omega⟩
  · rename_i h46
    have hd : isDig c = true := by simpa [numCh, h46] using hc
    have hb := dig_bd c hd
    split
    · exact ⟨by show r.nd ≤ _; omega, h2, h3, by show _ ≤ r.dp - 1; omega, by show r.dp - 1 ≤ _; omega⟩
    · split
      · refine ⟨by show r.nd + 1 ≤ _; omega, by show r.ndM + 1 = min (r.nd + 1) 19; omega, ?_, by show _ ≤ r.dp; omega, by show r.dp ≤ _; omega⟩
        show r.mant * 10 + (c.toNat - 48) < 10 ^ (r.ndM + 1)
        rw [Nat.pow_succ]
        omega
      · exact ⟨by show r.nd + 1 ≤ _; omega, by show r.ndM = min (r.nd + 1) 19; omega, h3, by show _ ≤ r.dp; omega, by show r.dp ≤ _; omega⟩
theorem rb_fold (l : List UInt8) (h : ∀ c ∈ l, numCh c = true) : RB (rfold l) l.length := by
  induction l using snoc_ind with
  | h0 => exact ⟨Nat.le_refl _, rfl, by show 0 < 1; omega, Int.le_refl _, Int.le_refl _⟩
  | h1 l c ih =>
    rw [rfold_snoc, List.length_append]
    exact rb_step (ih (fun x hx => h x (by simp [hx]))) (h c (by simp))
theorem pow19 (n : Nat) (h : n ≤ 19) : 10 ^ n ≤ 10000000000000000000 := Nat.le_trans (Nat.pow_le_pow_right (by omega) h) (by decide)
theorem pow18 (n : Nat) (h : n ≤ 18) : 10 ^ n ≤ 1000000000000000000 := Nat.le_trans (Nat.pow_le_pow_right (by omega) h) (by decide)

/-- The exponent's digits. -/
def estep (e : Nat) (c : UInt8) : Nat := if e < 10000 then e * 10 + (c.toNat - 48) else e
def efold (l : List UInt8) : Nat := l.foldl estep 0
theorem efold_snoc (l : List UInt8) (c : UInt8) : efold (l ++ [c]) = estep (efold l) c := by simp [efold]
theorem efold_le (l : List UInt8) (h : ∀ c ∈ l, isDig c = true) : efold l ≤ 100000 := by
  induction l using snoc_ind with
  | h0 => show 0 ≤ _; omega
  | h1 l c ih =>
    have h1 := ih (fun x hx => h x (by simp [hx]))
    have h2 := dig_bd c (h c (by simp))
    rw [efold_snoc]
    unfold estep
    split <;> omega

/-- The bytes of a text from one place to another. -/
def part (s : ByteArray) (p j : Nat) : List UInt8 := (s.data.toList.drop p).take (j - p)
theorem part_self (s : ByteArray) (p : Nat) : part s p p = [] := by simp [part]
theorem part_succ (s : ByteArray) (p j : Nat) (hp : p ≤ j) (hj : j < s.size) : part s p (j + 1) = part s p j ++ [s[j]] := by
  unfold part
  rw [Nat.succ_sub hp, List.take_succ_eq_append_getElem (by rw [List.length_drop, ← size_list]; omega)]
  congr 2
  rw [List.getElem_drop]
  have e : p + (j - p) = j := by omega
  simp only [e]
  rfl
theorem part_len (s : ByteArray) (p j : Nat) (hp : p ≤ j) (hj : j ≤ s.size) : (part s p j).length = j - p := by
  unfold part
  rw [List.length_take, List.length_drop, ← size_list]; omega
end Go.Proofs.YtcfgbdhpcboikaaGreatDoor

namespace Go.Proofs.YtcfgbdhpcboikaaGreatDoor
open Go.RowKit

theorem low_num (c : UInt8) (h : numCh c = true ∨ c = 101 ∨ c = 69) : (bits .or .u8 (c.toNat : Int) 32 == 120) = false := by
  have all : ∀ n : Fin 256, (numCh (UInt8.ofNat n.val) = true ∨ UInt8.ofNat n.val = 101 ∨ UInt8.ofNat n.val = 69) → (bits .or .u8 ((UInt8.ofNat n.val).toNat : Int) 32 == 120) = false := by decide +kernel
  have := all ⟨c.toNat, c.toNat_lt⟩
  simp only [UInt8.ofNat_toNat] at this
  exact this h
theorem low_e (c : UInt8) (h : c = 101 ∨ c = 69) : (bits .or .u8 (c.toNat : Int) 32 == 101) = true := by
  rcases h with rfl | rfl <;> decide +kernel

theorem lower_at (c : Int) (w : World) : Calls Tryz.prog 251 #[.int .u8 c] w fun e w' => e = .returned (.int .u8 (bits .or .u8 c 32)) ∧ w = w' :=
  (Tryz.internal_strconv_lower c w).mono fun _ _ ⟨h1, h2⟩ => ⟨h1, h2.symm⟩

/-- From p0 to q there stand digits, and one point at the most. -/
structure NumText (s : ByteArray) (p0 q : Nat) : Prop where
  lt : p0 < q
  le : q ≤ s.size
  ch : ∀ j (h : j < s.size), p0 ≤ j → j < q → numCh s[j] = true
  dots : ∀ j (h : j < s.size), p0 ≤ j → j < q → s[j] = 46 → (rfold (part s p0 j)).dot = false
  dig : (rfold (part s p0 q)).dig = true
  stop : ∀ (h : q < s.size), s[q] = 101 ∨ s[q] = 69

/-- The sign. -/
def SignAt (s : ByteArray) (neg : Bool) (p0 : Nat) : Prop :=
  ∃ h : 0 < s.size, (neg = false ∧ p0 = 0 ∧ ((s[0].toNat : Int) == 43) = false ∧ ((s[0].toNat : Int) == 45) = false) ∨ (neg = true ∧ p0 = 1 ∧ ((s[0].toNat : Int) == 43) = false ∧ ((s[0].toNat : Int) == 45) = true)

/-- The head of the digits' loop: what has been counted before the place j. -/
def ReadRel (s : ByteArray) (p0 q : Nat) (mant trunc i us dot dig nd ndM dp : Value) : Prop :=
  ∃ (j : Nat) (r : RS), p0 ≤ j ∧ j ≤ q ∧ rfold (part s p0 j) = r ∧ mant = .int .u64 r.mant ∧ trunc = .bool r.trunc ∧ i = .int .i64 j ∧ us = .bool false ∧ dot = .bool r.dot ∧ dig = .bool r.dig ∧ nd = .int .i64 r.nd ∧ ndM = .int .i64 r.ndM ∧ dp = .int .i64 r.dp
/-- Behind it. -/
def ReadEnd (s : ByteArray) (p0 q : Nat) (mant trunc i us dot dig nd ndM dp : Value) : Prop :=
  ∃ (r : RS), rfold (part s p0 q) = r ∧ mant = .int .u64 r.mant ∧ trunc = .bool r.trunc ∧ i = .int .i64 q ∧ us = .bool false ∧ dot = .bool r.dot ∧ dig = .bool r.dig ∧ nd = .int .i64 r.nd ∧ ndM = .int .i64 r.ndM ∧ dp = .int .i64 r.dp

/-- What stands behind the digits: nothing, or an exponent of the value ev. -/
def ExpAt (s : ByteArray) (q : Nat) (ev : Int) : Prop :=
  (q = s.size ∧ ev = 0) ∨ ∃ (h : q + 1 < s.size) (t : Nat) (es : Int), ((t = q + 1 ∧ es = 1 ∧ isDig s[q + 1] = true) ∨ (t = q + 2 ∧ es = 1 ∧ s[q + 1] = 43) ∨ (t = q + 2 ∧ es = -1 ∧ s[q + 1] = 45)) ∧
    t < s.size ∧ (∀ j (h : j < s.size), t ≤ j → isDig s[j] = true) ∧ ev = (efold (part s t s.size) : Nat) * es
/-- The point's place. -/
def RS.place (r : RS) : Int := if r.dot = true then r.dp else r.nd
/-- The exponent that goes with the mantissa. -/
def RS.expo (r : RS) (ev : Int) : Int := if r.mant = 0 then 0 else r.place + ev - r.ndM
theorem part_all_dig (s : ByteArray) (t j : Nat) (ht : t ≤ j) (hj : j ≤ s.size) (h : ∀ j (h : j < s.size), t ≤ j → isDig s[j] = true) : ∀ c ∈ part s t j, isDig c = true := by
  intro c hc
  obtain ⟨i, hi, rfl⟩ := List.getElem_of_mem hc
  rw [part_len s t j ht hj] at hi
  have : (part s t j)[i]'(by rw [part_len s t j ht hj]; exact hi) = s[t + i]'(by omega) := by
    unfold part
    rw [List.getElem_take, List.getElem_drop]
    rfl
  rw [this]
  exact h (t + i) (by omega) (by omega)
theorem efold_at (s : ByteArray) (t j : Nat) (ht : t ≤ j) (hj : j ≤ s.size) (h : ∀ j (h : j < s.size), t ≤ j → isDig s[j] = true) : efold (part s t j) ≤ 100000 :=
  efold_le _ (part_all_dig s t j ht hj h)

theorem part_all (s : ByteArray) (p0 q : Nat) (N : NumText s p0 q) (j : Nat) (hp : p0 ≤ j) (hj : j ≤ q) : ∀ c ∈ part s p0 j, numCh c = true := by
  intro c hc
  have hle := N.le
  obtain ⟨i, hi, rfl⟩ := List.getElem_of_mem hc
  rw [part_len s p0 j hp (by omega)] at hi
  have : (part s p0 j)[i]'(by rw [part_len s p0 j hp (by omega)]; exact hi) = s[p0 + i]'(by omega) := by
    unfold part
    rw [List.getElem_take, List.getElem_drop]
    rfl
  rw [this]
  exact N.ch (p0 + i) (by omega) (by omega) (by omega)
theorem rb_at (s : ByteArray) (p0 q : Nat) (N : NumText s p0 q) (j : Nat) (hp : p0 ≤ j) (hj : j ≤ q) : RB (rfold (part s p0 j)) (j - p0) := by
  have := rb_fold (part s p0 j) (part_all s p0 q N j hp hj)
  rwa [part_len s p0 j hp (Nat.le_trans hj N.le)] at this
end Go.Proofs.YtcfgbdhpcboikaaGreatDoor
