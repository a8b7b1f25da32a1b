/-
  What readFloat counts, over the bytes of a text: the digits' fold and the exponent's fold.
-/
import Derived.Test.YtdgmokfdkophpaaGreatDoorExact
namespace Go.Proofs.YtdgmokfdkophpaaGreatDoor
open Go.RowKit

theorem snoc_ind {α : Type} {P : List α → Prop} (h0 : P []) (h1 : ∀ l a, P l → P (l ++ [a])) (l : List α) : P l := by
  rw [← List.reverse_reverse l]
  generalize l.reverse = r
  induction r with
  | nil => exact h0
  | cons a r ih => rw [List.reverse_cons]; exact h1 _ _ ih

/-- What has been counted: the mantissa, the digits, those in the mantissa, the point's place, was there a point, was there a digit, was something left out. -/
structure RS where
  mant : Nat
  nd : Nat
  ndM : Nat
  dp : Int
  dot : Bool
  dig : Bool
  trunc : Bool
deriving DecidableEq

def rs0 : RS := ⟨0, 0, 0, 0, false, false, false⟩
def rstep (r : RS) (c : UInt8) : RS :=
  if c = 46 then { r with dot := true, dp := r.nd }
  else if c = 48 ∧ r.nd = 0 then { r with dig := true, dp := r.dp - 1 }
  else if r.ndM < 19 then { r with dig := true, nd := r.nd + 1, mant := r.mant * 10 + (c.toNat - 48), ndM := r.ndM + 1 }
  else { r with dig := true, nd := r.nd + 1, trunc := r.trunc || c != 48 }
def rfold (l : List UInt8) : RS := l.foldl rstep rs0
theorem rfold_snoc (l : List UInt8) (c : UInt8) : rfold (l ++ [c]) = rstep (rfold l) c := by simp [rfold]

/-- A digit or the point. -/
def numCh (c : UInt8) : Bool := isDig c || c == 46

structure RB (r : RS) (k : Nat) : Prop where
  nd : r.nd ≤ k
  ndM : r.ndM = min r.nd 19
  mant : r.mant < 10 ^ r.ndM
  lo : -(k : Int) ≤ r.dp
  hi : r.dp ≤ k
theorem dig_bd (c : UInt8) (h : isDig c = true) : 48 ≤ c.toNat ∧ c.toNat ≤ 57 := by simpa [isDig] using h
theorem rb_step {r : RS} {k : Nat} {c : UInt8} (h : RB r k) (hc : numCh c = true) : RB (rstep r c) (k + 1) := by
  obtain ⟨h1, h2, h3, h4, h5⟩ := h
  unfold rstep
  split
  · exact ⟨by show r.nd ≤ _; omega, h2, h3, by show _ ≤ ((r.nd : Nat) : Int); omega, by show ((r.nd : Nat) : Int) ≤ _; omega⟩
  · rename_i h46
    have hd : isDig c = true := by simpa [numCh, h46] using hc
    have hb := dig_bd c hd
    split
    · exact ⟨by show r.nd ≤ _; omega, h2, h3, by show _ ≤ r.dp - 1; omega, by show r.dp - 1 ≤ _; omega⟩
    · split
      · refine ⟨by show r.nd + 1 ≤ _; omega, by show r.ndM + 1 = min (r.nd + 1) 19; omega, ?_, by show _ ≤ r.dp; omega, by show r.dp ≤ _; omega⟩
        show r.mant * 10 + (c.toNat - 48) < 10 ^ (r.ndM + 1)
        rw [Nat.pow_succ]
        omega
      · exact ⟨by show r.nd + 1 ≤ _; omega, by show r.ndM = min (r.nd + 1) 19; omega, h3, by show _ ≤ r.dp; omega, by show r.dp ≤ _; omega⟩
theorem rb_fold (l : List UInt8) (h : ∀ c ∈ l, numCh c = true) : RB (rfold l) l.length := by
  induction l using snoc_ind with
  | h0 => exact ⟨Nat.le_refl _, rfl, by show 0 < 1; omega, Int.le_refl _, Int.le_refl _⟩
  | h1 l c ih =>
    rw [rfold_snoc, List.length_append]
    exact rb_step (ih (fun x hx => h x (by simp [hx]))) (h c (by simp))
theorem pow19 (n : Nat) (h : n ≤ 19) : 10 ^ n ≤ 10000000000000000000 := Nat.le_trans (Nat.pow_le_pow_right (by omega) h) (by decide)
theorem pow18 (n : Nat) (h : n ≤ 18) : 10 ^ n ≤ 1000000000000000000 := Nat.le_trans (Nat.pow_le_pow_right (by omega) h) (by decide)

/-- The exponent's digits. -/
def estep (e : Nat) (c : UInt8) : Nat := if e < 10000 then e * 10 + (c.toNat - 48) else e
def efold (l : List UInt8) : Nat := l.foldl estep 0
theorem efold_snoc (l : List UInt8) (c : UInt8) : efold (l ++ [c]) = estep (efold l) c := by simp [efold]
theorem efold_le (l : List UInt8) (h : ∀ c ∈ l, isDig c = true) : efold l ≤ 100000 := by
  induction l using snoc_ind with
  | h0 => show 0 ≤ _; omega
  | h1 l c ih =>
    have h1 := ih (fun x hx => h x (by simp [hx]))
    have h2 := dig_bd c (h c (by simp))
    rw [efold_snoc]
    unfold estep
    split <;> omega

/-- The bytes of a text from one place to another. -/
def part (s : ByteArray) (p j : Nat) : List UInt8 := (s.data.toList.drop p).take (j - p)
theorem part_self (s : ByteArray) (p : Nat) : part s p p = [] := by simp [part]
theorem part_succ (s : ByteArray) (p j : Nat) (hp : p ≤ j) (hj : j < s.size) : part s p (j + 1) = part s p j ++ [s[j]] := by
  unfold part
  rw [Nat.succ_sub hp, List.take_succ_eq_append_getElem (by rw [List.length_drop, ← size_list]; omega)]
  congr 2
  rw [List.getElem_drop]
  have e : p + (j - p) = j := by omega
  simp only [e]
  rfl
theorem part_len (s : ByteArray) (p j : Nat) (hp : p ≤ j) (hj : j ≤ s.size) : (part s p j).length = j - p := by
  unfold part
  rw [List.length_take, List.length_drop, ← size_list]; omega
end Go.Proofs.YtdgmokfdkophpaaGreatDoor
