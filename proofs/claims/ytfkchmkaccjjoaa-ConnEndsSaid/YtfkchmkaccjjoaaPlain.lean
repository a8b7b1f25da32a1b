/-
  Plain facts on the ring's bytes: what a put, a peek and a take make of them. No program in sight.
-/
import Derived.Laws.CopyOwn
namespace Go.Proofs.Ytfkchmkaccjjoaa

/-- The bytes in the ring. -/
def ringBytes (f n : Nat) (arr : List UInt8) : List UInt8 := (List.range n).map fun i => arr.getD ((f + i) % arr.length) 0

theorem getD_of {l : List UInt8} {p : Nat} (h : p < l.length) : l[p]? = some (l.getD p 0) := by
  rw [List.getD_eq_getElem?_getD, List.getElem?_eq_getElem h]; rfl

theorem splice_get (arr cs : List UInt8) (o p : Nat) (h : o + cs.length ≤ arr.length) (hp : p < arr.length) :
    (splice arr o cs).getD p 0 = if o ≤ p ∧ p < o + cs.length then cs.getD (p - o) 0 else arr.getD p 0 := by
  have ht : (List.take o arr).length = o := by rw [List.length_take]; omega
  rw [List.getD_eq_getElem?_getD]
  unfold splice
  by_cases c1 : p < o
  · rw [List.getElem?_append_left (by omega), List.getElem?_take, if_pos c1, if_neg (by omega), getD_of hp]; rfl
  · rw [List.getElem?_append_right (by omega), ht]
    by_cases c2 : p - o < cs.length
    · rw [List.getElem?_append_left (by omega), if_pos (by omega), getD_of c2]; rfl
    · rw [List.getElem?_append_right (by omega), List.getElem?_drop, if_neg (by omega)]
      rw [show o + cs.length + (p - o - cs.length) = p by omega, getD_of hp]; rfl

theorem ring_mod (cap f x : Nat) (hf : f < cap) (hx : x ≤ cap) : (f + x) % cap = if f + x < cap then f + x else f + x - cap := by
  split
  · exact Nat.mod_eq_of_lt (by omega)
  · rw [Nat.mod_eq_sub_mod (by omega)]; exact Nat.mod_eq_of_lt (by omega)

theorem getD_take {l : List UInt8} {i n : Nat} (h : i < n) : (l.take n).getD i 0 = l.getD i 0 := by
  rw [List.getD_eq_getElem?_getD, List.getElem?_take, if_pos h, List.getD_eq_getElem?_getD]
theorem getD_drop {l : List UInt8} {i n : Nat} : (l.drop n).getD i 0 = l.getD (n + i) 0 := by
  rw [List.getD_eq_getElem?_getD, List.getElem?_drop, List.getD_eq_getElem?_getD]

theorem put_bytes (f n k k1 at_ cap : Nat) (arr bs : List UInt8) (hl : arr.length = cap) (hf : f < cap) (hn : n + k ≤ cap) (hk : k ≤ bs.length) (hat : at_ = (f + n) % cap) (hk1 : k1 = min k (cap - at_)) :
    ringBytes f (n + k) (splice (splice arr at_ (bs.take k1)) 0 ((bs.drop k1).take (k - k1))) = ringBytes f n arr ++ bs.take k := by
  have hat' : at_ < cap := by subst hat; exact Nat.mod_lt _ (by omega)
  have hkk : k1 ≤ k ∧ k1 ≤ cap - at_ ∧ (k1 = k ∨ k1 = cap - at_) := by omega
  clear hk1
  obtain ⟨hk1a, hk1b, hk1c⟩ := hkk
  have l1 : (bs.take k1).length = k1 := by rw [List.length_take]; omega
  have l2 : ((bs.drop k1).take (k - k1)).length = k - k1 := by rw [List.length_take, List.length_drop]; omega
  have hlen : (splice arr at_ (bs.take k1)).length = cap := by rw [length_splice _ _ _ (by omega)]; exact hl
  have hlen2 : (splice (splice arr at_ (bs.take k1)) 0 ((bs.drop k1).take (k - k1))).length = cap := by
    rw [length_splice _ _ _ (by omega)]; exact hlen
  have hsp : ∀ p, p < cap → (splice (splice arr at_ (bs.take k1)) 0 ((bs.drop k1).take (k - k1))).getD p 0 = if p < k - k1 then bs.getD (k1 + p) 0 else if at_ ≤ p ∧ p < at_ + k1 then bs.getD (p - at_) 0 else arr.getD p 0 := by
    intro p hp
    rw [splice_get _ _ _ _ (by omega) (by omega), l2]
    by_cases c : p < k - k1
    · rw [if_pos (by omega), if_pos c, Nat.sub_zero, getD_take c, getD_drop]
    · rw [if_neg (by omega), if_neg c, splice_get _ _ _ _ (by omega) (by omega), l1]
      by_cases c2 : at_ ≤ p ∧ p < at_ + k1
      · rw [if_pos c2, if_pos c2, getD_take (by omega)]
      · rw [if_neg c2, if_neg c2]
  have hat2 : at_ = if f + n < cap then f + n else f + n - cap := by
    rw [hat]; exact ring_mod cap f n hf (by omega)
  clear hat
  apply List.ext_getElem?
  intro i
  unfold ringBytes
  rw [hlen2, hl]
  by_cases hi : i < n + k
  · rw [List.getElem?_map, List.getElem?_range hi]
    simp only [Option.map_some]
    rw [hsp _ (Nat.mod_lt _ (by omega)), ring_mod cap f i hf (by omega)]
    by_cases hin : i < n
    · rw [List.getElem?_append_left (by simpa using hin), List.getElem?_map, List.getElem?_range hin]
      simp only [Option.map_some]
      rw [ring_mod cap f i hf (by omega)]
      split at hat2 <;> split <;> (rw [if_neg (by omega), if_neg (by omega)])
    · rw [List.getElem?_append_right (by simpa using hin)]
      simp only [List.length_map, List.length_range]
      rw [getD_of (l := bs.take k) (p := i - n) (by rw [List.length_take]; omega), getD_take (l := bs) (i := i - n) (n := k) (by omega)]
      congr 1
      split at hat2 <;> split
      · by_cases c : f + i < k - k1
        · exfalso; omega
        · rw [if_neg c, if_pos (by omega)]; congr 1; omega
      · rw [if_pos (by omega)]; congr 1; omega
      · exfalso; omega
      · by_cases c : f + i - cap < k - k1
        · exfalso; omega
        · rw [if_neg c, if_pos (by omega)]; congr 1; omega
  · rw [List.getElem?_eq_none (by simp; omega), List.getElem?_eq_none (by simp; omega)]

theorem length_ringBytes (f n : Nat) (arr : List UInt8) : (ringBytes f n arr).length = n := by simp [ringBytes]

/-- What Peek reads: the row from the first byte on, then from its head. -/
theorem peek_bytes (f n k k1 cap : Nat) (arr : List UInt8) (Z : List UInt8) (hl : arr.length = cap) (hf : f < cap) (hn : n ≤ cap) (hk : k ≤ n) (hk1 : k1 = min (cap - f) k) (hZ : Z.length = k) :
    splice (splice Z 0 ((arr.drop f).take k1)) k1 (arr.take (k - k1)) = (ringBytes f n arr).take k := by
  have hkk : k1 ≤ k ∧ k1 ≤ cap - f ∧ (k1 = k ∨ k1 = cap - f) := by omega
  clear hk1
  obtain ⟨hk1a, hk1b, hk1c⟩ := hkk
  have l1 : ((arr.drop f).take k1).length = k1 := by rw [List.length_take, List.length_drop]; omega
  have l2 : (arr.take (k - k1)).length = k - k1 := by rw [List.length_take]; omega
  have hlen : (splice Z 0 ((arr.drop f).take k1)).length = k := by rw [length_splice _ _ _ (by omega)]; exact hZ
  have hlen2 : (splice (splice Z 0 ((arr.drop f).take k1)) k1 (arr.take (k - k1))).length = k := by
    rw [length_splice _ _ _ (by omega)]; exact hlen
  apply List.ext_getElem?
  intro i
  by_cases hi : i < k
  · rw [getD_of (by omega), splice_get _ _ _ _ (by omega) (by omega), l2]
    rw [List.getElem?_take, if_pos hi]
    unfold ringBytes
    rw [List.getElem?_map, List.getElem?_range (by omega), hl]
    simp only [Option.map_some]
    rw [ring_mod cap f i hf (by omega)]
    congr 1
    by_cases c : k1 ≤ i ∧ i < k1 + (k - k1)
    · rw [if_pos c, getD_take (by omega), if_neg (by omega)]; congr 1; omega
    · rw [if_neg c, splice_get _ _ _ _ (by omega) (by omega), l1, if_pos (by omega), Nat.sub_zero, getD_take (by omega), getD_drop, if_pos (by omega)]
  · rw [List.getElem?_eq_none (by omega), List.getElem?_eq_none (by rw [List.length_take, length_ringBytes]; omega)]

/-- What a take leaves. -/
theorem take_bytes (f n k cap : Nat) (arr : List UInt8) (hl : arr.length = cap) (hk : k ≤ n) :
    ringBytes ((f + k) % cap) (n - k) arr = (ringBytes f n arr).drop k := by
  apply List.ext_getElem?
  intro i
  unfold ringBytes
  rw [List.getElem?_drop, List.getElem?_map, List.getElem?_map, hl]
  by_cases hi : i < n - k
  · rw [List.getElem?_range hi, List.getElem?_range (by omega)]
    simp only [Option.map_some]
    rw [Nat.mod_add_mod, Nat.add_assoc]
  · rw [List.getElem?_eq_none (by simp; omega), List.getElem?_eq_none (by simp; omega)]; rfl
end Go.Proofs.Ytfkchmkaccjjoaa
