/-
  The ring as a list of bytes: its functions' contracts without the place of the first byte.
-/
import Derived.Test.YtfkchmkaccjjoaaShown
namespace Go.Proofs.Ytfkchmkaccjjoaa
open Go.RowKit

def IsRing (w : World) (r g cap : Nat) (bs : List UInt8) : Prop := ∃ f arr, RingAt w r g cap f bs.length arr ∧ ringBytes f bs.length arr = bs

theorem IsRing.kept {S : Nat → Prop} {w w' : World} {r g cap : Nat} {bs : List UInt8} (h : IsRing w r g cap bs) (k : Kept S w w') (h1 : ¬ S r) (h2 : ¬ S g) : IsRing w' r g cap bs := by
  obtain ⟨f, arr, R, hb⟩ := h
  exact ⟨f, arr, R.kept k h1 h2, hb⟩
theorem IsRing.drewN {w : World} {r g cap : Nat} {bs : List UInt8} (h : IsRing w r g cap bs) (n : Nat) : IsRing (w.drewN n) r g cap bs := by
  obtain ⟨f, arr, R, hb⟩ := h
  exact ⟨f, arr, R.drewN n, hb⟩
theorem IsRing.fits {w : World} {r g cap : Nat} {bs : List UInt8} (h : IsRing w r g cap bs) : bs.length ≤ cap ∧ 1 ≤ cap ∧ cap ≤ 4096 := by
  obtain ⟨f, arr, R, hb⟩ := h
  exact ⟨R.hn, R.pos, R.top⟩
theorem IsRing.lt {w : World} {r g cap : Nat} {bs : List UInt8} (h : IsRing w r g cap bs) : r < w.heap.size ∧ g < w.heap.size := by
  obtain ⟨f, arr, R, hb⟩ := h
  exact ⟨(Array.getElem?_eq_some_iff.1 R.hr).1, (Array.getElem?_eq_some_iff.1 R.hg).1⟩
theorem IsRing.ne {w : World} {r g cap : Nat} {bs : List UInt8} (h : IsRing w r g cap bs) : r ≠ g := by
  obtain ⟨f, arr, R, hb⟩ := h
  exact R.ne

theorem ring_len (w : World) (r g cap n : Nat) (bs : List UInt8) (h : IsRing w r g cap bs) (hn : bs.length = n) :
    Calls Try.prog 9 #[.pointer (some ⟨r, 0, none⟩)] w fun e w' => e = .returned (.int .i64 n) ∧ w = w' := by
  subst hn
  obtain ⟨f, arr, R, hb⟩ := h
  exact len_any w r g cap f _ arr R

theorem ring_room (w : World) (r g cap m : Nat) (bs : List UInt8) (h : IsRing w r g cap bs) (hm : bs.length + m = cap) :
    Calls Try.prog 11 #[.pointer (some ⟨r, 0, none⟩)] w fun e w' => e = .returned (.int .i64 m) ∧ ∃ k, w' = w.drewN k := by
  obtain ⟨f, arr, R, hb⟩ := h
  exact room_any w r g cap f _ m arr R hm

def RPutPost (w : World) (r g cap k : Nat) (q bs : List UInt8) (e : Ending) (w' : World) : Prop :=
  e = .returned (.int .i64 k) ∧ IsRing w' r g cap (q ++ bs.take k) ∧ Kept (fun b => b = r ∨ b = g) w w'

theorem ring_put (w : World) (r g cap k : Nat) (q : List UInt8) (h : IsRing w r g cap q) (ba : Option Addr) (bl bc : Nat) (bs : List UInt8) (hl : bs.length = bl) (hb : bl ≤ bc) (hb2 : bc ≤ 9223372036854775807)
    (hsrc : IsB w ba bs) (hap : bs ≠ [] → ∀ x, ba = some x → x.block ≠ g) (hk : k = min bl (cap - q.length)) :
    Calls Try.prog 10 #[.pointer (some ⟨r, 0, none⟩), .slice ba bl bc] w (RPutPost w r g cap k q bs) := by
  obtain ⟨f, arr, R, hq⟩ := h
  have hn := R.hn
  refine (put_any w r g cap f q.length (cap - q.length) k _ _ arr R (by omega) ba bl bc bs hl hb hb2 hsrc hap (by omega) (by omega) (by omega) rfl rfl).mono ?_
  rintro e w' ⟨rfl, arr', R', hb', K⟩
  have hlen : (q ++ bs.take k).length = q.length + k := by rw [List.length_append, List.length_take]; omega
  exact ⟨rfl, ⟨f, arr', by rw [hlen]; exact R', by rw [hlen, hb', hq]⟩, K⟩

def RTakePost (w : World) (r g cap k : Nat) (q : List UInt8) (e : Ending) (w' : World) : Prop :=
  e = .returned (.slice (some ⟨w.heap.size, 0, none⟩) k k) ∧ IsB w' (some ⟨w.heap.size, 0, none⟩) (q.take k) ∧ w'.heap[w.heap.size]? = some (.cells ((q.take k).map byteV).toArray 5 (0, 0)) ∧ IsRing w' r g cap (q.drop k) ∧ Kept (· = r) w w'

theorem ring_take (w : World) (r g cap k : Nat) (x : Int) (q : List UInt8) (h : IsRing w r g cap q)
    (hk : x < 0 ∧ k = 0 ∨ x = k ∧ k ≤ q.length ∨ (q.length : Int) < x ∧ k = q.length) :
    Calls Try.prog 12 #[.pointer (some ⟨r, 0, none⟩), .int .i64 x] w (RTakePost w r g cap k q) := by
  obtain ⟨f, arr, R, hq⟩ := h
  refine (take_any w r g cap f q.length k x arr R hk).mono ?_
  rintro e w' ⟨rfl, hg, R', K⟩
  rw [hq] at hg
  have hlen : (q.drop k).length = q.length - k := by rw [List.length_drop]
  refine ⟨rfl, IsB.of_heap (arr := q.take k) hg 0, hg, ⟨(f + k) % cap, arr, by rw [hlen]; exact R', ?_⟩, K⟩
  rw [hlen, ← R.len, take_bytes f q.length k arr.length arr rfl (by omega), hq]

def RPeekPost (w : World) (k : Nat) (q : List UInt8) (e : Ending) (w' : World) : Prop :=
  e = .returned (.slice (some ⟨w.heap.size, 0, none⟩) k k) ∧ IsB w' (some ⟨w.heap.size, 0, none⟩) (q.take k) ∧ w'.heap[w.heap.size]? = some (.cells ((q.take k).map byteV).toArray 5 (0, 0)) ∧ Kept (fun _ => False) w w'

theorem ring_peek (w : World) (r g cap k : Nat) (x : Int) (q : List UInt8) (h : IsRing w r g cap q)
    (hk : x < 0 ∧ k = 0 ∨ x = k ∧ k ≤ q.length ∨ (q.length : Int) < x ∧ k = q.length) :
    Calls Try.prog 15 #[.pointer (some ⟨r, 0, none⟩), .int .i64 x] w (RPeekPost w k q) := by
  obtain ⟨f, arr, R, hq⟩ := h
  refine (peek_any w r g cap f q.length k _ x arr R hk rfl).mono ?_
  rintro e w' ⟨rfl, hg, K⟩
  rw [hq] at hg
  exact ⟨rfl, IsB.of_heap (arr := q.take k) hg 0, hg, K⟩

def RClearPost (w : World) (r g cap : Nat) (e : Ending) (w' : World) : Prop :=
  e = .returned (.tuple #[]) ∧ IsRing w' r g cap [] ∧ Kept (· = r) w w'

theorem ring_clear (w : World) (r g cap : Nat) (q : List UInt8) (h : IsRing w r g cap q) :
    Calls Try.prog 33 #[.pointer (some ⟨r, 0, none⟩)] w (RClearPost w r g cap) := by
  obtain ⟨f, arr, R, hq⟩ := h
  refine (clear_any w r g cap f q.length arr R).mono ?_
  rintro e w' ⟨rfl, R', K⟩
  exact ⟨rfl, ⟨0, arr, R', rfl⟩, K⟩

def RNewPost (w : World) (k : Nat) (e : Ending) (w' : World) : Prop :=
  ∃ r g, e = .returned (.pointer (some ⟨r, 0, none⟩)) ∧ IsRing w' r g k [] ∧ w.heap.size ≤ r ∧ w.heap.size ≤ g ∧ Kept (fun _ => False) w w'

theorem ring_new (w : World) (k : Nat) (h1 : 1 ≤ k) (h2 : k ≤ 4096) : Calls Try.prog 8 #[.int .i64 k] w (RNewPost w k) := by
  refine (new_yes w k h1 h2).mono ?_
  rintro e w' ⟨rfl, R, K⟩
  exact ⟨_, _, rfl, ⟨0, _, R, rfl⟩, by omega, Nat.le_refl _, K⟩
end Go.Proofs.Ytfkchmkaccjjoaa
