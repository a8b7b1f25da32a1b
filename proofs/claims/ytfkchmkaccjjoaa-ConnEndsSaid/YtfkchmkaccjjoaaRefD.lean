/-
  The document's connection (colanderref22): New.
-/
import Derived.Test.YtfkchmkaccjjoaaRefC
namespace Go.Proofs.Ytfkchmkaccjjoaa
open Go.RowKit

def RNewCPost (w : World) (x y : Nat) (e : Ending) (w' : World) : Prop :=
  ∃ r : RPl, e = .returned (.pointer (some ⟨r.c, 0, none⟩)) ∧ r.mi = x ∧ r.mo = y ∧ (∀ i, r.In i → w.heap.size ≤ i ∧ i < w'.heap.size) ∧ (∀ X : Nat → Prop, X r.c ∧ X r.i ∧ X r.o → RefC w' r X [] [] [] 0 false) ∧ Kept (fun _ => False) w w'

theorem IsRefX.new (w : World) (m : Nat) (X : Nat → Prop) (h : m ≤ 4096) : IsRefX (w.alloc (.cells #[.int .i64 m, .slice none 0 0] 35)) X w.heap.size m [] :=
  ⟨none, 0, ⟨heap_alloc_new w _, IsB.nil _ _, Nat.le_refl _, by omega, fun h => absurd rfl h, Nat.zero_le _, h⟩, fun h => absurd rfl h⟩

theorem rnew_yes (w : World) (x y : Nat) (h1 : 1 ≤ x) (h2 : x ≤ 4096) (h3 : 1 ≤ y) (h4 : y ≤ 4096) :
    Calls Try.prog 25 #[.int .i64 x, .int .i64 y] w (RNewCPost w x y) := by
  have e1 : decide (1 ≤ (x : Int) ∧ (x : Int) ≤ 4096) = true := decide_eq_true (by omega)
  have e2 : decide (1 ≤ (y : Int) ∧ (y : Int) ≤ 4096) = true := decide_eq_true (by omega)
  obtain ⟨C, hC⟩ : ∃ C, w.heap.size = C := ⟨_, rfl⟩
  have HC := Lib.hid hC
  clear hC
  go_enter Try.func25, Try.ntmps25
  go_wp2_with (go_at_call 13; refine (right_any _ _).mono ?_; rintro e w9 ⟨rfl, rfl⟩)
  go_ret
  have hC := HC.out
  obtain ⟨w1, hw1⟩ : ∃ w1, w1 = w.alloc (.cells #[.int .i64 x, .slice none 0 0] 35) := ⟨_, rfl⟩
  obtain ⟨w2, hw2⟩ : ∃ w2, w2 = w1.alloc (.cells #[.int .i64 y, .slice none 0 0] 35) := ⟨_, rfl⟩
  have n1 : w1.heap.size = w.heap.size + 1 := by rw [hw1]; simp
  have n2 : w2.heap.size = w.heap.size + 2 := by rw [hw2]; simp [n1]
  have k1 : Kept (fun _ => False) w w1 := by rw [hw1]; exact (Kept.refl _ _).alloc _
  have k2 : Kept (fun _ => False) w1 w2 := by rw [hw2]; exact (Kept.refl _ _).alloc _
  have i1 : ∀ X, IsRefX w1 X w.heap.size x [] := fun X => by rw [hw1]; exact IsRefX.new w x X h2
  have i2 : ∀ X, IsRefX w2 X (w.heap.size + 1) y [] := fun X => by rw [hw2, ← n1]; exact IsRefX.new w1 y X h4
  rw [← hw1, ← hw2]
  have k3 : Kept (fun _ => False) w2 (w2.alloc (.cells #[.pointer (some ⟨w.heap.size, 0, none⟩), .pointer (some ⟨w.heap.size + 1, 0, none⟩), .int .i64 0, .bool false, .string ⟨#[]⟩] 57)) := (Kept.refl _ _).alloc _
  refine ⟨⟨w.heap.size + 2, w.heap.size, w.heap.size + 1, x, y⟩, rfl, rfl, rfl, ?_, fun X hX => ⟨?_, ?_, ?_, by simp, hX⟩, ?_⟩
  · rintro i (h | h | h) <;> simp at h <;> subst h <;> simp <;> omega
  · show (_ : World).heap[w.heap.size + 2]? = _
    rw [← n2]
    exact heap_alloc_new _ _
  · exact ((i1 X).kept k2 (fun h => h) (fun _ _ h => h.elim)).kept k3 (fun h => h) (fun _ _ h => h.elim)
  · exact (i2 X).kept k3 (fun h => h) (fun _ _ h => h.elim)
  · exact (k1.trans k2).trans k3
end Go.Proofs.Ytfkchmkaccjjoaa
