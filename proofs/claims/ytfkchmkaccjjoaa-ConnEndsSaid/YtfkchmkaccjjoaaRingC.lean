/-
  Contracts of the ring's functions, the third part: New, Clear.
-/
import Derived.Test.YtfkchmkaccjjoaaRingB
namespace Go.Proofs.Ytfkchmkaccjjoaa
open Go.RowKit

theorem new_no (w : World) (x : Int) (h : x < 1 ∨ 4096 < x) :
    Calls Try.prog 8 #[.int .i64 x] w fun e w' => e = .returned (.pointer none) ∧ w = w' := by
  rcases h with h | h
  · go_enter Try.func8, Try.ntmps8
    go_wp2
    go_ret
    exact ⟨rfl, rfl⟩
  · have h' : ¬ x < 1 := by omega
    go_enter Try.func8, Try.ntmps8
    go_wp2
    go_ret
    exact ⟨rfl, rfl⟩

def NewPost (w : World) (k : Nat) (e : Ending) (w' : World) : Prop :=
  e = .returned (.pointer (some ⟨w.heap.size + 1, 0, none⟩)) ∧ RingAt w' (w.heap.size + 1) w.heap.size k 0 0 (List.replicate k 0) ∧ Kept (fun _ => False) w w'

theorem new_yes (w : World) (k : Nat) (h1 : 1 ≤ k) (h2 : k ≤ 4096) :
    Calls Try.prog 8 #[.int .i64 k] w (NewPost w k) := by
  obtain ⟨B, hB⟩ : ∃ B, w.heap.size = B := ⟨_, rfl⟩
  have HB := Lib.hid hB
  obtain ⟨i0, hi, hz0, hz1, hz2⟩ := info_parts Try.infoE5
  have Hi := Lib.hid hi
  have Hz0 := Lib.hid hz0
  have Hz1 := Lib.hid hz1
  have Hz2 := Lib.hid hz2
  clear hB hi hz0 hz1 hz2
  go_enter Try.func8, Try.ntmps8
  go_wp2_with (at_make; go_loud (refine wpList_makeB (by rfl) (.tmp 9) (.tmp 9) 22 (by rfl) 5 i0 Try.underlying22 Hi.out Hz0.out Hz1.out Hz2.out _ _ _ _ k (by rfl) (by rfl) rfl rfl (by omega) B (by exact HB.out) ?_; intro w1 G1 N1 K1))
  go_ret
  have hB := HB.out
  have hN := N1.out
  refine ⟨?_, ⟨?_, ?_, by simp, h1, h2, by omega, by omega⟩, K1.alloc _⟩
  · rw [hB, ← hN]; rfl
  · rw [hB, ← hN]; exact heap_alloc_new _ _
  · rw [hB, Below.heap_alloc _ _ _ (by omega)]; exact G1.out

def ClearPost (w : World) (r g cap : Nat) (arr : List UInt8) (e : Ending) (w' : World) : Prop :=
  e = .returned (.tuple #[]) ∧ RingAt w' r g cap 0 0 arr ∧ Kept (· = r) w w'

theorem clear_any (w : World) (r g cap f n : Nat) (arr : List UInt8) (h : RingAt w r g cap f n arr) :
    Calls Try.prog 33 #[.pointer (some ⟨r, 0, none⟩)] w (ClearPost w r g cap arr) := by
  have h1 := h.c1
  have h2 := h.c2
  have z1 := h.fz 1
  have z2 := h.fz 2
  have H := Lib.hid h
  clear h
  go_enter Try.func33, Try.ntmps33
  go_wp2
  go_end0
  have r1 := H.out.hr
  refine ⟨rfl, ⟨?_, ?_, H.out.len, H.out.pos, H.out.top, by have := H.out.pos; omega, Nat.zero_le _⟩, ?_⟩
  · rw [heap_setCell_same _ _ _ _ _ _ (heap_setCell_same w r 1 _ _ _ r1)]
    simp
  · have hne := H.out.ne
    rw [heap_setCell_other _ _ _ _ (Ne.symm hne), heap_setCell_other _ _ _ _ (Ne.symm hne)]
    exact H.out.hg
  · exact ((Kept.refl (· = r) w).setCell ⟨r, 1, none⟩ _ (fun _ => rfl)).setCell ⟨r, 2, none⟩ _ (fun _ => rfl)
end Go.Proofs.Ytfkchmkaccjjoaa
