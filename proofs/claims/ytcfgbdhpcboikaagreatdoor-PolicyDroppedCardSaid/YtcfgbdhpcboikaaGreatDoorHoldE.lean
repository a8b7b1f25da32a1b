/-
  policy.heads of the one meta; Holds of the least pages.
-/
import Derived.Test.YtcfgbdhpcboikaaGreatDoorHoldD
namespace Go.Proofs.YtcfgbdhpcboikaaGreatDoor
open Go.RowKit

def Two (w : World) (g o : Nat) (c0 c1 : Value) : Prop := w.cell? ⟨g, o, none⟩ = some c0 ∧ w.cell? ⟨g, o + 1, none⟩ = some c1
theorem Two.below {w w' : World} {g o B : Nat} {c0 c1 : Value} (h : Two w g o c0 c1) (hb : Below B w w') (hB : w.heap.size ≤ B) : Two w' g o c0 c1 := by
  have hg : g < B := Nat.lt_of_lt_of_le (World.block_lt_of_cell? w _ h.1) hB
  exact ⟨by rw [hb.cell (p := ⟨g, _, none⟩) hg]; exact h.1, by rw [hb.cell (p := ⟨g, _, none⟩) hg]; exact h.2⟩
set_option maxRecDepth 100000 in
set_option maxHeartbeats 1000000 in
theorem equal_one (g1 o1 c1 g2 o2 c2 : Nat) (w : World) (h1 : Two w g1 o1 (.string ⟨#[99, 104, 97, 114, 115, 101, 116]⟩) (.string ⟨#[117, 116, 102, 45, 56]⟩)) (h2 : Two w g2 o2 (.string ⟨#[99, 104, 97, 114, 115, 101, 116]⟩) (.string ⟨#[117, 116, 102, 45, 56]⟩)) :
    Calls Tryz.prog 150 #[.slice (some ⟨g1, o1, none⟩) 1 c1, .slice (some ⟨g2, o2, none⟩) 1 c2] w (SomeBool true w) := by
  obtain ⟨x0, x1⟩ := h1
  obtain ⟨y0, y1⟩ := h2
  go_enter Tryz.func150, Tryz.ntmps150
  go_wp2
  refine wp_loop_rounds 2 ?_
  rw [rounds_succ]
  go_wp2
  go_quiet (fail)
  go_wp2
  rw [rounds_succ]
  go_wp2
  go_ret
  exact ⟨rfl, below_drewNm w nq⟩
set_option maxRecDepth 100000 in
set_option maxHeartbeats 1000000 in
theorem heads_one (g off c ga oa ca : Nat) (w : World) (hx : Six w g off (.int .i64 1) (.int .i64 0) (.string ⟨#[109, 101, 116, 97]⟩) (.slice (some ⟨ga, oa, none⟩) 1 ca) (.string ⟨#[]⟩) (.slice none 0 0))
    (hy : Two w ga oa (.string ⟨#[99, 104, 97, 114, 115, 101, 116]⟩) (.string ⟨#[117, 116, 102, 45, 56]⟩)) :
    Calls Tryz.prog 91 #[.slice (some ⟨g, off, none⟩) 1 c] w (SomeBool true w) := by
  have HY := Lib.hid hy
  obtain ⟨x0, x1, x2, x3, x4, x5⟩ := hx
  clear hy
  go_enter Tryz.func91, Tryz.ntmps91
  go_wp2_with fail
  have hS0 := six_alloc w (.int .i64 1) (.int .i64 0) (.string ⟨#[109, 101, 116, 97]⟩) (.slice (some ⟨ga, oa, none⟩) 1 ca) (.string ⟨#[]⟩) (.slice none 0 0)
  have hB3 : Below w.heap.size w (w.alloc (.cells #[.int .i64 1, .int .i64 0, .string ⟨#[109, 101, 116, 97]⟩, .slice (some ⟨ga, oa, none⟩) 1 ca, .string ⟨#[]⟩, .slice none 0 0] 45)) := (Below.refl _ w).alloc (Nat.le_refl _) _
  refine (elem_yes ⟨#[109, 101, 116, 97]⟩ (.slice (some ⟨ga, oa, none⟩) 1 ca) (.slice none 0 0) _).mono ?_
  rintro e W3 ⟨rfl, B3⟩
  have hB3' := hB3.trans (B3.mono (by simp))
  have hS3 := hS0.below B3 (Nat.le_refl _)
  have k2 : W3.cell? ⟨w.heap.size, 2, none⟩ = some (.string ⟨#[109, 101, 116, 97]⟩) := hS3.x2
  have k3 : W3.cell? ⟨w.heap.size, 3, none⟩ = some (.slice (some ⟨ga, oa, none⟩) 1 ca) := hS3.x3
  have k5 : W3.cell? ⟨w.heap.size, 5, none⟩ = some (.slice none 0 0) := hS3.x5
  have HB3 := Lib.hid hB3'
  clear hS0 hB3 B3 hB3' hS3 x0 x1 x2 x3 x4 x5
  go_wp2_with fail
  have hB4 : Below W3.heap.size W3 (W3.alloc (.cells #[.string ⟨#[99, 104, 97, 114, 115, 101, 116]⟩, .string ⟨#[117, 116, 102, 45, 56]⟩] 39)) := (Below.refl _ W3).alloc (Nat.le_refl _) _
  have hT2 : Two (W3.alloc (.cells #[.string ⟨#[99, 104, 97, 114, 115, 101, 116]⟩, .string ⟨#[117, 116, 102, 45, 56]⟩] 39)) W3.heap.size 0 (.string ⟨#[99, 104, 97, 114, 115, 101, 116]⟩) (.string ⟨#[117, 116, 102, 45, 56]⟩) :=
    ⟨cell_of_row _ W3.heap.size 0 _ 39 (0, 0) (heap_alloc_new W3 _), cell_of_row _ W3.heap.size 1 _ 39 (0, 0) (heap_alloc_new W3 _)⟩
  refine (equal_one ga oa ca W3.heap.size 0 1 _ ((HY.out.below HB3.out (Nat.le_refl _)).below hB4 (Nat.le_refl _)) hT2).mono ?_
  unfold SomeBool
  rintro e W5 ⟨rfl, B5⟩
  have HB5 := Lib.hid (HB3.out.trans ((hB4.trans (B5.mono (by simp))).mono HB3.out.size))
  clear hB4 hT2 B5
  go_wp2
  go_ret
  exact ⟨rfl, HB5.out⟩
end Go.Proofs.YtcfgbdhpcboikaaGreatDoor
