/-
  A cut of a slice of bytes, as one equation with the address written out.
-/
import Derived.Test.YtcfgbdhpcboikaaGreatDoorBase
namespace Go.Proofs.YtcfgbdhpcboikaaGreatDoor
open Go.RowKit
section
variable {P : Program} (T E : TypeId) (ht : P.underlying T = some (.slice E)) (hs : (P.info? E).map (·.size) = some 1) (w : World) (a : Option Addr) (n c l h : Nat)
include ht hs
theorem run_cut_l (h1 : l ≤ n) : (Instr.slice T (.slice a n c) (some (.int .i64 l)) none none).run P w = .ok (.slice (if c = l then a else a.map (·.add l)) (n - l) (c - l)) w := by
  cases hq : P.info? E with
  | none => simp [hq] at hs
  | some i =>
    have hi : i.size = 1 := by simpa [hq] using hs
    simp [Instr.slice, run_underlying ht, Instr.sliceBounds, run_sliceBound, sizeOf, typeInfo, hq, hi, h1]
theorem run_cut_h (h1 : h ≤ c) : (Instr.slice T (.slice a n c) none (some (.int .i64 h)) none).run P w = .ok (.slice a h c) w := by
  cases hq : P.info? E with
  | none => simp [hq] at hs
  | some i =>
    simp [Instr.slice, run_underlying ht, Instr.sliceBounds, run_sliceBound, sizeOf, typeInfo, hq, h1, Addr.add]
theorem run_cut_lh (h1 : l ≤ h) (h2 : h ≤ c) : (Instr.slice T (.slice a n c) (some (.int .i64 l)) (some (.int .i64 h)) none).run P w = .ok (.slice (if c = l then a else a.map (·.add l)) (h - l) (c - l)) w := by
  cases hq : P.info? E with
  | none => simp [hq] at hs
  | some i =>
    have hi : i.size = 1 := by simpa [hq] using hs
    simp [Instr.slice, run_underlying ht, Instr.sliceBounds, run_sliceBound, sizeOf, typeInfo, hq, hi, h1, h2]
end
/-- '[]byte{}'. -/
theorem OwnB.empty (w : World) (base : Nat) (E : TypeId) (h : base ≤ w.heap.size) : OwnB (w.alloc (.cells #[] E)) base E (some ⟨w.heap.size, 0, none⟩) 0 [] :=
  World.ownsRow_made w #[] 0 h (by unfold maxLen; omega) rfl
theorem IsB.same {w w' : World} {a : Option Addr} {bs : List UInt8} (h : IsB w a bs) (hh : w'.heap = w.heap) : IsB w' a bs := by
  intro j b hb
  obtain ⟨x, hx, hc⟩ := h j b hb
  exact ⟨x, hx, by unfold World.cell? at *; rw [hh]; exact hc⟩
end Go.Proofs.YtcfgbdhpcboikaaGreatDoor
