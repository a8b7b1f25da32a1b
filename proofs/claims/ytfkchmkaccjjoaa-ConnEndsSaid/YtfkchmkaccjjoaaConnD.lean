/-
  Contracts of the connection's functions: New; the small case (colanderlaw22.shown).
-/
import Derived.Test.YtfkchmkaccjjoaaConnC
namespace Go.Proofs.Ytfkchmkaccjjoaa
open Go.RowKit

theorem connNew_no (w : World) (x y : Int) (h : (x < 1 ∨ 4096 < x) ∨ (y < 1 ∨ 4096 < y)) :
    Calls Try.prog 17 #[.int .i64 x, .int .i64 y] w fun e w' => e = .returned (.pointer none) ∧ Kept (fun _ => False) w w' := by
  have H := Lib.hid h
  clear h
  by_cases h1 : x < 1 ∨ 4096 < x
  · have H1 := Lib.hid h1
    clear h1
    by_cases h2 : y < 1 ∨ 4096 < y
    · have H2 := Lib.hid h2
      clear h2
      go_enter Try.func17, Try.ntmps17
      go_wp2_with fail
      refine (new_no _ _ H1.out).mono ?_
      rintro e w1 ⟨rfl, rfl⟩
      go_wp2_with fail
      refine (new_no _ _ H2.out).mono ?_
      rintro e w2 ⟨rfl, rfl⟩
      go_wp2
      go_ret
      exact ⟨rfl, (Kept.refl _ _).alloc _⟩
    · obtain ⟨m, rfl⟩ := Int.eq_ofNat_of_zero_le (show 0 ≤ y by omega)
      have i1 : 1 ≤ m := by omega
      have i2 : m ≤ 4096 := by omega
      clear h2
      go_enter Try.func17, Try.ntmps17
      go_wp2_with fail
      refine (new_no _ _ H1.out).mono ?_
      rintro e w1 ⟨rfl, rfl⟩
      go_wp2_with fail
      refine (ring_new _ m i1 i2).mono ?_
      rintro e w2 ⟨r, g, rfl, _, _, _, K2⟩
      have HK2 := Lib.hid K2
      clear K2
      go_wp2
      go_ret
      exact ⟨rfl, HK2.out.alloc _⟩
  · obtain ⟨m, rfl⟩ := Int.eq_ofNat_of_zero_le (show 0 ≤ x by omega)
    have H2 : Hid (y < 1 ∨ 4096 < y) := by
      have := H.out
      show _ ∨ _
      omega
    have i1 : 1 ≤ m := by omega
    have i2 : m ≤ 4096 := by omega
    clear h1
    go_enter Try.func17, Try.ntmps17
    go_wp2_with fail
    refine (ring_new _ m i1 i2).mono ?_
    rintro e w2 ⟨r, g, rfl, _, _, _, K2⟩
    have HK2 := Lib.hid K2
    clear K2
    go_wp2_with fail
    refine (new_no _ _ H2.out).mono ?_
    rintro e w3 ⟨rfl, rfl⟩
    go_wp2
    go_ret
    exact ⟨rfl, HK2.out.alloc _⟩

def CNewPost (w : World) (x y : Nat) (e : Ending) (w' : World) : Prop :=
  ∃ p : Pl, e = .returned (.pointer (some ⟨p.c, 0, none⟩)) ∧ p.mi = x ∧ p.mo = y ∧ p.B = w.heap.size ∧ p.M = w'.heap.size ∧ (∀ L, w'.heap.size ≤ L → ConnAt w' p L none 0 [] [] [] 0 false) ∧ Kept (fun _ => False) w w'

theorem connNew_yes (w : World) (x y : Nat) (h1 : 1 ≤ x) (h2 : x ≤ 4096) (h3 : 1 ≤ y) (h4 : y ≤ 4096) :
    Calls Try.prog 17 #[.int .i64 x, .int .i64 y] w (CNewPost w x y) := by
  go_enter Try.func17, Try.ntmps17
  go_wp2_with fail
  refine (ring_new _ x h1 h2).mono ?_
  rintro e w1 ⟨r1, g1, rfl, R1, lr1, lg1, K1⟩
  have HR1 := Lib.hid R1
  have HK1 := Lib.hid K1
  have lt1 := Lib.hid R1.lt
  clear R1 K1
  go_wp2_with fail
  refine (ring_new _ y h3 h4).mono ?_
  rintro e w2 ⟨r2, g2, rfl, R2, lr2, lg2, K2⟩
  have HR2 := Lib.hid R2
  have HK2 := Lib.hid K2
  have lt2 := Lib.hid R2.lt
  clear R2 K2
  go_wp2
  go_ret
  have K3 : Kept (fun _ => False) w2 (w2.alloc (.cells #[.pointer (some ⟨r1, 0, none⟩), .pointer (some ⟨r2, 0, none⟩), .int .i64 0, .bool false, .slice none 0 0] 54)) := (Kept.refl _ w2).alloc _
  have s1 := HK1.out.size
  have s2 := HK2.out.size
  have a1 := lt1.out
  have a2 := lt2.out
  have n1 := HR1.out.ne
  have n2 := HR2.out.ne
  refine ⟨⟨w.heap.size, w2.heap.size + 1, w2.heap.size, r1, g1, x, r2, g2, y⟩, rfl, rfl, rfl, rfl, by simp, fun L hL => ⟨⟨by simp only []; omega, by simp only []; omega, by simp only []; omega⟩, ?_, ?_, ?_, OwnB.nil _ _ _, by simp at hL; exact hL⟩, (HK1.out.trans HK2.out).trans K3⟩
  · exact heap_alloc_new _ _
  · exact (HR1.out.kept HK2.out (fun h => h) (fun h => h)).kept K3 (fun h => h) (fun h => h)
  · exact HR2.out.kept K3 (fun h => h) (fun h => h)
end Go.Proofs.Ytfkchmkaccjjoaa
