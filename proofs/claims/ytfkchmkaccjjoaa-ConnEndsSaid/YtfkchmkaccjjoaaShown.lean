/-
  The small case that must be in any case (colanderlaw01.shown) returns true.
-/
import Derived.Test.YtfkchmkaccjjoaaRingC
import Derived.Outline
import Derived.Lib.SlBytesConst
namespace Go.Proofs.Ytfkchmkaccjjoaa
open Go.RowKit

theorem RingAt.drewN {w : World} {r g cap f n : Nat} {arr : List UInt8} (h : RingAt w r g cap f n arr) (k : Nat) : RingAt (w.drewN k) r g cap f n arr := ⟨h.hr, h.hg, h.len, h.pos, h.top, h.hf, h.hn⟩
theorem RingAt.kept {S : Nat → Prop} {w w' : World} {r g cap f n : Nat} {arr : List UInt8} (h : RingAt w r g cap f n arr) (k : Kept S w w') (h1 : ¬ S r) (h2 : ¬ S g) : RingAt w' r g cap f n arr :=
  ⟨k.heap h.hr h1, k.heap h.hg h2, h.len, h.pos, h.top, h.hf, h.hn⟩

theorem shown_any (w : World) : Calls Try.prog 7 #[] w fun e w' => e = .returned (.bool true) ∧ Kept (fun _ => False) w w' := by
  have kc := fun (w : World) (C : Array Value) (n c : Nat) => Lib.run_convert_bytes_const (P := Try.prog) w 22 5 C n c Try.underlying22 Try.underlying5
  have ks := fun (w : World) (x : Option Addr) (bs : List UInt8) (n c : Nat) => run_convB (P := Try.prog) w 22 5 9 Try.underlying22 Try.underlying5 Try.underlying9 x bs n c
  have HS := Lib.hid ks
  clear ks
  go_enter Try.func7, Try.ntmps7
  go_wp2_with fail
  refine (new_yes _ 3 (by omega) (by omega)).mono ?_
  rintro e w1 ⟨rfl, R1, K1⟩
  obtain ⟨r, hr⟩ : ∃ r, w.heap.size + 1 = r := ⟨_, rfl⟩
  obtain ⟨g, hg⟩ : ∃ g, w.heap.size = g := ⟨_, rfl⟩
  have lr := (Array.getElem?_eq_some_iff.1 R1.hr).1
  have lg := (Array.getElem?_eq_some_iff.1 R1.hg).1
  rw [hr] at R1 lr
  rw [hg] at R1 lg
  rw [hr]
  have HR1 := Lib.hid R1
  have HK1 := Lib.hid K1
  have l1 : w.heap.size ≤ r := by omega
  have l2 : w.heap.size ≤ g := by omega
  clear R1 K1 hr hg
  go_wp2_with fail
  obtain ⟨w2, hw2⟩ : ∃ w2, w2 = w1.alloc (Obj.cells #[Value.int IntKind.u8 97, Value.int IntKind.u8 98, Value.int IntKind.u8 99, Value.int IntKind.u8 100] 5 (4, 4 + 1)) := ⟨_, rfl⟩
  have R2 : RingAt w2 r g 3 0 0 (List.replicate 3 0) := by
    subst hw2
    exact ⟨by rw [Below.heap_alloc _ _ _ lr]; exact HR1.out.hr, by rw [Below.heap_alloc _ _ _ lg]; exact HR1.out.hg, HR1.out.len, HR1.out.pos, HR1.out.top, HR1.out.hf, HR1.out.hn⟩
  have S2 : IsB w2 (some ⟨w1.heap.size, 0, none⟩) [97, 98, 99, 100] := by
    subst hw2
    exact IsB.of_heap (arr := [97, 98, 99, 100]) (heap_alloc_new _ _) 0
  have K2 : Kept (fun _ => False) w w2 := by subst hw2; exact HK1.out.alloc _
  rw [← hw2]
  clear hw2
  refine (put_any _ r g 3 0 0 3 3 0 3 _ R2 (by omega) _ 4 4 [97, 98, 99, 100] rfl (by omega) (by omega) S2 (fun _ x hx => by cases hx; show ¬ w1.heap.size = g; omega) (by omega) (by omega) (by omega) rfl rfl).mono ?_
  rintro e w3 ⟨rfl, arr', R3, hb, K3⟩
  have hb3 : ringBytes 0 3 arr' = [97, 98, 99] := hb
  have R3' : RingAt w3 r g 3 0 3 arr' := R3
  have K4 : Kept (fun b => b = r ∨ b = g) w w3 := (K2.mono (fun _ _ h => h.elim)).trans K3
  have HR3 := Lib.hid R3'
  have HK4 := Lib.hid K4
  have Hb3 := Lib.hid hb3
  clear R3 R3' K3 K4 hb3 hb R2 S2 K2
  go_wp2_with fail
  refine (take_any _ r g 3 0 3 2 _ arr' HR3.out (by omega)).mono ?_
  rintro e w4 ⟨rfl, hg4, R4, K4⟩
  rw [Hb3.out] at hg4
  have S4 : IsB w4 (some ⟨w3.heap.size, 0, none⟩) [97, 98] := IsB.of_heap (arr := [97, 98]) hg4 0
  have kc4 := HS.out w4 (some ⟨w3.heap.size, 0, none⟩) [97, 98] 2 2 rfl S4
  have K5 : Kept (fun b => b = r ∨ b = g) w w4 := HK4.out.trans' K4 (fun _ _ h => .inl h)
  have R4' : RingAt w4 r g 3 2 1 arr' := R4
  have HR4 := Lib.hid R4'
  have HK5 := Lib.hid K5
  clear hg4 R4 K4 S4 R4' K5
  go_wp2_with fail
  refine (room_any _ r g 3 2 1 2 arr' HR4.out (by omega)).mono ?_
  rintro e w5 ⟨rfl, kk, rfl⟩
  go_wp2_with fail
  refine (len_any _ r g 3 2 1 arr' (HR4.out.drewN kk)).mono ?_
  rintro e w5 ⟨rfl, rfl⟩
  go_wp2_with fail
  refine (new_no _ 0 (by omega)).mono ?_
  rintro e w5 ⟨rfl, rfl⟩
  go_wp2
  go_ret
  exact ⟨rfl, (HK5.out.drewN kk).mono (fun k hk h => by omega)⟩
end Go.Proofs.Ytfkchmkaccjjoaa
