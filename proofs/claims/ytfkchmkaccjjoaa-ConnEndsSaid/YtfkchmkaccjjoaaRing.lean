/-
  Contracts of the ring's functions (New, Len, Room, Put, Peek, Take, Clear): the queue's bytes, its room, its place in memory.
-/
import Derived.Test.YtfkchmkaccjjoaaRows
import Derived.Test.YtfkchmkaccjjoaaBase
import Derived.Test.YtfkchmkaccjjoaaPlain
import Derived.Deep.QuietTactic
import Derived.BigQuiet
import Derived.Lib.Hide
import Derived.StillTailTactics
namespace Go.Proofs.Ytfkchmkaccjjoaa
open Go.RowKit

structure RingAt (w : World) (r g cap f n : Nat) (arr : List UInt8) : Prop where
  hr : w.heap[r]? = some (.cells #[.slice (some ⟨g, 0, none⟩) cap cap, .int .i64 f, .int .i64 n] 52 (0, 0))
  hg : w.heap[g]? = some (.cells (arr.map byteV).toArray 5 (0, 0))
  len : arr.length = cap
  pos : 1 ≤ cap
  top : cap ≤ 4096
  hf : f < cap
  hn : n ≤ cap

theorem RingAt.c0 {w : World} {r g cap f n : Nat} {arr : List UInt8} (h : RingAt w r g cap f n arr) : w.cell? ⟨r, 0, none⟩ = some (.slice (some ⟨g, 0, none⟩) cap cap) := by
  rw [cell_of_row w r 0 _ _ _ h.hr]; rfl
theorem RingAt.c1 {w : World} {r g cap f n : Nat} {arr : List UInt8} (h : RingAt w r g cap f n arr) : w.cell? ⟨r, 1, none⟩ = some (.int .i64 f) := by
  rw [cell_of_row w r 1 _ _ _ h.hr]; rfl
theorem RingAt.c2 {w : World} {r g cap f n : Nat} {arr : List UInt8} (h : RingAt w r g cap f n arr) : w.cell? ⟨r, 2, none⟩ = some (.int .i64 n) := by
  rw [cell_of_row w r 2 _ _ _ h.hr]; rfl
theorem RingAt.fz {w : World} {r g cap f n : Nat} {arr : List UInt8} (h : RingAt w r g cap f n arr) (j : Nat) : w.frozen? ⟨r, j, none⟩ = false := frozen_of_row w r j _ _ h.hr

theorem len_any (w : World) (r g cap f n : Nat) (arr : List UInt8) (h : RingAt w r g cap f n arr) :
    Calls Try.prog 9 #[.pointer (some ⟨r, 0, none⟩)] w fun e w' => e = .returned (.int .i64 n) ∧ w = w' := by
  have h2 := h.c2
  clear h
  go_enter Try.func9, Try.ntmps9
  go_wp2
  go_ret
  exact ⟨rfl, rfl⟩

theorem room_any (w : World) (r g cap f n m : Nat) (arr : List UInt8) (h : RingAt w r g cap f n arr) (hm : n + m = cap) :
    Calls Try.prog 11 #[.pointer (some ⟨r, 0, none⟩)] w fun e w' => e = .returned (.int .i64 m) ∧ ∃ k, w' = w.drewN k := by
  have h2 := h.c2
  have h0 := h.c0
  have b1 := h.hn
  have b2 := h.top
  have H : (cap : Int) - n = m := by omega
  clear h hm
  go_enter Try.func11, Try.ntmps11
  go_wp2_with fail
  go_quiet (fail)
  go_wp2
  go_ret
  exact ⟨rfl, _, rfl⟩

theorem Try.info5 : (Try.prog.info? 5).map (·.size) = some 1 := by kernel_rfl


theorem RingAt.ne {w : World} {r g cap f n : Nat} {arr : List UInt8} (h : RingAt w r g cap f n arr) : r ≠ g := by
  intro e
  have h1 := h.hr
  rw [e, h.hg] at h1
  simp at h1

def PutPost (w : World) (r g cap f n k : Nat) (bs arr : List UInt8) (e : Ending) (w' : World) : Prop :=
  e = .returned (.int .i64 k) ∧ ∃ arr', RingAt w' r g cap f (n + k) arr' ∧ ringBytes f (n + k) arr' = ringBytes f n arr ++ bs.take k ∧ Kept (fun b => b = r ∨ b = g) w w'

set_option maxHeartbeats 1000000 in
theorem put_any (w : World) (r g cap f n m k at_ k1 : Nat) (arr : List UInt8) (h : RingAt w r g cap f n arr) (hm : n + m = cap) (ba : Option Addr) (bl bc : Nat) (bs : List UInt8) (hl : bs.length = bl) (hb : bl ≤ bc) (hb2 : bc ≤ 9223372036854775807)
    (hsrc : IsB w ba bs) (hap : bs ≠ [] → ∀ x, ba = some x → x.block ≠ g)
    (hkb : k ≤ bl) (hkm : k ≤ m) (hk : k = bl ∧ bl ≤ m ∨ k = m ∧ m < bl) (hat : at_ = (f + n) % cap) (hk1 : k1 = min k (cap - at_)) :
    Calls Try.prog 10 #[.pointer (some ⟨r, 0, none⟩), .slice ba bl bc] w (PutPost w r g cap f n k bs arr) := by
  have h2 := h.c2
  have h1 := h.c1
  have h0 := h.c0
  have b2 := h.top
  have b4 := h.hf
  have hne := h.ne
  have e1 : ((f : Int) + n) % cap = at_ := by
    subst hat; rw [← Int.natCast_add, Int.natCast_emod]
  have hatc : at_ < cap := by subst hat; exact Nat.mod_lt _ (by omega)
  have H := Lib.hid h
  have Hm := Lib.hid hm
  have Hat := Lib.hid hat
  have Hl := Lib.hid hl
  have Hk1 := Lib.hid hk1
  have Hsrc := Lib.hid hsrc
  have Hap := Lib.hid hap
  have b3 : n + m ≤ cap := by omega
  have b5 := h.pos
  have i0 : k1 ≤ k := by omega
  have i0' : k1 ≤ cap - at_ := by omega
  have i1 : (0 : Int) ≤ at_ := by omega
  have i2 : (at_ : Int) ≤ cap := by omega
  have i3 : (0 : Int) ≤ k := by omega
  have i4 : (k : Int) ≤ bc := by omega
  have i5 : (0 : Int) ≤ k1 := by omega
  have i6 : (k1 : Int) ≤ k := by omega
  have i7 : (k1 : Int) ≤ bc := by omega
  have Hne := Lib.hid hne
  clear h hm hat hl hsrc hap hk1 hne
  rcases hk with ⟨rfl, hk2⟩ | ⟨rfl, hk2⟩
  all_goals
    go_enter Try.func10, Try.ntmps10
    go_wp2_with (go_at_call 11; refine (room_any _ _ _ _ _ _ _ _ H.out Hm.out).mono ?_; rintro e w' ⟨rfl, kk, rfl⟩)
    go_quiet (fail)
    go_wp2
    refine region_tail 9 (by kernel_rfl) (by kernel_rfl) ?_
    simp only [List.take_succ_cons, List.take_zero, List.drop_succ_cons, List.drop_zero]
    repeat still_step
    refine wpStill_nil ?_
    refine wpList_copyB (by rfl) (.tmp 33) (.tmp 36) 22 22 (by rfl) 5 Try.underlying22 Try.info5 _ _ _ _ _ _ (by rfl) (by rfl) g at_ arr ?c1 (bs.take k1) k1 ?c2 ?c3 ?c4 ?c5 ?c6 ?_
    case c1 => exact H.out.hg
    case c2 => have := Hl.out; rw [List.length_take]; omega
    case c3 => exact Hk1.out
    case c4 => intro hp; rw [if_neg (by omega)]
    case c5 => exact Hsrc.out.take k1
    case c6 => have := H.out.len; omega
    intro w1 G1 K1
    have h0' := K1.cell (show (((w.drewN kk).drewN nq).drewN 1).cell? _ = _ from h0) Hne.out
    have h2' := K1.cell (show (((w.drewN kk).drewN nq).drewN 1).cell? _ = _ from h2) Hne.out
    have S1 := (Hsrc.out.kept (w' := ((w.drewN kk).drewN nq).drewN 1) (S := fun _ => False) ⟨rfl, rfl, rfl, Nat.le_refl _, fun _ _ _ => rfl⟩ (fun _ _ _ h => h)).kept K1 (fun x hx he => Hap.out he x hx)
    have K0 : Kept (fun b => b = r ∨ b = g) w w1 := (Kept.mono (S := (· = g)) (a := w) ⟨K1.os, K1.tape, K1.output, K1.size, K1.block⟩ (fun _ _ h => .inr h))
    have r1 : w1.heap[r]? = some (.cells #[.slice (some ⟨g, 0, none⟩) cap cap, .int .i64 f, .int .i64 n] 52 (0, 0)) := (K1.block r (by exact (Array.getElem?_eq_some_iff.1 H.out.hr).1) Hne.out).trans H.out.hr
    have R1 := Lib.hid r1
    have HS1 := Lib.hid S1
    clear K1 h0 h1 h2 S1 r1
    go_wp2
    refine region_tail 8 (by kernel_rfl) (by kernel_rfl) ?_
    simp only [List.take_succ_cons, List.take_zero, List.drop_succ_cons, List.drop_zero]
    repeat still_step
    refine wpStill_nil ?_
    refine wpList_copyB (by rfl) (.tmp 41) (.tmp 45) 22 22 (by rfl) 5 Try.underlying22 Try.info5 _ _ _ _ _ _ (by rfl) (by rfl) g 0 (splice arr at_ (bs.take k1)) ?d1 ((bs.drop k1).take (k - k1)) (k - k1) ?d2 ?d3 ?d4 ?d5 ?d6 ?_
    case d1 => exact G1.out
    case d2 => have := Hl.out; rw [List.length_take, List.length_drop]; omega
    case d3 => show _ = min _ _; omega
    case d4 => intro hp; rfl
    case d5 =>
      have A : (bs.drop k1).take (k - k1) = (bs.take k).drop k1 := by rw [List.drop_take]
      rw [A]
      exact ((HS1.out.kept (w' := w1.drewN 1) (S := fun _ => False) ⟨rfl, rfl, rfl, Nat.le_refl _, fun _ _ _ => rfl⟩ (fun _ _ _ h => h)).take k).cut k1 bc (by rw [List.length_take]; omega)
    case d6 => have := H.out.len; have := Hl.out; rw [length_splice _ _ _ (by rw [List.length_take]; omega)]; omega
    intro w2 G2 K2
    have h2 := K2.cell (show (w1.drewN 1).cell? _ = _ from h2') Hne.out
    have r2 : w2.heap[r]? = some (.cells #[.slice (some ⟨g, 0, none⟩) cap cap, .int .i64 f, .int .i64 n] 52 (0, 0)) := (K2.block r (by exact (Array.getElem?_eq_some_iff.1 R1.out).1) Hne.out).trans R1.out
    have z2 := frozen_of_row w2 r 2 _ _ r2
    have K3 : Kept (fun b => b = r ∨ b = g) w w2 := K0.trans (Kept.mono (S := (· = g)) (a := w1) ⟨K2.os, K2.tape, K2.output, K2.size, K2.block⟩ (fun _ _ h => .inr h))
    have R2 := Lib.hid r2
    clear K2 h0' h2' K0 r2
    go_wp2
    all_goals
      go_ret
      refine ⟨rfl, _, ⟨?_, ?_, ?_, H.out.pos, H.out.top, H.out.hf, by omega⟩, put_bytes f n k k1 at_ cap arr bs H.out.len b4 (by omega) (by have := Hl.out; omega) Hat.out Hk1.out, K3.setCell _ _ (fun _ => .inl rfl)⟩
      · rw [heap_setCell_same _ _ _ _ _ _ R2.out]; simp
      · rw [heap_setCell_other _ _ _ _ (Ne.symm Hne.out)]; exact G2.out
      · have := H.out.len; have := Hl.out
        rw [length_splice, length_splice]
        · omega
        · rw [List.length_take]; omega
        · rw [length_splice _ _ _ (by rw [List.length_take]; omega), List.length_take, List.length_drop]; omega
end Go.Proofs.Ytfkchmkaccjjoaa
