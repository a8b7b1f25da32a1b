/-
  Contracts of the ring's functions, the second part: Peek, Take, Clear, New.
-/
import Derived.Test.YtfkchmkaccjjoaaRing
import Derived.Test.YtfkchmkaccjjoaaTail
namespace Go.Proofs.Ytfkchmkaccjjoaa
open Go.RowKit

theorem Try.infoE5 : (Try.prog.info? 5).map (fun i => (i.zero, i.size, i.bytes)) = some (some (.int .u8 0), 1, 1) := by kernel_rfl

def PeekPost (w : World) (f n k : Nat) (arr : List UInt8) (e : Ending) (w' : World) : Prop :=
  e = .returned (.slice (some ⟨w.heap.size, 0, none⟩) k k) ∧ w'.heap[w.heap.size]? = some (.cells (((ringBytes f n arr).take k).map byteV).toArray 5 (0, 0)) ∧ Kept (fun _ => False) w w'

set_option maxHeartbeats 1000000 in
theorem peek_any (w : World) (r g cap f n k k1 : Nat) (x : Int) (arr : List UInt8) (h : RingAt w r g cap f n arr)
    (hk : x < 0 ∧ k = 0 ∨ x = k ∧ k ≤ n ∨ (n : Int) < x ∧ k = n) (hk1 : k1 = min (cap - f) k) :
    Calls Try.prog 15 #[.pointer (some ⟨r, 0, none⟩), .int .i64 x] w (PeekPost w f n k arr) := by
  have h2 := h.c2
  have h1 := h.c1
  have h0 := h.c0
  have b2 := h.top
  have b4 := h.hf
  have bn := h.hn
  have lr := (Array.getElem?_eq_some_iff.1 h.hr).1
  have lg := (Array.getElem?_eq_some_iff.1 h.hg).1
  have H := Lib.hid h
  have Hk1 := Lib.hid hk1
  have i1 : (0 : Int) ≤ f := by omega
  have i2 : (f : Int) ≤ cap := by omega
  have i3 : (0 : Int) ≤ k1 := by omega
  have i4 : k1 ≤ k := by omega
  have i5 : (k1 : Int) ≤ k := by omega
  have i6 : k ≤ n := by omega
  obtain ⟨B, hB⟩ : ∃ B, w.heap.size = B := ⟨_, rfl⟩
  have HB := Lib.hid hB
  have lr' : r < B := by omega
  have lg' : g < B := by omega
  obtain ⟨i0, hi, hz0, hz1, hz2⟩ := info_parts Try.infoE5
  have Hi := Lib.hid hi
  have Hz0 := Lib.hid hz0
  have Hz1 := Lib.hid hz1
  have Hz2 := Lib.hid hz2
  clear h hk1 hB hi hz0 hz1 hz2 lr lg
  rcases hk with ⟨hx, hk0⟩ | ⟨rfl, hk0⟩ | ⟨hx, hk0⟩
  all_goals
    have Hk0 := Lib.hid hk0
    clear hk0
    go_enter Try.func15, Try.ntmps15
    go_wp2_with (at_make; go_loud (refine wpList_makeB (by rfl) (.tmp 14) (.tmp 14) 22 (by rfl) 5 i0 Try.underlying22 Hi.out Hz0.out Hz1.out Hz2.out _ _ _ _ k (by rfl) (by rfl) (by have := Hk0.out; omega) (by have := Hk0.out; omega) (by omega) B (by exact HB.out) ?_; intro w1 G1 N1 K1))
    have lw1 : w.heap.size ≤ w1.heap.size := K1.size
    have h0' := K1.cell h0 (fun h => h)
    have h1' := K1.cell h1 (fun h => h)
    have g1 := K1.heap H.out.hg (fun h => h)
    have g1r := K1.heap H.out.hr (fun h => h)
    have HG1 := Lib.hid g1
    have HG1r := Lib.hid g1r
    clear h0 h1 h2 g1 g1r
    refine region_tail 10 (by kernel_rfl) (by kernel_rfl) ?_
    simp only [List.take_succ_cons, List.take_zero, List.drop_succ_cons, List.drop_zero]
    repeat still_step
    refine wpStill_nil ?_
    refine wpList_copyB (by rfl) (.tmp 16) (.tmp 25) 22 22 (by rfl) 5 Try.underlying22 Try.info5 _ _ _ _ _ _ (by rfl) (by rfl) B 0 (List.replicate k 0) ?c1 ((arr.drop f).take k1) k1 ?c2 ?c3 ?c4 ?c5 ?c6 ?_
    case c1 => exact G1.out
    case c2 => have := H.out.len; have := Hk1.out; rw [List.length_take, List.length_drop]; omega
    case c3 => exact Hk1.out
    case c4 => intro hp; rfl
    case c5 =>
      rw [if_neg (by omega)]
      exact (IsB.of_heap (w := w1.drewN 1) (arr := arr) HG1.out f).take k1
    case c6 => simp; omega
    intro w2 G2 K2
    have h0 := K2.cell (show (w1.drewN 1).cell? _ = _ from h0') (by show ¬ r = B; omega)
    have g2 := K2.heap (show (w1.drewN 1).heap[g]? = _ from HG1.out) (by omega)
    have HG2 := Lib.hid g2
    have K3 : Kept (fun _ => False) w w2 := K1.trans' (S' := (· = B)) ⟨K2.os, K2.tape, K2.output, K2.size, K2.block⟩ (fun i hi e => by have := HB.out; omega)
    clear K2 K1 h0' h1' g2
    go_wp2
    refine region_tail 7 (by kernel_rfl) (by kernel_rfl) ?_
    simp only [List.take_succ_cons, List.take_zero, List.drop_succ_cons, List.drop_zero]
    repeat still_step
    refine wpStill_nil ?_
    refine wpList_copyB (by rfl) (.tmp 29) (.tmp 33) 22 22 (by rfl) 5 Try.underlying22 Try.info5 _ _ _ _ _ _ (by rfl) (by rfl) B k1 (splice (List.replicate k 0) 0 ((arr.drop f).take k1)) ?d1 (arr.take (k - k1)) (k - k1) ?d2 ?d3 ?d4 ?d5 ?d6 ?_
    case d1 => exact G2.out
    case d2 => have := H.out.len; rw [List.length_take]; omega
    case d3 => show _ = min _ _; omega
    case d4 => intro hp; rw [if_neg (by omega)]
    case d5 => exact (IsB.of_heap (w := w2.drewN 1) (arr := arr) HG2.out 0).take _
    case d6 => have := H.out.len; rw [length_splice _ _ _ (by simp; omega)]; simp; omega
    intro w3 G3 K4
    have K5 : Kept (fun _ => False) w w3 := K3.trans' (S' := (· = B)) ⟨K4.os, K4.tape, K4.output, K4.size, K4.block⟩ (fun i hi e => by have := HB.out; omega)
    have G4 := G3.out
    rw [peek_bytes f n k k1 cap arr _ H.out.len b4 bn i6 Hk1.out (by simp)] at G4
    have HG4 := Lib.hid G4
    clear K4 K3 h0 G4
    go_wp2
    all_goals
      go_ret
      have hB := HB.out
      have G4 := HG4.out
      refine ⟨by rw [hB]; rfl, ?_, K5⟩
      rw [hB]
      first
        | exact G4
        | (have e : k = k1 := by assumption
           rw [e] at G4
           exact G4)

def TakePost (w : World) (r g cap f n k : Nat) (arr : List UInt8) (e : Ending) (w' : World) : Prop :=
  e = .returned (.slice (some ⟨w.heap.size, 0, none⟩) k k) ∧ w'.heap[w.heap.size]? = some (.cells (((ringBytes f n arr).take k).map byteV).toArray 5 (0, 0)) ∧
    RingAt w' r g cap ((f + k) % cap) (n - k) arr ∧ Kept (· = r) w w'

set_option maxHeartbeats 1000000 in
theorem take_any (w : World) (r g cap f n k : Nat) (x : Int) (arr : List UInt8) (h : RingAt w r g cap f n arr)
    (hk : x < 0 ∧ k = 0 ∨ x = k ∧ k ≤ n ∨ (n : Int) < x ∧ k = n) :
    Calls Try.prog 12 #[.pointer (some ⟨r, 0, none⟩), .int .i64 x] w (TakePost w r g cap f n k arr) := by
  have b2 := h.top
  have b4 := h.hf
  have bn := h.hn
  have b1 := h.pos
  have lr := (Array.getElem?_eq_some_iff.1 h.hr).1
  have lg := (Array.getElem?_eq_some_iff.1 h.hg).1
  have i6 : k ≤ n := by omega
  have H := Lib.hid h
  have Hk := Lib.hid hk
  obtain ⟨B, hB⟩ : ∃ B, w.heap.size = B := ⟨_, rfl⟩
  have HB := Lib.hid hB
  have lr' : r < B := by omega
  have lg' : g < B := by omega
  obtain ⟨f', hf'⟩ : ∃ f', f' = (f + k) % cap := ⟨_, rfl⟩
  have e1 : ((f : Int) + k) % cap = f' := by
    subst hf'; rw [← Int.natCast_add, Int.natCast_emod]
  have Hf' := Lib.hid hf'
  have lf' : f' < cap := by subst hf'; exact Nat.mod_lt _ (by omega)
  clear h hk hB lr lg hf'
  go_enter Try.func12, Try.ntmps12
  go_wp2_with (go_at_call 15; refine (peek_any _ _ _ _ _ _ _ _ _ _ H.out Hk.out rfl).mono ?_; rintro e w1 ⟨rfl, hg1, K1⟩; rw [HB.out]; have G1 := Lib.hid hg1; have KK1 := Lib.hid K1; clear hg1 K1)
  have K1 := KK1.out
  have h0 := K1.cell H.out.c0 (fun h => h)
  have h1 := K1.cell H.out.c1 (fun h => h)
  have h2 := K1.cell H.out.c2 (fun h => h)
  have g1 := K1.heap H.out.hg (fun h => h)
  have r1 := K1.heap H.out.hr (fun h => h)
  have z1 := frozen_of_row w1 r 1 _ _ r1
  have z2 := frozen_of_row w1 r 2 _ _ r1
  have HG1 := Lib.hid g1
  have HR1 := Lib.hid r1
  clear g1 r1 K1
  refine region_qtail 16 (by kernel_rfl) (by kernel_rfl) ?_
  simp only [List.take_succ_cons, List.take_zero, List.drop_succ_cons, List.drop_zero]
  repeat (go_big_quiet_step (fail))
  refine wpQuiet_nil ?_
  intro w2 hw2
  obtain ⟨nq, hw2⟩ := hw2
  subst hw2
  go_wp2
  have hne := H.out.ne
  have r1 := HR1.out
  have g1 := HG1.out
  have hn : (n : Int) - k = (n - k : Nat) := by omega
  have hB := HB.out
  rw [hn]
  go_ret
  refine ⟨by rw [hB]; rfl, ?_, ⟨?_, ?_, H.out.len, b1, b2, by rw [← Hf'.out]; exact lf', by omega⟩, ?_⟩
  · rw [heap_setCell_other _ _ _ _ (by show ¬ _ = r; omega), heap_setCell_other _ _ _ _ (by show ¬ _ = r; omega)]
    exact G1.out
  · rw [heap_setCell_same _ _ _ _ _ _ (heap_setCell_same (w1.drewN nq) r 1 _ _ _ r1), ← Hf'.out]
    simp
  · rw [heap_setCell_other _ _ _ _ (by show ¬ g = r; omega), heap_setCell_other _ _ _ _ (by show ¬ g = r; omega)]
    exact g1
  · have hk : Kept (· = r) w (w1.drewN nq) := (KK1.out.mono (fun _ _ h => h.elim)).drewN nq
    exact (hk.setCell ⟨r, 1, none⟩ _ (fun _ => rfl)).setCell ⟨r, 2, none⟩ _ (fun _ => rfl)
end Go.Proofs.Ytfkchmkaccjjoaa
