/-
  One call of both rings (colanderlaw01.step): a take, a peek, a clear, or nothing.
-/
import Derived.Test.YtfkchmkaccjjoaaStep
namespace Go.Proofs.Ytfkchmkaccjjoaa
open Go.RowKit

theorem IsRef.keptAt {S : Nat → Prop} {w w' : World} {B c most : Nat} {bs : List UInt8} (h : IsRef w B c most bs) (k : Kept S w w') (h1 : ¬ S c) (h2 : ∀ i, B ≤ i → i < w.heap.size → ¬ S i) : IsRef w' B c most bs := by
  obtain ⟨a, cp, R⟩ := h
  exact ⟨a, cp, k.heap R.hc h1, R.hb.kept k (fun x hx hne => h2 _ (R.far hne x hx) (by have := R.hb; rw [hx] at this; exact this.lt hne)), R.le, R.cp, R.far, R.fits, R.top⟩

set_option maxRecDepth 100000 in
set_option maxHeartbeats 2000000 in
theorem step_take (w : World) (B r g cap c k : Nat) (q : List UInt8) (sec : Bool) (x : Int) (oa : Option Addr) (ol oc : Nat) (hr : IsRing w r g cap q) (hc : IsRef w B c cap q)
    (hk : x < 0 ∧ k = 0 ∨ x = k ∧ k ≤ q.length ∨ (q.length : Int) < x ∧ k = q.length) (hB : B ≤ w.heap.size) (lr : r < B) (lg : g < B) (lc : c < B) (hcr : c ≠ r) (hcg : c ≠ g) :
    Calls Try.prog 14 #[.pointer (some ⟨r, 0, none⟩), .pointer (some ⟨c, 0, none⟩), .agg #[.int .i64 1, .bool sec, .int .i64 x, .slice oa ol oc]] w (StepPost w B r g cap c) := by
  obtain ⟨i0, hi, hz0, hz1, hz2⟩ := info_parts Try.infoE5
  have Hi := Lib.hid hi
  have Hz0 := Lib.hid hz0
  have Hz1 := Lib.hid hz1
  have Hz2 := Lib.hid hz2
  have hfit := hr.fits
  have hkq : k ≤ q.length := by omega
  have Hr := Lib.hid hr
  have Hc := Lib.hid hc
  have Hk := Lib.hid hk
  obtain ⟨N, hN⟩ : ∃ N, w.heap.size = N := ⟨_, rfl⟩
  have HN := Lib.hid hN
  have lBN : B ≤ N := by omega
  clear hi hz0 hz1 hz2 hr hc hk hN
  go_enter Try.func14, Try.ntmps14
  go_upto_region 13 with fail
  obtain ⟨w0, hw0⟩ : ∃ w0, w0 = w.alloc (.cells #[.int .i64 1, .bool sec, .int .i64 x, .slice oa ol oc] 37) := ⟨_, rfl⟩
  rw [← hw0, HN.out]
  have p0 : w0.heap[N]? = some (.cells #[.int .i64 1, .bool sec, .int .i64 x, .slice oa ol oc] 37 (0, 0)) := by rw [hw0, ← HN.out]; exact heap_alloc_new w _
  have k0 : Kept (fun _ => False) w w0 := by rw [hw0]; exact (Kept.refl _ w).alloc _
  have n0 : w0.heap.size = N + 1 := by rw [hw0, ← HN.out]; simp
  clear hw0
  obtain ⟨w1, hw1⟩ : ∃ w1, w1 = w0.alloc (.cells #[] 5) := ⟨_, rfl⟩
  have k1 : Kept (fun _ => False) w0 w1 := by rw [hw1]; exact (Kept.refl _ w0).alloc _
  have n1 : w1.heap.size = N + 2 := by rw [hw1]; simp; omega
  have p1 := k1.heap p0 (fun h => h)
  have c0 : (w0.alloc (.cells #[] 5)).cell? ⟨N, 0, none⟩ = some (.int .i64 1) := by rw [← hw1, cell_of_row w1 N 0 _ _ _ p1]; rfl
  have c2 : (w0.alloc (.cells #[] 5)).cell? ⟨N, 2, none⟩ = some (.int .i64 x) := by rw [← hw1, cell_of_row w1 N 2 _ _ _ p1]; rfl
  have P1 := Lib.hid p1
  have N1 := Lib.hid n1
  have Hw1 := Lib.hid hw1
  have K1 : Hid (Kept (fun _ => False) w w1) := k0.trans k1
  clear p0 k0 n0 hw1 k1 n1 p1
  go_wp2_with fail
  rw [← Hw1.out]
  refine (ring_take w1 r g cap k x q (Hr.out.kept K1.out (fun h => h) (fun h => h)) Hk.out).mono ?_
  rintro e w2 ⟨rfl, _, row2, R2, K2⟩
  rw [N1.out] at row2
  rw [N1.out]
  have K2' := K2
  have K12 : Hid (Kept (fun i => i = r ∨ i = g ∨ i = c) w w2) := (K1.out.mono (fun _ _ h => h.elim)).trans' K2' (fun _ _ h => .inl h)
  have c2' := K2'.cell (show w1.cell? ⟨N, 2, none⟩ = some (.int .i64 x) by rw [cell_of_row w1 N 2 _ _ _ P1.out]; rfl) (show ¬ N = r by omega)
  have C2 : IsRef w2 B c cap q := (Hc.out.kept K1.out (fun h => h) (fun _ _ h => h)).kept K2' hcr (fun i hi => by show ¬ i = r; omega)
  have l2 : N + 2 < w2.heap.size := (Array.getElem?_eq_some_iff.1 row2).1
  have Row2 := Lib.hid row2
  have HR2 : Hid (IsRing w2 r g cap (q.drop k)) := R2
  have HC2 := Lib.hid C2
  clear row2 R2 K2 K2' C2 c2 c0
  go_wp2_with fail
  refine (ref_take w2 B c cap k x q HC2.out Hk.out).mono ?_
  rintro e w3 ⟨x1, c1, rfl, O3, C3, K3⟩
  have K3' := K3
  have row3 := K3'.heap Row2.out (show ¬ N + 2 = c by omega)
  have kl : (q.take k).length = k := by rw [List.length_take]; omega
  have s1 := run_convB (P := Try.prog) w3 22 5 9 Try.underlying22 Try.underlying5 Try.underlying9 x1 (q.take k) k c1 kl O3.isB
  have s2 := run_convB (P := Try.prog) w3 22 5 9 Try.underlying22 Try.underlying5 Try.underlying9 (some ⟨N + 2, 0, none⟩) (q.take k) k k kl (IsB.of_heap (arr := q.take k) row3 0)
  have own : OwnB w3 (N + 2) 5 (some ⟨N + 2, 0, none⟩) k (q.take k) := OwnB.of_heap row3 (Nat.le_refl _) kl (by unfold maxLen; omega)
  have l3 : w2.heap.size ≤ w3.heap.size := K3'.size
  have HK13 : Hid (Kept (fun i => i = r ∨ i = g ∨ i = c) w w3) := K12.out.trans' K3' (fun _ _ h => .inr (.inr h))
  have HR3 : Hid (IsRing w3 r g cap (q.drop k)) := HR2.out.kept K3' (show ¬ r = c by omega) (show ¬ g = c by omega)
  have HC3 : Hid (IsRef w3 w2.heap.size c cap (q.drop k)) := C3
  have Own := Lib.hid own
  have Kl := Lib.hid kl
  clear O3 C3 K3 K3' row3 own kl c2'
  go_wp2_with (at_builtin; go_loud (refine wpList_appendB (by rfl) (.tmp 95) (.tmp 96) 22 (by rfl) (N + 2) 5 i0 Try.underlying22 Hi.out Hz0.out Hz1.out Hz2.out (some ⟨N + 2, 0, none⟩) k k (q.take k) (by rfl) Kl.out (Own.out.kept ((Kept.refl (fun _ => False) w3).alloc _) (fun _ _ h => h)) _ 1 _ [9] (by rfl) rfl (IsB.of_heap (arr := [9]) (heap_alloc_new w3 _) 0) (by omega) (by simp; omega) ?_; intro ia ic w4 O4 K4 hat4; have Hat4 := Lib.hid hat4; clear hat4; have HO4 := Lib.hid O4.out; have HK4 : Hid (Kept (· = N + 2) w3 w4) := ((Kept.refl _ w3).alloc _).trans' K4 (fun i _ e => by simp at e; exact e.symm); clear O4 K4))
  obtain ⟨ib, cur0, rfl, lib, row4, size4, _⟩ := HO4.out.row (List.append_ne_nil_of_right_ne_nil _ (List.cons_ne_nil _ _))
  have icl := HO4.out.cap.1
  have icl2 : k + 1 ≤ ic := by have := Kl.out; rw [List.length_append] at icl; simp at icl; omega
  have Row4 := Lib.hid row4
  have Size4 := Lib.hid size4
  have hat : ib = N + 2 ∨ w3.heap.size ≤ ib := by
    have := Hat4.out _ rfl
    simp at this
    omega
  have HHat := Lib.hid hat
  clear row4 size4 icl s1 s2 hat
  go_loopw [12] (OverRel w4 ib (k + 1) ic) (fun i _ => k + 1 - (intOf i).toNat)
  case atStart => exact ⟨0, _, rfl, Nat.zero_le _, Row4.out, Size4.out, Kept.refl _ _⟩
  case round =>
    obtain ⟨j, cur, rfl, hj, hrow, hcs, K6⟩ := hrel
    have HK6 := Lib.hid K6
    have Hrow := Lib.hid hrow
    have Hcs := Lib.hid hcs
    by_cases hlt : j < k + 1
    · have hjc : j < cur.size := by omega
      have hcell : wr.cell? ⟨ib, j, none⟩ = some cur[j] := by rw [cell_of_row wr ib j _ _ _ hrow]; simp [hjc]
      have hz := frozen_of_row wr ib j _ _ hrow
      have k1 : (0 : Int) ≤ j := by omega
      have k2 : (j : Int) < (k + 1 : Nat) := by omega
      obtain ⟨v, hv⟩ : ∃ v, v = cur[j] := ⟨_, rfl⟩
      rw [← hv] at hcell
      clear K6 hrow hcs hv hjc
      go_wp2
      go_roundw
      case rel => exact ⟨j + 1, _, by simp, by omega, heap_setCell_same _ _ _ _ _ _ Hrow.out, by simp; exact Hcs.out, HK6.out.setCell ⟨ib, j, none⟩ _ (fun _ => rfl)⟩
      case measure => simp [intOf]; omega
    · clear K6 hrow hcs
      go_wp2
      go_ret
      have hNN := HN.out
      refine ⟨rfl, _, (HR3.out.kept HK4.out (show ¬ r = N + 2 by omega) (show ¬ g = N + 2 by omega)).kept HK6.out (show ¬ r = ib by omega) (show ¬ g = ib by omega),
        (HC3.out.keptAt (S := fun i => i = N + 2 ∨ i = ib) ((HK4.out.mono (fun _ _ h => .inl h)).trans' HK6.out (fun _ _ h => .inr h)) (by omega) (fun i hi hi2 => by have := HHat.out; omega)).weaken (by have := K12.out.size; omega), ?_⟩
      exact (HK13.out.trans' HK4.out (fun i hi e => by omega)).trans' HK6.out (fun i hi e => by omega)

set_option maxRecDepth 100000 in
set_option maxHeartbeats 2000000 in
theorem step_peek (w : World) (B r g cap c k : Nat) (q : List UInt8) (sec : Bool) (x : Int) (oa : Option Addr) (ol oc : Nat) (hr : IsRing w r g cap q) (hc : IsRef w B c cap q)
    (hk : x < 0 ∧ k = 0 ∨ x = k ∧ k ≤ q.length ∨ (q.length : Int) < x ∧ k = q.length) (hB : B ≤ w.heap.size) (lr : r < B) (lg : g < B) (lc : c < B) (hcr : c ≠ r) (hcg : c ≠ g) :
    Calls Try.prog 14 #[.pointer (some ⟨r, 0, none⟩), .pointer (some ⟨c, 0, none⟩), .agg #[.int .i64 2, .bool sec, .int .i64 x, .slice oa ol oc]] w (StepPost w B r g cap c) := by
  obtain ⟨i0, hi, hz0, hz1, hz2⟩ := info_parts Try.infoE5
  have Hi := Lib.hid hi
  have Hz0 := Lib.hid hz0
  have Hz1 := Lib.hid hz1
  have Hz2 := Lib.hid hz2
  have hfit := hr.fits
  have hkq : k ≤ q.length := by omega
  have Hr := Lib.hid hr
  have Hc := Lib.hid hc
  have Hk := Lib.hid hk
  obtain ⟨N, hN⟩ : ∃ N, w.heap.size = N := ⟨_, rfl⟩
  have HN := Lib.hid hN
  have lBN : B ≤ N := by omega
  clear hi hz0 hz1 hz2 hr hc hk hN
  go_enter Try.func14, Try.ntmps14
  go_upto_region 13 with fail
  obtain ⟨w0, hw0⟩ : ∃ w0, w0 = w.alloc (.cells #[.int .i64 2, .bool sec, .int .i64 x, .slice oa ol oc] 37) := ⟨_, rfl⟩
  rw [← hw0, HN.out]
  have p0 : w0.heap[N]? = some (.cells #[.int .i64 2, .bool sec, .int .i64 x, .slice oa ol oc] 37 (0, 0)) := by rw [hw0, ← HN.out]; exact heap_alloc_new w _
  have k0 : Kept (fun _ => False) w w0 := by rw [hw0]; exact (Kept.refl _ w).alloc _
  have n0 : w0.heap.size = N + 1 := by rw [hw0, ← HN.out]; simp
  clear hw0
  obtain ⟨w1, hw1⟩ : ∃ w1, w1 = w0.alloc (.cells #[] 5) := ⟨_, rfl⟩
  have k1 : Kept (fun _ => False) w0 w1 := by rw [hw1]; exact (Kept.refl _ w0).alloc _
  have n1 : w1.heap.size = N + 2 := by rw [hw1]; simp; omega
  have p1 := k1.heap p0 (fun h => h)
  have c0 : (w0.alloc (.cells #[] 5)).cell? ⟨N, 0, none⟩ = some (.int .i64 2) := by rw [← hw1, cell_of_row w1 N 0 _ _ _ p1]; rfl
  have c2 : (w0.alloc (.cells #[] 5)).cell? ⟨N, 2, none⟩ = some (.int .i64 x) := by rw [← hw1, cell_of_row w1 N 2 _ _ _ p1]; rfl
  have P1 := Lib.hid p1
  have N1 := Lib.hid n1
  have Hw1 := Lib.hid hw1
  have K1 : Hid (Kept (fun _ => False) w w1) := k0.trans k1
  clear p0 k0 n0 hw1 k1 n1 p1
  go_wp2_with fail
  rw [← Hw1.out]
  refine (ring_peek w1 r g cap k x q (Hr.out.kept K1.out (fun h => h) (fun h => h)) Hk.out).mono ?_
  rintro e w2 ⟨rfl, _, row2, K2⟩
  rw [N1.out] at row2
  rw [N1.out]
  have R2 := (Hr.out.kept K1.out (fun h => h) (fun h => h)).kept K2 (fun h => h) (fun h => h)
  have KP2 : Hid (Kept (fun _ => False) w w2) := K1.out.trans K2
  have K2' : Kept (· = r) w1 w2 := K2.mono (fun _ _ h => h.elim)
  have K12 : Hid (Kept (fun i => i = r ∨ i = g ∨ i = c) w w2) := (K1.out.mono (fun _ _ h => h.elim)).trans' K2' (fun _ _ h => .inl h)
  have c2' := K2'.cell (show w1.cell? ⟨N, 2, none⟩ = some (.int .i64 x) by rw [cell_of_row w1 N 2 _ _ _ P1.out]; rfl) (show ¬ N = r by omega)
  have C2 : IsRef w2 B c cap q := (Hc.out.kept K1.out (fun h => h) (fun _ _ h => h)).kept K2' hcr (fun i hi => by show ¬ i = r; omega)
  have l2 : N + 2 < w2.heap.size := (Array.getElem?_eq_some_iff.1 row2).1
  have Row2 := Lib.hid row2
  have HR2 : Hid (IsRing w2 r g cap q) := R2
  have HC2 := Lib.hid C2
  clear row2 R2 K2 K2' C2 c2 c0
  go_wp2_with fail
  refine (ref_peek w2 B c cap k x q HC2.out Hk.out).mono ?_
  rintro e w3 ⟨x1, c1, rfl, O3, K3⟩
  have C3 : IsRef w3 B c cap q := HC2.out.kept K3 (fun h => h) (fun _ _ h => h)
  have KP3 : Hid (Kept (fun _ => False) w w3) := KP2.out.trans K3
  have K3' : Kept (· = c) w2 w3 := K3.mono (fun _ _ h => h.elim)
  have row3 := K3'.heap Row2.out (show ¬ N + 2 = c by omega)
  have kl : (q.take k).length = k := by rw [List.length_take]; omega
  have s1 := run_convB (P := Try.prog) w3 22 5 9 Try.underlying22 Try.underlying5 Try.underlying9 x1 (q.take k) k c1 kl O3.isB
  have s2 := run_convB (P := Try.prog) w3 22 5 9 Try.underlying22 Try.underlying5 Try.underlying9 (some ⟨N + 2, 0, none⟩) (q.take k) k k kl (IsB.of_heap (arr := q.take k) row3 0)
  have own : OwnB w3 (N + 2) 5 (some ⟨N + 2, 0, none⟩) k (q.take k) := OwnB.of_heap row3 (Nat.le_refl _) kl (by unfold maxLen; omega)
  have l3 : w2.heap.size ≤ w3.heap.size := K3'.size
  have HK13 : Hid (Kept (fun i => i = r ∨ i = g ∨ i = c) w w3) := K12.out.trans' K3' (fun _ _ h => .inr (.inr h))
  have HR3 : Hid (IsRing w3 r g cap q) := HR2.out.kept K3' (show ¬ r = c by omega) (show ¬ g = c by omega)
  have HC3 : Hid (IsRef w3 B c cap q) := C3
  have Own := Lib.hid own
  have Kl := Lib.hid kl
  clear O3 C3 K3 K3' row3 own kl c2'
  go_wp2_with (at_builtin; go_loud (refine wpList_appendB (by rfl) (.tmp 95) (.tmp 96) 22 (by rfl) (N + 2) 5 i0 Try.underlying22 Hi.out Hz0.out Hz1.out Hz2.out (some ⟨N + 2, 0, none⟩) k k (q.take k) (by rfl) Kl.out (Own.out.kept ((Kept.refl (fun _ => False) w3).alloc _) (fun _ _ h => h)) _ 1 _ [9] (by rfl) rfl (IsB.of_heap (arr := [9]) (heap_alloc_new w3 _) 0) (by omega) (by simp; omega) ?_; intro ia ic w4 O4 K4 hat4; have Hat4 := Lib.hid hat4; clear hat4; have HO4 := Lib.hid O4.out; have HK4 : Hid (Kept (· = N + 2) w3 w4) := ((Kept.refl _ w3).alloc _).trans' K4 (fun i _ e => by simp at e; exact e.symm); clear O4 K4))
  obtain ⟨ib, cur0, rfl, lib, row4, size4, _⟩ := HO4.out.row (List.append_ne_nil_of_right_ne_nil _ (List.cons_ne_nil _ _))
  have icl := HO4.out.cap.1
  have icl2 : k + 1 ≤ ic := by have := Kl.out; rw [List.length_append] at icl; simp at icl; omega
  have Row4 := Lib.hid row4
  have Size4 := Lib.hid size4
  have hat : ib = N + 2 ∨ w3.heap.size ≤ ib := by
    have := Hat4.out _ rfl
    simp at this
    omega
  have HHat := Lib.hid hat
  clear row4 size4 icl s1 s2 hat
  go_loopw [12] (OverRel w4 ib (k + 1) ic) (fun i _ => k + 1 - (intOf i).toNat)
  case atStart => exact ⟨0, _, rfl, Nat.zero_le _, Row4.out, Size4.out, Kept.refl _ _⟩
  case round =>
    obtain ⟨j, cur, rfl, hj, hrow, hcs, K6⟩ := hrel
    have HK6 := Lib.hid K6
    have Hrow := Lib.hid hrow
    have Hcs := Lib.hid hcs
    by_cases hlt : j < k + 1
    · have hjc : j < cur.size := by omega
      have hcell : wr.cell? ⟨ib, j, none⟩ = some cur[j] := by rw [cell_of_row wr ib j _ _ _ hrow]; simp [hjc]
      have hz := frozen_of_row wr ib j _ _ hrow
      have k1 : (0 : Int) ≤ j := by omega
      have k2 : (j : Int) < (k + 1 : Nat) := by omega
      obtain ⟨v, hv⟩ : ∃ v, v = cur[j] := ⟨_, rfl⟩
      rw [← hv] at hcell
      clear K6 hrow hcs hv hjc
      go_wp2
      go_roundw
      case rel => exact ⟨j + 1, _, by simp, by omega, heap_setCell_same _ _ _ _ _ _ Hrow.out, by simp; exact Hcs.out, HK6.out.setCell ⟨ib, j, none⟩ _ (fun _ => rfl)⟩
      case measure => simp [intOf]; omega
    · clear K6 hrow hcs
      go_wp2
      go_ret
      have hNN := HN.out
      refine ⟨rfl, _, (HR3.out.kept HK4.out (show ¬ r = N + 2 by omega) (show ¬ g = N + 2 by omega)).kept HK6.out (show ¬ r = ib by omega) (show ¬ g = ib by omega),
        Hc.out.keptAt (S := fun i => i = N + 2 ∨ i = ib) (((KP3.out.mono (fun _ _ h => h.elim)).trans' HK4.out (fun _ _ h => .inl h)).trans' HK6.out (fun _ _ h => .inr h)) (by omega) (fun i hi hi2 => by omega), ?_⟩
      exact (HK13.out.trans' HK4.out (fun i hi e => by omega)).trans' HK6.out (fun i hi e => by omega)

end Go.Proofs.Ytfkchmkaccjjoaa
