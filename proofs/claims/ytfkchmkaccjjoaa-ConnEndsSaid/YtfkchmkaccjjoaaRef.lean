/-
  The document's ring (colanderref01): Right, Put, Peek, Take.
-/
import Derived.Test.YtfkchmkaccjjoaaRingD
import Derived.Test.YtfkchmkaccjjoaaCut
import Derived.Test.YtfkchmkaccjjoaaSched
import Derived.BigQuiet
import Derived.Outline
namespace Go.Proofs.Ytfkchmkaccjjoaa
open Go.RowKit

theorem right_any (w : World) (x : Int) : Calls Try.prog 13 #[.int .i64 x] w fun e w' => e = .returned (.bool (decide (1 ≤ x ∧ x ≤ 4096))) ∧ w = w' := by
  by_cases h1 : 1 ≤ x
  · by_cases h2 : x ≤ 4096
    · go_enter Try.func13, Try.ntmps13
      go_wp2
      go_ret
      exact ⟨by simp [h1, h2], rfl⟩
    · go_enter Try.func13, Try.ntmps13
      go_wp2
      go_ret
      exact ⟨by simp [h2], rfl⟩
  · go_enter Try.func13, Try.ntmps13
    go_wp2
    go_ret
    exact ⟨by rw [decide_eq_false (by omega)]; rfl, rfl⟩

/-- The document's ring at block c: its bytes lie from block B on. -/
structure RefAt (w : World) (B c most : Nat) (a : Option Addr) (cp : Nat) (bs : List UInt8) : Prop where
  hc : w.heap[c]? = some (.cells #[.int .i64 most, .slice a bs.length cp] 35 (0, 0))
  hb : IsB w a bs
  le : bs.length ≤ cp
  cp : cp ≤ 9223372036854775807
  far : bs ≠ [] → ∀ x, a = some x → B ≤ x.block
  fits : bs.length ≤ most
  top : most ≤ 4096

theorem RefAt.c0 {w : World} {B c most cp : Nat} {a : Option Addr} {bs : List UInt8} (h : RefAt w B c most a cp bs) : w.cell? ⟨c, 0, none⟩ = some (.int .i64 most) := by
  rw [cell_of_row w c 0 _ _ _ h.hc]; rfl
theorem RefAt.c1 {w : World} {B c most cp : Nat} {a : Option Addr} {bs : List UInt8} (h : RefAt w B c most a cp bs) : w.cell? ⟨c, 1, none⟩ = some (.slice a bs.length cp) := by
  rw [cell_of_row w c 1 _ _ _ h.hc]; rfl

def IsRef (w : World) (B c most : Nat) (bs : List UInt8) : Prop := ∃ a cp, RefAt w B c most a cp bs

theorem ref_shut {w w3 : World} {B c most a cp N ql n a3 c3} {q bs : List UInt8} (h : RefAt w B c most a cp q) (hc3 : w3.heap[c]? = some (.cells #[.int .i64 most, .slice a q.length cp] 35 (0, 0)))
    (O3 : OwnB w3 N 5 a3 c3 (q ++ bs)) (hql : ql = q.length) (hl : bs.length = n) (hf : ql + n ≤ most) (hN : w.heap.size = N) :
    IsRef (w3.setCell ⟨c, 1, none⟩ (.slice a3 (ql + n) c3)) w.heap.size c most (q ++ bs) := by
  have hlen : (q ++ bs).length = ql + n := by rw [List.length_append]; omega
  have hcN : c < N := by rw [← hN]; exact (Array.getElem?_eq_some_iff.1 h.hc).1
  refine ⟨a3, c3, ?_, ?_, O3.cap.1, by have := O3.cap.2; unfold maxLen at this; omega, fun _ x hx => by have := (O3.at x hx).1; omega, by omega, h.top⟩
  · rw [heap_setCell_same _ _ _ _ _ _ hc3, hlen]; simp
  · exact O3.isB.kept ((Kept.refl (· = c) w3).setCell ⟨c, 1, none⟩ _ (fun _ => rfl)) (fun x hx _ => by have := (O3.at x hx).1; show ¬ x.block = c; omega)

def RefPutPost (w : World) (c most n : Nat) (q bs : List UInt8) (e : Ending) (w' : World) : Prop :=
  e = .returned (.int .i64 n) ∧ IsRef w' w.heap.size c most (q ++ bs.take n) ∧ Kept (· = c) w w'

set_option maxHeartbeats 1000000 in
theorem refPut_any (w : World) (B c most n m : Nat) (a : Option Addr) (cp : Nat) (q : List UInt8) (h : RefAt w B c most a cp q) (ba : Option Addr) (bl bc : Nat) (bs : List UInt8) (hl : bs.length = bl) (hb : bl ≤ bc) (_hb2 : bc ≤ 140737488351232)
    (hsrc : IsB w ba bs) (hm : q.length + m = most) (hn : n = bl ∧ bl < m ∨ n = m ∧ m ≤ bl) :
    Calls Try.prog 30 #[.pointer (some ⟨c, 0, none⟩), .slice ba bl bc] w (RefPutPost w c most n q bs) := by
  have h0 := h.c0
  have h1 := h.c1
  have b1 := h.top
  obtain ⟨ql, hql⟩ : ∃ ql, ql = q.length := ⟨_, rfl⟩
  rw [← hql] at h1 hm
  have em : (most : Int) - ql = m := by omega
  have H := Lib.hid h
  have Hm := Lib.hid hm
  have Hql := Lib.hid hql
  have Hl := Lib.hid hl
  have Hsrc := Lib.hid hsrc
  have i1 : ql ≤ most := by omega
  have i2 : (0 : Int) ≤ bl := by omega
  have i3 : (0 : Int) ≤ m := by omega
  clear h hm hql hl hsrc
  have i4 : (n : Int) ≤ bc := by omega
  have i5 : (0 : Int) ≤ n := by omega
  obtain ⟨S, hS⟩ : ∃ S : World → Prop, ∀ u, S u ↔ Kept (fun _ => False) w u := ⟨_, fun _ => Iff.rfl⟩
  have f1 : ∀ s : WIn S, s.w.cell? ⟨c, 1, none⟩ = some (.slice a ql cp) := fun s => Kept.cell ((hS _).1 s.h) h1 (fun h => h)
  haveI : Nonempty (WIn S) := ⟨⟨w, (hS _).2 (Kept.refl _ w)⟩⟩
  have HS := Lib.hid hS
  clear hS
  obtain ⟨i0, hi, hz0, hz1, hz2⟩ := info_parts Try.infoE5
  have Hi := Lib.hid hi
  have Hz0 := Lib.hid hz0
  have Hz1 := Lib.hid hz1
  have Hz2 := Lib.hid hz2
  obtain ⟨N, hN⟩ : ∃ N, w.heap.size = N := ⟨_, rfl⟩
  have HN := Lib.hid hN
  clear hi hz0 hz1 hz2 hN
  rcases hn with ⟨rfl, hn2⟩ | ⟨rfl, hn2⟩
  all_goals
    go_enter Try.func30, Try.ntmps30
    go_wp2_with fail
    go_quiet (fail)
    go_wp2
    refine region_segs 13 [([0, 2, 3, 4, 5, 7, 8, 9], 1), ([], 6), ([], 10)] [11, 12] S (by kernel_rfl) (by kernel_rfl) ((HS.out _).2 (((Kept.refl _ w).drewN _).drewN _)) ?_
    refine segs_step (fun K' hK' => ?_)
    simp only [pick, List.getElem?_cons_zero, List.getElem?_cons_succ, Option.getD_some]
    repeat (go_big_quiet_step (fail))
    refine wpQuiet_nil (hK' _ (fun Q1 hQ1 => ?_))
    clear hK' K'
    simp only [pick, List.getElem?_cons_zero, List.getElem?_cons_succ, Option.getD_some]
    go_wp2
    have K1 : Kept (fun _ => False) w ((w.drewN (nq + 1)).alloc (.cells #[] 5)) := ((Kept.refl _ w).drewN _).alloc _
    have O1 : OwnB ((w.drewN (nq + 1)).alloc (.cells #[] 5)) N 5 (some ⟨w.heap.size, 0, none⟩) 0 [] := OwnB.empty (w.drewN (nq + 1)) N 5 (by rw [← HN.out]; exact Nat.le_refl _)
    rw [HN.out] at O1
    rw [HN.out]
    obtain ⟨w1, hw1⟩ : ∃ w1, w1 = (w.drewN (nq + 1)).alloc (.cells #[] 5) := ⟨_, rfl⟩
    rw [← hw1] at K1 O1 ⊢
    have HK1 := Lib.hid K1
    have HO1 := Lib.hid O1
    clear hw1 K1 O1
    refine hQ1 _ _ ((HS.out _).2 HK1.out) (segs_step (fun K' hK' => wpQuiet_nil (hK' _ (fun Q2 hQ2 => ?_))))
    clear hK' K'
    simp only [pick, List.getElem?_cons_zero, List.getElem?_cons_succ, Option.getD_some]
    refine wpList_appendB (by rfl) (.tmp 23) (.tmp 27) 22 (by rfl) N 5 i0 Try.underlying22 Hi.out Hz0.out Hz1.out Hz2.out (some ⟨N, 0, none⟩) 0 0 [] (by rfl) rfl HO1.out a ql cp q (by rfl) (by exact Hql.out.symm) (H.out.hb.kept HK1.out (fun _ _ _ h => h)) (by omega) (by rw [← HN.out]; exact HK1.out.size) ?_
    intro a2 c2 w2 O2 K2 hat2
    have HO2 : Hid (OwnB w2 N 5 a2 c2 q) := by have := O2.out; rwa [List.nil_append] at this
    have HK2 : Hid (Kept (fun _ => False) w w2) := HK1.out.trans' K2 (fun i hi e => by simp at e; have := HN.out; omega)
    clear K2 hat2 O2
    go_wp2
    refine hQ2 _ _ ((HS.out _).2 HK2.out) (segs_step (fun K' hK' => wpQuiet_nil (hK' _ (fun Q3 hQ3 => ?_))))
    clear hK' K'
    simp only [pick, List.getElem?_cons_zero, List.getElem?_cons_succ, Option.getD_some]
    refine wpList_appendB (by rfl) (.tmp 28) (.tmp 31) 22 (by rfl) N 5 i0 Try.underlying22 Hi.out Hz0.out Hz1.out Hz2.out a2 ql c2 q (by rfl) Hql.out.symm HO2.out ba _ bc (bs.take n) (by rfl) (by have := Hl.out; rw [List.length_take]; omega) ((Hsrc.out.kept HK2.out (fun _ _ _ h => h)).take _) (by omega) (by rw [← HN.out]; exact HK2.out.size) ?_
    intro a3 c3 w3 O3 K3 hat3
    have HK3 : Hid (Kept (fun _ => False) w w3) := HK2.out.trans' K3 (fun i hi e => by
      cases a2 with
      | none => simp at e
      | some y => simp at e; have := (HO2.out.at y rfl).1; have := HN.out; omega)
    clear K3 hat3
    go_wp2
    refine hQ3 _ _ ((HS.out _).2 HK3.out) (segs_last (fun K' hK' => ?_))
    simp only [pick, List.getElem?_cons_zero, List.getElem?_cons_succ, Option.getD_some]
    repeat (go_big_quiet_step (fail))
    refine wpQuiet_nil (hK' _ (fun Q4 hQ4 => ?_))
    clear hK' K'
    simp only [List.drop_succ_cons, List.drop_zero]
    have hc3 := HK3.out.heap H.out.hc (fun h => h)
    have z3 := frozen_of_row w3 c 1 _ _ hc3
    have h1' := HK3.out.cell h1 (fun h => h)
    have Hc3 := Lib.hid hc3
    clear hc3
    go_wp2
    go_ret
    refine ⟨rfl, ref_shut H.out Hc3.out O3.out Hql.out (by have := Hl.out; rw [List.length_take]; omega) (by have := Hm.out; omega) HN.out, ?_⟩
    exact (HK3.out.mono (fun _ _ h => h.elim)).setCell ⟨c, 1, none⟩ _ (fun _ => rfl)

def RefPeekPost (w : World) (k : Nat) (q : List UInt8) (e : Ending) (w' : World) : Prop :=
  ∃ x cp, e = .returned (.slice x k cp) ∧ OwnB w' w.heap.size 5 x cp (q.take k) ∧ Kept (fun _ => False) w w'

set_option maxHeartbeats 1000000 in
theorem refPeek_any (w : World) (B c most k : Nat) (x : Int) (a : Option Addr) (cp : Nat) (q : List UInt8) (h : RefAt w B c most a cp q)
    (hk : x < 0 ∧ k = 0 ∨ x = k ∧ k ≤ q.length ∨ (q.length : Int) < x ∧ k = q.length) :
    Calls Try.prog 32 #[.pointer (some ⟨c, 0, none⟩), .int .i64 x] w (RefPeekPost w k q) := by
  have h1 := h.c1
  have b1 := h.top
  have b2 := h.fits
  have b3 := h.le
  obtain ⟨ql, hql⟩ : ∃ ql, ql = q.length := ⟨_, rfl⟩
  rw [← hql] at h1 hk b2 b3
  have H := Lib.hid h
  have Hql := Lib.hid hql
  have i1 : k ≤ ql := by omega
  have i2 : (k : Int) ≤ cp := by omega
  have i3 : (0 : Int) ≤ k := by omega
  have i4 : (0 : Int) ≤ cp := by omega
  obtain ⟨i0, hi, hz0, hz1, hz2⟩ := info_parts Try.infoE5
  have Hi := Lib.hid hi
  have Hz0 := Lib.hid hz0
  have Hz1 := Lib.hid hz1
  have Hz2 := Lib.hid hz2
  obtain ⟨N, hN⟩ : ∃ N, w.heap.size = N := ⟨_, rfl⟩
  have HN := Lib.hid hN
  clear h hql hi hz0 hz1 hz2 hN
  have O1 : Hid (OwnB (w.alloc (.cells #[] 5)) N 5 (some ⟨w.heap.size, 0, none⟩) 0 []) := OwnB.empty w N 5 (by rw [← HN.out]; exact Nat.le_refl _)
  have K1 : Hid (Kept (fun _ => False) w (w.alloc (.cells #[] 5))) := (Kept.refl _ w).alloc _
  have h1' := K1.out.cell h1 (fun h => h)
  rcases hk with ⟨hx, hk0⟩ | ⟨rfl, hk0⟩ | ⟨hx, hk0⟩
  all_goals
    have Hk0 := Lib.hid hk0
    clear hk0
    go_enter Try.func32, Try.ntmps32
    go_wp2_with (at_builtin; go_loud (refine wpList_appendB (by rfl) (.tmp 19) (.tmp 25) 22 (by rfl) N 5 i0 Try.underlying22 Hi.out Hz0.out Hz1.out Hz2.out _ 0 0 [] (by rfl) rfl O1.out _ _ _ (q.take k) (by rfl) (by have := Hk0.out; have := Hql.out; rw [List.length_take]; omega) ((H.out.hb.kept K1.out (fun _ _ _ h => h)).take k) (by omega) (by rw [← HN.out]; exact K1.out.size) ?_; intro a2 c2 w2 O2 K2 hat2))
    go_ret
    have hN := HN.out
    have hk0 := Hk0.out
    refine ⟨a2, c2, ?_, by rw [hN]; exact O2.out, K1.out.trans' K2 (fun i hi e => by simp at e; omega)⟩
    first
      | rfl
      | (rw [hk0]; rfl)
      | (rw [Nat.zero_add]; rfl)
end Go.Proofs.Ytfkchmkaccjjoaa
