/-
  The document's ring (colanderref01), the second part: Take; and the contracts without the place of its bytes.
-/
import Derived.Test.YtfkchmkaccjjoaaRef
namespace Go.Proofs.Ytfkchmkaccjjoaa
open Go.RowKit

def RefTakePost (w : World) (c most k : Nat) (q : List UInt8) (e : Ending) (w' : World) : Prop :=
  ∃ x cp, e = .returned (.slice x k cp) ∧ OwnB w' w.heap.size 5 x cp (q.take k) ∧ IsRef w' w.heap.size c most (q.drop k) ∧ Kept (· = c) w w'

set_option maxHeartbeats 1000000 in
theorem refTake_any (w : World) (B c most k : Nat) (x : Int) (a : Option Addr) (cp : Nat) (q : List UInt8) (h : RefAt w B c most a cp q)
    (hk : x < 0 ∧ k = 0 ∨ x = k ∧ k ≤ q.length ∨ (q.length : Int) < x ∧ k = q.length) :
    Calls Try.prog 31 #[.pointer (some ⟨c, 0, none⟩), .int .i64 x] w (RefTakePost w c most k q) := by
  have h1 := h.c1
  have b1 := h.top
  have b2 := h.fits
  have b3 := h.le
  have hkq : k ≤ q.length := by omega
  have Hk := Lib.hid hk
  obtain ⟨ql, hql⟩ : ∃ ql, ql = q.length := ⟨_, rfl⟩
  rw [← hql] at h1 b2 b3 hkq
  have H := Lib.hid h
  have Hql := Lib.hid hql
  obtain ⟨i0, hi, hz0, hz1, hz2⟩ := info_parts Try.infoE5
  have Hi := Lib.hid hi
  have Hz0 := Lib.hid hz0
  have Hz1 := Lib.hid hz1
  have Hz2 := Lib.hid hz2
  obtain ⟨m', hm'⟩ : ∃ m', m' = ql - k := ⟨_, rfl⟩
  obtain ⟨a', ha'⟩ : ∃ y, y = (if cp = k then a else a.map (·.add k)) := ⟨_, rfl⟩
  obtain ⟨c', hc'⟩ : ∃ y, y = cp - k := ⟨_, rfl⟩
  have hsl : ∀ w, (Instr.slice 22 (.slice a ql cp) (some (.int .i64 k)) none none).run Try.prog w = .ok (.slice a' m' c') w := by
    intro w
    rw [hm', ha', hc']
    exact run_cut_l 22 5 Try.underlying22 Try.info5 w a ql cp k hkq
  have S0 : IsB w a' (q.drop k) := by rw [ha']; exact h.hb.cut k cp (by omega)
  have Hm' := Lib.hid hm'
  have HS0 := Lib.hid S0
  clear h hql hi hz0 hz1 hz2 hk hm' ha' hc' S0
  go_enter Try.func31, Try.ntmps31
  go_wp2_with fail
  refine (refPeek_any w B c most k x a cp q H.out Hk.out).mono ?_
  rintro e w1 ⟨x1, c1, rfl, O1, K1⟩
  have HO1 := Lib.hid O1
  have HK1 := Lib.hid K1
  have l1 : w.heap.size ≤ w1.heap.size := K1.size
  have h2 := K1.cell h1 (fun h => h)
  obtain ⟨N, hN⟩ : ∃ N, w1.heap.size = N := ⟨_, rfl⟩
  have HN := Lib.hid hN
  have O2 : Hid (OwnB (w1.alloc (.cells #[] 5)) N 5 (some ⟨w1.heap.size, 0, none⟩) 0 []) := OwnB.empty w1 N 5 (by omega)
  have K2 : Hid (Kept (fun _ => False) w (w1.alloc (.cells #[] 5))) := K1.alloc _
  have K2' : Hid (Kept (fun _ => False) w1 (w1.alloc (.cells #[] 5))) := (Kept.refl _ w1).alloc _
  have h2' := K2.out.cell h1 (fun h => h)
  clear O1 K1 hN
  have lN : w.heap.size ≤ N := by have := HN.out; omega
  go_wp2_with (at_builtin; go_loud (refine wpList_appendB (by rfl) (.tmp 10) (.tmp 17) 22 (by rfl) N 5 i0 Try.underlying22 Hi.out Hz0.out Hz1.out Hz2.out _ 0 0 [] (by rfl) rfl O2.out _ _ _ (q.drop k) (by rfl) (by have := Hm'.out; have := Hql.out; rw [List.length_drop]; omega) (HS0.out.kept K2.out (fun _ _ _ h => h)) (by have := Hm'.out; omega) (by rw [← HN.out]; exact K2'.out.size) ?_; intro a3 c3 w3 O3 K3 hat3; have HO3 := Lib.hid O3; have HK3 := Lib.hid K3; have lc := H.out.hc; have h3 := HK3.out.cell h2' (by have := (Array.getElem?_eq_some_iff.1 H.out.hc).1; have := HN.out; simp; omega); have z3 := frozen_of_row w3 c 1 _ _ (HK3.out.heap (K2.out.heap H.out.hc (fun h => h)) (by have := (Array.getElem?_eq_some_iff.1 H.out.hc).1; have := HN.out; simp; omega)); clear lc O3 K3 hat3))
  go_ret
  have hcw := (Array.getElem?_eq_some_iff.1 H.out.hc).1
  have hNw := HN.out
  have hql := Hql.out
  have hm' := Hm'.out
  have hK3 : Kept (fun _ => False) w w3 := K2.out.trans' HK3.out (fun i hi e => by simp at e; omega)
  have hc3 := hK3.heap H.out.hc (fun h => h)
  have hs := (Kept.refl (· = c) w3).setCell ⟨c, 1, none⟩ (.slice a3 m' c3) (fun _ => rfl)
  refine ⟨x1, c1, rfl, ((HO1.out.kept K2'.out (fun _ _ h => h)).kept HK3.out (fun y hy => by have := (HO1.out.at y hy).2; simp; omega)).kept hs (fun y hy => by have := (HO1.out.at y hy).1; show ¬ y.block = c; omega), ?_, (hK3.mono (fun _ _ h => h.elim)).setCell ⟨c, 1, none⟩ _ (fun _ => rfl)⟩
  have O3 : OwnB w3 N 5 a3 c3 (q.drop k) := by have := HO3.out.out; rwa [List.nil_append] at this
  have hlen : (q.drop k).length = m' := by rw [List.length_drop]; omega
  refine ⟨a3, c3, ?_, O3.isB.kept hs (fun y hy _ => by have := (O3.at y hy).1; show ¬ y.block = c; omega), O3.cap.1, by have := O3.cap.2; unfold maxLen at this; omega, fun _ y hy => by have := (O3.at y hy).1; omega, by omega, b1⟩
  rw [heap_setCell_same _ _ _ _ _ _ hc3, hlen]; simp

/-! ### Without the place of its bytes -/
theorem IsRef.kept {S : Nat → Prop} {w w' : World} {B c most : Nat} {bs : List UInt8} (h : IsRef w B c most bs) (k : Kept S w w') (h1 : ¬ S c) (h2 : ∀ i, B ≤ i → ¬ S i) : IsRef w' B c most bs := by
  obtain ⟨a, cp, R⟩ := h
  exact ⟨a, cp, k.heap R.hc h1, R.hb.kept k (fun x hx hne => h2 _ (R.far hne x hx)), R.le, R.cp, R.far, R.fits, R.top⟩
theorem IsRef.weaken {w : World} {B B' c most : Nat} {bs : List UInt8} (h : IsRef w B c most bs) (hB : B' ≤ B) : IsRef w B' c most bs := by
  obtain ⟨a, cp, R⟩ := h
  exact ⟨a, cp, R.hc, R.hb, R.le, R.cp, fun hne x hx => Nat.le_trans hB (R.far hne x hx), R.fits, R.top⟩
theorem IsRef.drewN {w : World} {B c most : Nat} {bs : List UInt8} (h : IsRef w B c most bs) (n : Nat) : IsRef (w.drewN n) B c most bs := by
  obtain ⟨a, cp, R⟩ := h
  exact ⟨a, cp, R.hc, R.hb.same rfl, R.le, R.cp, R.far, R.fits, R.top⟩
theorem IsRef.fits {w : World} {B c most : Nat} {bs : List UInt8} (h : IsRef w B c most bs) : bs.length ≤ most ∧ most ≤ 4096 := by
  obtain ⟨a, cp, R⟩ := h
  exact ⟨R.fits, R.top⟩
theorem IsRef.lt {w : World} {B c most : Nat} {bs : List UInt8} (h : IsRef w B c most bs) : c < w.heap.size := by
  obtain ⟨a, cp, R⟩ := h
  exact (Array.getElem?_eq_some_iff.1 R.hc).1

theorem ref_put (w : World) (B c most n : Nat) (q : List UInt8) (h : IsRef w B c most q) (ba : Option Addr) (bl bc : Nat) (bs : List UInt8) (hl : bs.length = bl) (hb : bl ≤ bc) (hb2 : bc ≤ 140737488351232)
    (hsrc : IsB w ba bs) (hn : n = min bl (most - q.length)) :
    Calls Try.prog 30 #[.pointer (some ⟨c, 0, none⟩), .slice ba bl bc] w (RefPutPost w c most n q bs) := by
  obtain ⟨a, cp, R⟩ := h
  have := R.fits
  exact refPut_any w B c most n (most - q.length) a cp q R ba bl bc bs hl hb hb2 hsrc (by omega) (by omega)

theorem ref_take (w : World) (B c most k : Nat) (x : Int) (q : List UInt8) (h : IsRef w B c most q)
    (hk : x < 0 ∧ k = 0 ∨ x = k ∧ k ≤ q.length ∨ (q.length : Int) < x ∧ k = q.length) :
    Calls Try.prog 31 #[.pointer (some ⟨c, 0, none⟩), .int .i64 x] w (RefTakePost w c most k q) := by
  obtain ⟨a, cp, R⟩ := h
  exact refTake_any w B c most k x a cp q R hk

theorem ref_peek (w : World) (B c most k : Nat) (x : Int) (q : List UInt8) (h : IsRef w B c most q)
    (hk : x < 0 ∧ k = 0 ∨ x = k ∧ k ≤ q.length ∨ (q.length : Int) < x ∧ k = q.length) :
    Calls Try.prog 32 #[.pointer (some ⟨c, 0, none⟩), .int .i64 x] w (RefPeekPost w k q) := by
  obtain ⟨a, cp, R⟩ := h
  exact refPeek_any w B c most k x a cp q R hk
end Go.Proofs.Ytfkchmkaccjjoaa
