/-
  The document's connection (colanderref22): settle, Abort, Close, Arrive, Taken, Write, New.
-/
import Derived.Test.YtfkchmkaccjjoaaShown2
import Derived.Laws.Concat
namespace Go.Proofs.Ytfkchmkaccjjoaa
open Go.RowKit

/-- The document's ring, its bytes in none of the blocks X. -/
def IsRefX (w : World) (X : Nat → Prop) (c most : Nat) (bs : List UInt8) : Prop := ∃ a cp, RefAt w 0 c most a cp bs ∧ (bs ≠ [] → ∀ x, a = some x → ¬ X x.block)

theorem IsRefX.ref {w : World} {X : Nat → Prop} {c most : Nat} {bs : List UInt8} (h : IsRefX w X c most bs) : IsRef w 0 c most bs := by
  obtain ⟨a, cp, R, _⟩ := h
  exact ⟨a, cp, R⟩
theorem IsRefX.of_ref {w : World} {X : Nat → Prop} {B c most : Nat} {bs : List UInt8} (h : IsRef w B c most bs) (hX : ∀ i, X i → i < B) : IsRefX w X c most bs := by
  obtain ⟨a, cp, R⟩ := h
  exact ⟨a, cp, ⟨R.hc, R.hb, R.le, R.cp, fun _ _ _ => Nat.zero_le _, R.fits, R.top⟩, fun hne x hx hin => by have := R.far hne x hx; have := hX _ hin; omega⟩
theorem IsRefX.kept {S : Nat → Prop} {w w' : World} {X : Nat → Prop} {c most : Nat} {bs : List UInt8} (h : IsRefX w X c most bs) (k : Kept S w w') (h1 : ¬ S c) (h2 : ∀ i, i < w.heap.size → S i → X i) : IsRefX w' X c most bs := by
  obtain ⟨a, cp, R, hX⟩ := h
  exact ⟨a, cp, ⟨k.heap R.hc h1, R.hb.kept k (fun x hx hne hin => hX hne x hx (h2 _ (by subst hx; exact R.hb.lt hne) hin)), R.le, R.cp, R.far, R.fits, R.top⟩, hX⟩
theorem IsRefX.mono {w : World} {X Y : Nat → Prop} {c most : Nat} {bs : List UInt8} (h : IsRefX w X c most bs) (hY : ∀ i, i < w.heap.size → Y i → X i) : IsRefX w Y c most bs := by
  obtain ⟨a, cp, R, hX⟩ := h
  exact ⟨a, cp, R, fun hne x hx hin => hX hne x hx (hY _ (by subst hx; exact R.hb.lt hne) hin)⟩
theorem IsRefX.fits {w : World} {X : Nat → Prop} {c most : Nat} {bs : List UInt8} (h : IsRefX w X c most bs) : bs.length ≤ most ∧ most ≤ 4096 := h.ref.fits
/-- Its bytes are struck. -/
theorem IsRefX.nil {w : World} {X : Nat → Prop} {c most : Nat} {bs : List UInt8} (h : IsRefX w X c most bs) : IsRefX (w.setCell ⟨c, 1, none⟩ (.slice none 0 0)) X c most [] := by
  obtain ⟨a, cp, R, _⟩ := h
  refine ⟨none, 0, ⟨?_, IsB.nil _ _, Nat.le_refl _, by omega, fun h => absurd rfl h, Nat.zero_le _, R.top⟩, fun h => absurd rfl h⟩
  rw [heap_setCell_same _ _ _ _ _ _ R.hc]; simp

structure RPl where
  (c i o mi mo : Nat)

structure RefC (w : World) (r : RPl) (X : Nat → Prop) (qi qo all : List UInt8) (st : Nat) (en : Bool) : Prop where
  hc : w.heap[r.c]? = some (.cells #[.pointer (some ⟨r.i, 0, none⟩), .pointer (some ⟨r.o, 0, none⟩), .int .i64 st, .bool en, .string ⟨all.toArray⟩] 57 (0, 0))
  hi : IsRefX w X r.i r.mi qi
  ho : IsRefX w X r.o r.mo qo
  d : r.c ≠ r.i ∧ r.c ≠ r.o ∧ r.i ≠ r.o
  own : X r.c ∧ X r.i ∧ X r.o

/-- Its own blocks. -/
def RPl.In (r : RPl) (b : Nat) : Prop := b = r.c ∨ b = r.i ∨ b = r.o

section
variable {w w' : World} {r : RPl} {X : Nat → Prop} {qi qo all q : List UInt8} {st : Nat} {en : Bool} {S : Nat → Prop}
theorem RefC.c0 (h : RefC w r X qi qo all st en) : w.cell? ⟨r.c, 0, none⟩ = some (.pointer (some ⟨r.i, 0, none⟩)) := by
  rw [cell_of_row w r.c 0 _ _ _ h.hc]; rfl
theorem RefC.c1 (h : RefC w r X qi qo all st en) : w.cell? ⟨r.c, 1, none⟩ = some (.pointer (some ⟨r.o, 0, none⟩)) := by
  rw [cell_of_row w r.c 1 _ _ _ h.hc]; rfl
theorem RefC.c2 (h : RefC w r X qi qo all st en) : w.cell? ⟨r.c, 2, none⟩ = some (.int .i64 st) := by
  rw [cell_of_row w r.c 2 _ _ _ h.hc]; rfl
theorem RefC.c3 (h : RefC w r X qi qo all st en) : w.cell? ⟨r.c, 3, none⟩ = some (.bool en) := by
  rw [cell_of_row w r.c 3 _ _ _ h.hc]; rfl
theorem RefC.c4 (h : RefC w r X qi qo all st en) : w.cell? ⟨r.c, 4, none⟩ = some (.string ⟨all.toArray⟩) := by
  rw [cell_of_row w r.c 4 _ _ _ h.hc]; rfl
theorem RefC.fz (h : RefC w r X qi qo all st en) (j : Nat) : w.frozen? ⟨r.c, j, none⟩ = false := frozen_of_row w r.c j _ _ h.hc
theorem RefC.lt (h : RefC w r X qi qo all st en) : r.c < w.heap.size := (Array.getElem?_eq_some_iff.1 h.hc).1
theorem RefC.kept (h : RefC w r X qi qo all st en) (k : Kept S w w') (h1 : ∀ i, r.In i → ¬ S i) (h2 : ∀ i, i < w.heap.size → S i → X i) : RefC w' r X qi qo all st en :=
  ⟨k.heap h.hc (h1 _ (.inl rfl)), h.hi.kept k (h1 _ (.inr (.inl rfl))) h2, h.ho.kept k (h1 _ (.inr (.inr rfl))) h2, h.d, h.own⟩
theorem RefC.mono {Y : Nat → Prop} (h : RefC w r X qi qo all st en) (hY : ∀ i, i < w.heap.size → Y i → X i) (ho : Y r.c ∧ Y r.i ∧ Y r.o) : RefC w r Y qi qo all st en :=
  ⟨h.hc, h.hi.mono hY, h.ho.mono hY, h.d, ho⟩
theorem RefC.drewN (h : RefC w r X qi qo all st en) (n : Nat) : RefC (w.drewN n) r X qi qo all st en :=
  h.kept (S := fun _ => False) ((Kept.refl _ w).drewN n) (fun _ _ h => h) (fun _ _ h => h.elim)
theorem RefC.store {st' : Nat} {en' : Bool} {all' : List UInt8} (h : RefC w r X qi qo all st en) (i : Nat) (v : Value)
    (hr : ((#[.pointer (some ⟨r.i, 0, none⟩), .pointer (some ⟨r.o, 0, none⟩), .int .i64 st, .bool en, .string ⟨all.toArray⟩] : Array Value).setIfInBounds i v) = #[.pointer (some ⟨r.i, 0, none⟩), .pointer (some ⟨r.o, 0, none⟩), .int .i64 st', .bool en', .string ⟨all'.toArray⟩]) :
    RefC (w.setCell ⟨r.c, i, none⟩ v) r X qi qo all' st' en' := by
  have d := h.d
  have k : Kept (· = r.c) w (w.setCell ⟨r.c, i, none⟩ v) := (Kept.refl _ w).setCell _ _ (fun _ => rfl)
  refine ⟨?_, h.hi.kept k (by omega) (fun i _ e => by rw [e]; exact h.own.1), h.ho.kept k (by omega) (fun i _ e => by rw [e]; exact h.own.1), d, h.own⟩
  rw [heap_setCell_same _ _ _ _ _ _ h.hc, hr]
theorem RefC.setIn (h : RefC w r X qi qo all st en) (k : Kept (· = r.i) w w') (hr : IsRefX w' X r.i r.mi q) : RefC w' r X q qo all st en := by
  have d := h.d
  exact ⟨k.heap h.hc (by omega), hr, h.ho.kept k (by omega) (fun i _ e => by rw [e]; exact h.own.2.1), d, h.own⟩
theorem RefC.setOut (h : RefC w r X qi qo all st en) (k : Kept (· = r.o) w w') (hr : IsRefX w' X r.o r.mo q) : RefC w' r X qi q all st en := by
  have d := h.d
  exact ⟨k.heap h.hc (by omega), h.hi.kept k (by omega) (fun i _ e => by rw [e]; exact h.own.2.2), hr, d, h.own⟩
end

theorem IsRefX.c1 {w : World} {X : Nat → Prop} {c most : Nat} {bs : List UInt8} (h : IsRefX w X c most bs) : ∃ a cp, w.cell? ⟨c, 1, none⟩ = some (.slice a bs.length cp) ∧ w.frozen? ⟨c, 1, none⟩ = false := by
  obtain ⟨a, cp, R, _⟩ := h
  exact ⟨a, cp, R.c1, frozen_of_row w c 1 _ _ R.hc⟩

section
variable (w : World) (r : RPl) (X : Nat → Prop) (qi qo all : List UInt8) (st : Nat) (en : Bool)

theorem rsettle_any (h : RefC w r X qi qo all st en) :
    Calls Try.prog 44 #[.pointer (some ⟨r.c, 0, none⟩)] w fun e w' => e = .returned (.tuple #[]) ∧ RefC w' r X qi qo all (settled st qo) en ∧ Kept r.In w w' := by
  have h2 := h.c2
  have h1 := h.c1
  have z2 := h.fz 2
  obtain ⟨a, cp, h3, _⟩ := h.ho.c1
  have H := Lib.hid h
  clear h
  by_cases e1 : st = 1
  · subst e1
    by_cases e2 : qo.length = 0
    · have e3 : qo = [] := List.eq_nil_of_length_eq_zero e2
      rw [e2] at h3
      go_enter Try.func44, Try.ntmps44
      go_wp2
      go_end0
      refine ⟨rfl, ?_, (Kept.refl _ w).setCell _ _ (fun _ => .inl rfl)⟩
      rw [settled, if_pos ⟨rfl, e3⟩]
      exact H.out.store (st' := 2) (en' := en) (all' := all) 2 _ (by simp)
    · have e3 : ¬ (qo = []) := fun e => e2 (by rw [e]; rfl)
      obtain ⟨n, hn⟩ : ∃ n, n = qo.length := ⟨_, rfl⟩
      rw [← hn] at h3
      have Hn := Lib.hid hn
      have e4 : ¬ ((n : Int) = 0) := by omega
      clear hn e2
      go_enter Try.func44, Try.ntmps44
      go_wp2
      go_end0
      refine ⟨rfl, ?_, Kept.refl _ w⟩
      rw [settled, if_neg (fun h => e3 h.2)]
      exact H.out
  · have e2 : ¬ ((st : Int) = 1) := by omega
    go_enter Try.func44, Try.ntmps44
    go_wp2
    go_end0
    refine ⟨rfl, ?_, Kept.refl _ w⟩
    rw [settled, if_neg (fun h => e1 h.1)]
    exact H.out

def RAbortPost (e : Ending) (w' : World) : Prop :=
  e = .returned (.tuple #[]) ∧ RefC w' r X (if st = 2 then qi else []) (if st = 2 then qo else []) all (if st = 2 then 2 else 3) en ∧ Kept r.In w w'

theorem rabort_any (h : RefC w r X qi qo all st en) : Calls Try.prog 27 #[.pointer (some ⟨r.c, 0, none⟩)] w (RAbortPost w r X qi qo all st en) := by
  have h2 := h.c2
  have z2 := h.fz 2
  have H := Lib.hid h
  clear h
  by_cases e1 : st = 2
  · subst e1
    go_enter Try.func27, Try.ntmps27
    go_wp2
    go_end0
    exact ⟨rfl, H.out, Kept.refl _ w⟩
  · have e2 : ¬ ((st : Int) = 2) := by omega
    have H1 : Hid (RefC (w.setCell ⟨r.c, 2, none⟩ (.int .i64 3)) r X qi qo all 3 en) := H.out.store (st' := 3) (en' := en) (all' := all) 2 _ (by simp)
    have h0 := H1.out.c0
    obtain ⟨a1, cp1, x1, y1⟩ := H1.out.hi.c1
    have H2 : Hid (RefC ((w.setCell ⟨r.c, 2, none⟩ (.int .i64 3)).setCell ⟨r.i, 1, none⟩ (.slice none 0 0)) r X [] qo all 3 en) := H1.out.setIn ((Kept.refl _ _).setCell _ _ (fun _ => rfl)) H1.out.hi.nil
    have h1 := H2.out.c1
    obtain ⟨a2, cp2, x2, y2⟩ := H2.out.ho.c1
    have H3 : Hid (RefC (((w.setCell ⟨r.c, 2, none⟩ (.int .i64 3)).setCell ⟨r.i, 1, none⟩ (.slice none 0 0)).setCell ⟨r.o, 1, none⟩ (.slice none 0 0)) r X [] [] all 3 en) := H2.out.setOut ((Kept.refl _ _).setCell _ _ (fun _ => rfl)) H2.out.ho.nil
    go_enter Try.func27, Try.ntmps27
    go_wp2
    go_end0
    refine ⟨rfl, ?_, (((Kept.refl _ w).setCell _ _ (fun _ => .inl rfl)).setCell _ _ (fun _ => .inr (.inl rfl))).setCell _ _ (fun _ => .inr (.inr rfl))⟩
    rw [if_neg e1, if_neg e1, if_neg e1]
    exact H3.out

def RClosePost (e : Ending) (w' : World) : Prop :=
  e = .returned (.tuple #[]) ∧ RefC w' r X (if st = 0 then [] else qi) qo all (if st = 0 then settled 1 qo else st) en ∧ Kept r.In w w'

theorem rclose_any (h : RefC w r X qi qo all st en) : Calls Try.prog 28 #[.pointer (some ⟨r.c, 0, none⟩)] w (RClosePost w r X qi qo all st en) := by
  have h2 := h.c2
  have h0 := h.c0
  have H := Lib.hid h
  obtain ⟨a1, cp1, x1, y1⟩ := h.hi.c1
  clear h
  by_cases e1 : st = 0
  · subst e1
    have H1 : Hid (RefC (w.setCell ⟨r.i, 1, none⟩ (.slice none 0 0)) r X [] qo all 0 en) := H.out.setIn ((Kept.refl _ _).setCell _ _ (fun _ => rfl)) H.out.hi.nil
    have z2 := H1.out.fz 2
    have c2 := H1.out.c2
    have H2 : Hid (RefC ((w.setCell ⟨r.i, 1, none⟩ (.slice none 0 0)).setCell ⟨r.c, 2, none⟩ (.int .i64 1)) r X [] qo all 1 en) := H1.out.store (st' := 1) (en' := en) (all' := all) 2 _ (by simp)
    have k2 : Kept r.In w ((w.setCell ⟨r.i, 1, none⟩ (.slice none 0 0)).setCell ⟨r.c, 2, none⟩ (.int .i64 1)) := ((Kept.refl _ w).setCell _ _ (fun _ => .inr (.inl rfl))).setCell _ _ (fun _ => .inl rfl)
    go_enter Try.func28, Try.ntmps28
    go_wp2_with fail
    obtain ⟨w2, hw2⟩ : ∃ w2, w2 = (w.setCell ⟨r.i, 1, none⟩ (.slice none 0 0)).setCell ⟨r.c, 2, none⟩ (.int .i64 1) := ⟨_, rfl⟩
    rw [← hw2] at H2 k2 ⊢
    refine (rsettle_any _ _ _ _ _ _ _ _ H2.out).mono ?_
    rintro e w3 ⟨rfl, C3, K3⟩
    go_wp2
    go_end0
    exact ⟨rfl, C3, k2.trans K3⟩
  · have e2 : ¬ ((st : Int) = 0) := by omega
    go_enter Try.func28, Try.ntmps28
    go_wp2
    go_end0
    refine ⟨rfl, ?_, Kept.refl _ w⟩
    rw [if_neg e1, if_neg e1]
    exact H.out

def RArrivePost (k : Nat) (bs : List UInt8) (e : Ending) (w' : World) : Prop :=
  e = .returned (.int .i64 k) ∧ RefC w' r X (qi ++ bs.take k) qo all st en ∧ Kept r.In w w'

theorem rarrive_any (h : RefC w r X qi qo all st en) (hX : ∀ i, X i → i < w.heap.size) (ba : Option Addr) (bl bc : Nat) (bs : List UInt8) (hl : bs.length = bl) (hb : bl ≤ bc) (hb2 : bc ≤ 140737488351232) (hsrc : IsB w ba bs) :
    Calls Try.prog 39 #[.pointer (some ⟨r.c, 0, none⟩), .slice ba bl bc] w (RArrivePost w r X qi qo all st en (arrived st en bl r.mi qi.length) bs) := by
  have h0 := h.c0
  have h2 := h.c2
  have h3 := h.c3
  have H := Lib.hid h
  have Hl := Lib.hid hl
  have Hsrc := Lib.hid hsrc
  have HX := Lib.hid hX
  clear h hl hsrc hX
  by_cases e1 : st = 0
  · subst e1
    cases en with
    | true =>
      go_enter Try.func39, Try.ntmps39
      go_wp2
      go_ret
      refine ⟨by simp [arrived], ?_, Kept.refl _ w⟩
      have : arrived 0 true bl r.mi qi.length = 0 := by simp [arrived]
      rw [this, List.take_zero, List.append_nil]
      exact H.out
    | false =>
      have ek : arrived 0 false bl r.mi qi.length = min bl (r.mi - qi.length) := by simp [arrived]
      rw [ek]
      obtain ⟨k, hk⟩ : ∃ k, k = min bl (r.mi - qi.length) := ⟨_, rfl⟩
      rw [← hk]
      have Hk := Lib.hid hk
      clear hk ek
      go_enter Try.func39, Try.ntmps39
      go_wp2_with (go_at_call 30; refine (ref_put _ _ _ _ k _ H.out.hi.ref _ _ _ bs Hl.out hb hb2 Hsrc.out Hk.out).mono ?_; rintro e w1 ⟨rfl, R1, K1⟩)
      go_ret
      exact ⟨rfl, H.out.setIn K1 (IsRefX.of_ref R1 HX.out), K1.mono (fun b _ hb => .inr (.inl hb))⟩
  · have e2 : ¬ ((st : Int) = 0) := by omega
    have ek : arrived st en bl r.mi qi.length = 0 := by simp [arrived, e1]
    go_enter Try.func39, Try.ntmps39
    go_wp2
    go_ret
    refine ⟨by rw [ek]; rfl, ?_, Kept.refl _ w⟩
    rw [ek, List.take_zero, List.append_nil]
    exact H.out

def RTakenPost (k : Nat) (e : Ending) (w' : World) : Prop :=
  ∃ x cp, e = .returned (.slice x k cp) ∧ IsB w' x (qo.take k) ∧ RefC w' r X qi (qo.drop k) all (settled st (qo.drop k)) en ∧ Kept r.In w w'

theorem rtaken_any (h : RefC w r X qi qo all st en) (hX : ∀ i, X i → i < w.heap.size) (x : Int) (k : Nat) (hk : x < 0 ∧ k = 0 ∨ x = k ∧ k ≤ qo.length ∨ (qo.length : Int) < x ∧ k = qo.length) :
    Calls Try.prog 41 #[.pointer (some ⟨r.c, 0, none⟩), .int .i64 x] w (RTakenPost w r X qi qo all st en k) := by
  have h1 := h.c1
  have H := Lib.hid h
  have Hk := Lib.hid hk
  have HX := Lib.hid hX
  clear h hk hX
  go_enter Try.func41, Try.ntmps41
  go_wp2_with fail
  refine (ref_take _ _ _ _ k _ _ H.out.ho.ref Hk.out).mono ?_
  rintro e w1 ⟨x1, cp1, rfl, O1, R1, K1⟩
  have H1 := Lib.hid (H.out.setOut K1 (IsRefX.of_ref R1 HX.out))
  have k1 : Kept r.In w w1 := K1.mono (fun b _ hb => .inr (.inr hb))
  have HO1 := Lib.hid O1
  clear O1 R1 K1
  go_wp2_with fail
  refine (rsettle_any _ _ _ _ _ _ _ _ H1.out).mono ?_
  rintro e w2 ⟨rfl, C2, K2⟩
  go_wp2
  go_ret
  refine ⟨x1, cp1, rfl, HO1.out.isB.kept K2 (fun y hy _ hin => ?_), C2, k1.trans K2⟩
  have := (HO1.out.at y hy).1
  have := HX.out _ H.out.own.1
  have := HX.out _ H.out.own.2.1
  have := HX.out _ H.out.own.2.2
  rcases hin with e | e | e <;> omega

def RWritePost (k : Nat) (bs : List UInt8) (e : Ending) (w' : World) : Prop :=
  e = .returned (.int .i64 k) ∧ RefC w' r X qi (qo ++ bs.take k) (all ++ bs.take k) st en ∧ Kept r.In w w'

theorem bytes_append (a b : List UInt8) : (⟨a.toArray⟩ : ByteArray) ++ (⟨b.toArray⟩ : ByteArray) = ⟨(a ++ b).toArray⟩ := by
  apply ByteArray.ext
  rw [ByteArray.data_append]
  simp

theorem rwrite_any (h : RefC w r X qi qo all st en) (hX : ∀ i, X i → i < w.heap.size) (ba : Option Addr) (bl bc : Nat) (bs : List UInt8) (hl : bs.length = bl) (hb : bl ≤ bc) (hb2 : bc ≤ 140737488351232) (hsrc : IsB w ba bs)
    (hfar : bs ≠ [] → ∀ x, ba = some x → ¬ r.In x.block) (hall : all.length ≤ 1000000000) :
    Calls Try.prog 43 #[.pointer (some ⟨r.c, 0, none⟩), .slice ba bl bc] w (RWritePost w r X qi qo all st en (written st bl r.mo qo.length) bs) := by
  have h2 := h.c2
  have h1 := h.c1
  have H := Lib.hid h
  have Hl := Lib.hid hl
  have Hsrc := Lib.hid hsrc
  have Hfar := Lib.hid hfar
  have HX := Lib.hid hX
  clear h hl hsrc hfar hX
  by_cases e1 : st = 0
  · subst e1
    have ek : written 0 bl r.mo qo.length = min bl (r.mo - qo.length) := by simp [written]
    rw [ek]
    have f1 := H.out.ho.fits
    obtain ⟨k, hk⟩ : ∃ k, k = min bl (r.mo - qo.length) := ⟨_, rfl⟩
    rw [← hk]
    have Hk := Lib.hid hk
    have k1 : k ≤ bl := by omega
    have i1 : (k : Int) ≤ bc := by omega
    have i2 : (0 : Int) ≤ k := by omega
    clear hk ek f1
    have hsl : ∀ w, (Instr.slice 22 (.slice ba bl bc) none (some (.int .i64 k)) none).run Try.prog w = .ok (.slice ba k bc) w := fun w => run_cut_h 22 5 Try.underlying22 Try.info5 w ba bl bc k (by omega)
    go_enter Try.func43, Try.ntmps43
    go_wp2_with fail
    refine (ref_put _ _ _ _ k _ H.out.ho.ref _ _ _ bs Hl.out hb hb2 Hsrc.out Hk.out).mono ?_
    rintro e w1 ⟨rfl, R1, K1⟩
    have HK1 : Hid (Kept r.In w w1) := K1.mono (fun b _ hb => .inr (.inr hb))
    have S1 : IsB w1 ba bs := Hsrc.out.kept HK1.out (fun x hx hne => Hfar.out hne x hx)
    have HC1 := Lib.hid (H.out.setOut K1 (IsRefX.of_ref R1 HX.out))
    have h4 := HC1.out.c4
    have z4 := HC1.out.fz 4
    obtain ⟨al, hal⟩ : ∃ al : ByteArray, al = ⟨all.toArray⟩ := ⟨_, rfl⟩
    obtain ⟨bk, hbk⟩ : ∃ bk : ByteArray, bk = ⟨(bs.take k).toArray⟩ := ⟨_, rfl⟩
    rw [← hal] at h4
    obtain ⟨S, hS⟩ : ∃ S : World → Prop, ∀ u, S u ↔ u.heap = w1.heap := ⟨_, fun _ => Iff.rfl⟩
    have f1 : ∀ s : WIn S, (convert 22 9 (.slice ba k bc)).run Try.prog s.w = .ok (.string bk) s.w := fun s => by
      rw [hbk]
      exact run_convB (P := Try.prog) s.w 22 5 9 Try.underlying22 Try.underlying5 Try.underlying9 _ (bs.take k) k bc (by have := Hl.out; rw [List.length_take]; omega) ((S1.take k).same ((hS _).1 s.h))
    have sz : al.size ≤ 1000000000 ∧ bk.size ≤ 5000 := by
      rw [hal, hbk]
      have := H.out.ho.fits
      have := Hk.out
      simp [ByteArray.size, List.length_take]
      omega
    have f3 : ∀ s : WIn S, (binOp .add 9 (.string al) (.string bk)).run Try.prog s.w = .ok (.string (al ++ bk)) s.w := fun s => by rw [binOp_string_add]; exact run_string_add_sum s.w al bk (by omega)
    have f2 : ∀ s : WIn S, s.w.cell? ⟨r.c, 4, none⟩ = some (.string al) := fun s => by
      have := (hS _).1 s.h
      unfold World.cell? at *
      rw [this]; exact h4
    haveI : Nonempty (WIn S) := ⟨⟨w1, (hS _).2 rfl⟩⟩
    have HS := Lib.hid hS
    have Hal := Lib.hid hal
    have Hbk := Lib.hid hbk
    clear R1 K1 S1 h1 h2 hS hal hbk
    go_wp2_with fail
    refine region_segs 12 [] [0, 1, 2, 3, 4, 5, 6, 7, 8, 9, 10, 11] S (by kernel_rfl) (by kernel_rfl) ((HS.out _).2 rfl) ?_
    refine segs_last (fun K' hK' => ?_)
    simp only [pick, List.getElem?_cons_zero, List.getElem?_cons_succ, Option.getD_some]
    repeat (go_big_quiet_step (fail))
    refine wpQuiet_nil (hK' _ (fun Q4 hQ4 => ?_))
    clear hK' K'
    simp only [List.drop_succ_cons, List.drop_zero]
    go_wp2
    go_ret
    refine ⟨rfl, ?_, (HK1.out.drewN 1).setCell _ _ (fun _ => .inl rfl)⟩
    rw [Hal.out, Hbk.out, bytes_append]
    exact (HC1.out.drewN 1).store (st' := 0) (en' := en) (all' := all ++ bs.take k) 4 _ (by simp)
  · have e2 : ¬ ((st : Int) = 0) := by omega
    have ek : written st bl r.mo qo.length = 0 := by simp [written, e1]
    go_enter Try.func43, Try.ntmps43
    go_wp2
    go_ret
    refine ⟨by rw [ek]; rfl, ?_, Kept.refl _ w⟩
    rw [ek, List.take_zero, List.append_nil, List.append_nil]
    exact H.out
end
end Go.Proofs.Ytfkchmkaccjjoaa
