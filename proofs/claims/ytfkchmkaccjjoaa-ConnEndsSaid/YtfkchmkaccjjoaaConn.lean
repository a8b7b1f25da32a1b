/-
  Contracts of the connection's functions: settle, State, Waiting, Left, End, Abort, Peek, Read, Taken, Arrive, Close.
-/
import Derived.Test.YtfkchmkaccjjoaaStep
namespace Go.Proofs.Ytfkchmkaccjjoaa
open Go.RowKit

/-- Where a connection lies: its own blocks, from B on and below M. -/
structure Pl where
  (B M c ri gi mi ro go mo : Nat)

structure Pl.Ok (p : Pl) : Prop where
  lo : p.B ≤ p.c ∧ p.B ≤ p.ri ∧ p.B ≤ p.gi ∧ p.B ≤ p.ro ∧ p.B ≤ p.go
  hi : p.c < p.M ∧ p.ri < p.M ∧ p.gi < p.M ∧ p.ro < p.M ∧ p.go < p.M
  d : p.c ≠ p.ri ∧ p.c ≠ p.gi ∧ p.c ≠ p.ro ∧ p.c ≠ p.go ∧ p.ri ≠ p.ro ∧ p.ri ≠ p.go ∧ p.gi ≠ p.ro ∧ p.gi ≠ p.go

/-- Its own blocks, and what all that was written lies in. -/
def Pl.In (p : Pl) (aa : Option Addr) (b : Nat) : Prop := (p.B ≤ b ∧ b < p.M) ∨ aa.map (·.block) = some b

structure ConnAt (w : World) (p : Pl) (L : Nat) (aa : Option Addr) (ac : Nat) (qi qo all : List UInt8) (st : Nat) (en : Bool) : Prop where
  ok : p.Ok
  hc : w.heap[p.c]? = some (.cells #[.pointer (some ⟨p.ri, 0, none⟩), .pointer (some ⟨p.ro, 0, none⟩), .int .i64 st, .bool en, .slice aa all.length ac] 54 (0, 0))
  hi : IsRing w p.ri p.gi p.mi qi
  ho : IsRing w p.ro p.go p.mo qo
  hall : OwnB w L 5 aa ac all
  hL : p.M ≤ L

section
variable {w w' : World} {p : Pl} {L : Nat} {aa : Option Addr} {ac : Nat} {qi qo all : List UInt8} {st : Nat} {en : Bool}
theorem ConnAt.c0 (h : ConnAt w p L aa ac qi qo all st en) : w.cell? ⟨p.c, 0, none⟩ = some (.pointer (some ⟨p.ri, 0, none⟩)) := by
  rw [cell_of_row w p.c 0 _ _ _ h.hc]; rfl
theorem ConnAt.c1 (h : ConnAt w p L aa ac qi qo all st en) : w.cell? ⟨p.c, 1, none⟩ = some (.pointer (some ⟨p.ro, 0, none⟩)) := by
  rw [cell_of_row w p.c 1 _ _ _ h.hc]; rfl
theorem ConnAt.c2 (h : ConnAt w p L aa ac qi qo all st en) : w.cell? ⟨p.c, 2, none⟩ = some (.int .i64 st) := by
  rw [cell_of_row w p.c 2 _ _ _ h.hc]; rfl
theorem ConnAt.c3 (h : ConnAt w p L aa ac qi qo all st en) : w.cell? ⟨p.c, 3, none⟩ = some (.bool en) := by
  rw [cell_of_row w p.c 3 _ _ _ h.hc]; rfl
theorem ConnAt.c4 (h : ConnAt w p L aa ac qi qo all st en) : w.cell? ⟨p.c, 4, none⟩ = some (.slice aa all.length ac) := by
  rw [cell_of_row w p.c 4 _ _ _ h.hc]; rfl
theorem ConnAt.fz (h : ConnAt w p L aa ac qi qo all st en) (j : Nat) : w.frozen? ⟨p.c, j, none⟩ = false := frozen_of_row w p.c j _ _ h.hc
theorem ConnAt.lt (h : ConnAt w p L aa ac qi qo all st en) : p.c < w.heap.size := (Array.getElem?_eq_some_iff.1 h.hc).1

/-- Frame: what none of its blocks is in. -/
theorem ConnAt.kept {S : Nat → Prop} (h : ConnAt w p L aa ac qi qo all st en) (k : Kept S w w') (hs : ∀ b, p.In aa b → ¬ S b) : ConnAt w' p L aa ac qi qo all st en := by
  have l1 := h.ok.lo
  have l2 := h.ok.hi
  exact ⟨h.ok, k.heap h.hc (hs _ (.inl (by omega))), h.hi.kept k (hs _ (.inl (by omega))) (hs _ (.inl (by omega))), h.ho.kept k (hs _ (.inl (by omega))) (hs _ (.inl (by omega))), h.hall.kept k (fun y hy => hs _ (.inr (by rw [hy]; rfl))), h.hL⟩
theorem ConnAt.drewN (h : ConnAt w p L aa ac qi qo all st en) (n : Nat) : ConnAt (w.drewN n) p L aa ac qi qo all st en :=
  h.kept (S := fun _ => False) ((Kept.refl _ w).drewN n) (fun _ _ h => h)

/-- A store into its own cells 2 or 3. -/
theorem ConnAt.store {st' : Nat} {en' : Bool} (h : ConnAt w p L aa ac qi qo all st en) (i : Nat) (v : Value)
    (hr : ((#[.pointer (some ⟨p.ri, 0, none⟩), .pointer (some ⟨p.ro, 0, none⟩), .int .i64 st, .bool en, .slice aa all.length ac] : Array Value).setIfInBounds i v) = #[.pointer (some ⟨p.ri, 0, none⟩), .pointer (some ⟨p.ro, 0, none⟩), .int .i64 st', .bool en', .slice aa all.length ac]) :
    ConnAt (w.setCell ⟨p.c, i, none⟩ v) p L aa ac qi qo all st' en' := by
  have d := h.ok.d
  have l2 := h.ok.hi
  have hL := h.hL
  have k : Kept (· = p.c) w (w.setCell ⟨p.c, i, none⟩ v) := (Kept.refl _ w).setCell _ _ (fun _ => rfl)
  refine ⟨h.ok, ?_, h.hi.kept k (by omega) (by omega), h.ho.kept k (by omega) (by omega), h.hall.kept k (fun y hy => by have := (h.hall.at y hy).1; show ¬ y.block = p.c; omega), hL⟩
  rw [heap_setCell_same _ _ _ _ _ _ h.hc, hr]
end

def settled (st : Nat) (qo : List UInt8) : Nat := if st = 1 ∧ qo = [] then 2 else st

section
variable (w : World) (p : Pl) (L : Nat) (aa : Option Addr) (ac : Nat) (qi qo all : List UInt8) (st : Nat) (en : Bool)

theorem settle_any (h : ConnAt w p L aa ac qi qo all st en) :
    Calls Try.prog 37 #[.pointer (some ⟨p.c, 0, none⟩)] w fun e w' => e = .returned (.tuple #[]) ∧ ConnAt w' p L aa ac qi qo all (settled st qo) en ∧ Kept (· = p.c) w w' := by
  have h2 := h.c2
  have h1 := h.c1
  have z2 := h.fz 2
  have H := Lib.hid h
  clear h
  by_cases e1 : st = 1
  · subst e1
    by_cases e2 : qo.length = 0
    · have e3 : qo = [] := List.eq_nil_of_length_eq_zero e2
      go_enter Try.func37, Try.ntmps37
      go_wp2_with (go_at_call 9; refine (ring_len _ _ _ _ 0 _ H.out.ho e2).mono ?_; rintro e w' ⟨rfl, rfl⟩)
      go_end0
      refine ⟨rfl, ?_, (Kept.refl _ w).setCell _ _ (fun _ => rfl)⟩
      rw [settled, if_pos ⟨rfl, e3⟩]
      exact H.out.store (st' := 2) (en' := en) 2 _ (by simp)
    · have e3 : ¬ (qo = []) := fun e => e2 (by rw [e]; rfl)
      obtain ⟨n, hn⟩ : ∃ n, n = qo.length := ⟨_, rfl⟩
      have Hn := Lib.hid hn
      have e4 : ¬ ((n : Int) = 0) := by omega
      clear hn e2
      go_enter Try.func37, Try.ntmps37
      go_wp2_with (go_at_call 9; refine (ring_len _ _ _ _ n _ H.out.ho Hn.out.symm).mono ?_; rintro e w' ⟨rfl, rfl⟩)
      go_end0
      refine ⟨rfl, ?_, Kept.refl _ w⟩
      rw [settled, if_neg (fun h => e3 h.2)]
      exact H.out
  · have e2 : ¬ ((st : Int) = 1) := by omega
    go_enter Try.func37, Try.ntmps37
    go_wp2
    go_end0
    refine ⟨rfl, ?_, Kept.refl _ w⟩
    rw [settled, if_neg (fun h => e1 h.1)]
    exact H.out

theorem state_any (h : ConnAt w p L aa ac qi qo all st en) : Calls Try.prog 21 #[.pointer (some ⟨p.c, 0, none⟩)] w fun e w' => e = .returned (.int .i64 st) ∧ w = w' := by
  have h2 := h.c2
  clear h
  go_enter Try.func21, Try.ntmps21
  go_wp2
  go_ret
  exact ⟨rfl, rfl⟩

theorem waiting_any (h : ConnAt w p L aa ac qi qo all st en) (n : Nat) (hn : qi.length = n) : Calls Try.prog 29 #[.pointer (some ⟨p.c, 0, none⟩)] w fun e w' => e = .returned (.int .i64 n) ∧ w = w' := by
  have h0 := h.c0
  have H := Lib.hid h
  clear h
  go_enter Try.func29, Try.ntmps29
  go_wp2_with (go_at_call 9; refine (ring_len _ _ _ _ n _ H.out.hi hn).mono ?_; rintro e w' ⟨rfl, rfl⟩)
  go_ret
  exact ⟨rfl, rfl⟩

theorem left_any (h : ConnAt w p L aa ac qi qo all st en) (n : Nat) (hn : qo.length = n) : Calls Try.prog 24 #[.pointer (some ⟨p.c, 0, none⟩)] w fun e w' => e = .returned (.int .i64 n) ∧ w = w' := by
  have h0 := h.c1
  have H := Lib.hid h
  clear h
  go_enter Try.func24, Try.ntmps24
  go_wp2_with (go_at_call 9; refine (ring_len _ _ _ _ n _ H.out.ho hn).mono ?_; rintro e w' ⟨rfl, rfl⟩)
  go_ret
  exact ⟨rfl, rfl⟩

theorem end_any (h : ConnAt w p L aa ac qi qo all st en) : Calls Try.prog 36 #[.pointer (some ⟨p.c, 0, none⟩)] w fun e w' => e = .returned (.tuple #[]) ∧ ConnAt w' p L aa ac qi qo all st true ∧ Kept (p.In aa) w w' := by
  have z := h.fz 3
  have h3 := h.c3
  have H := Lib.hid h
  have l1 := h.ok.lo
  have l2 := h.ok.hi
  clear h
  go_enter Try.func36, Try.ntmps36
  go_wp2
  go_end0
  exact ⟨rfl, H.out.store (st' := st) (en' := true) 3 _ (by simp), (Kept.refl _ w).setCell _ _ (fun _ => .inl ⟨l1.1, l2.1⟩)⟩
end
end Go.Proofs.Ytfkchmkaccjjoaa
