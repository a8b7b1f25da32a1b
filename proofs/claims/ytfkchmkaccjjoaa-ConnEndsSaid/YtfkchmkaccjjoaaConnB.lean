/-
  Contracts of the connection's functions: Abort, Break, Peek, Read, Taken, Arrive, Close; Clone, Written.
-/
import Derived.Test.YtfkchmkaccjjoaaConn
namespace Go.Proofs.Ytfkchmkaccjjoaa
open Go.RowKit

section
variable {w w' : World} {p : Pl} {L : Nat} {aa : Option Addr} {ac : Nat} {qi qo all q : List UInt8} {st : Nat} {en : Bool} {S : Nat → Prop}
theorem ConnAt.setIn (h : ConnAt w p L aa ac qi qo all st en) (k : Kept S w w') (hs : ∀ b, S b → b = p.ri ∨ b = p.gi) (hr : IsRing w' p.ri p.gi p.mi q) : ConnAt w' p L aa ac q qo all st en := by
  have d := h.ok.d
  have l2 := h.ok.hi
  have hL := h.hL
  have hk : Kept (fun b => b = p.ri ∨ b = p.gi) w w' := k.mono (fun b _ => hs b)
  exact ⟨h.ok, hk.heap h.hc (by omega), hr, h.ho.kept hk (by omega) (by omega), h.hall.kept hk (fun y hy => by have := (h.hall.at y hy).1; omega), hL⟩
theorem ConnAt.setOut (h : ConnAt w p L aa ac qi qo all st en) (k : Kept S w w') (hs : ∀ b, S b → b = p.ro ∨ b = p.go) (hr : IsRing w' p.ro p.go p.mo q) : ConnAt w' p L aa ac qi q all st en := by
  have d := h.ok.d
  have l2 := h.ok.hi
  have hL := h.hL
  have hk : Kept (fun b => b = p.ro ∨ b = p.go) w w' := k.mono (fun b _ => hs b)
  exact ⟨h.ok, hk.heap h.hc (by omega), h.hi.kept hk (by omega) (by omega), hr, h.hall.kept hk (fun y hy => by have := (h.hall.at y hy).1; omega), hL⟩
theorem Pl.Ok.own (h : p.Ok) : p.In aa p.c ∧ p.In aa p.ri ∧ p.In aa p.gi ∧ p.In aa p.ro ∧ p.In aa p.go := by
  have l1 := h.lo
  have l2 := h.hi
  exact ⟨.inl (by omega), .inl (by omega), .inl (by omega), .inl (by omega), .inl (by omega)⟩
end

section
variable (w : World) (p : Pl) (L : Nat) (aa : Option Addr) (ac : Nat) (qi qo all : List UInt8) (st : Nat) (en : Bool)

def CAbortPost (e : Ending) (w' : World) : Prop :=
  e = .returned (.tuple #[]) ∧ ConnAt w' p L aa ac (if st = 2 then qi else []) (if st = 2 then qo else []) all (if st = 2 then 2 else 3) en ∧ Kept (p.In aa) w w'

theorem abort_any (h : ConnAt w p L aa ac qi qo all st en) : Calls Try.prog 20 #[.pointer (some ⟨p.c, 0, none⟩)] w (CAbortPost w p L aa ac qi qo all st en) := by
  have h2 := h.c2
  have z2 := h.fz 2
  have own := h.ok.own (aa := aa)
  have Ho := Lib.hid own
  have H := Lib.hid h
  clear h own
  by_cases e1 : st = 2
  · subst e1
    go_enter Try.func20, Try.ntmps20
    go_wp2
    go_end0
    exact ⟨rfl, H.out, Kept.refl _ w⟩
  · have e2 : ¬ ((st : Int) = 2) := by omega
    have H1 : Hid (ConnAt (w.setCell ⟨p.c, 2, none⟩ (.int .i64 3)) p L aa ac qi qo all 3 en) := H.out.store (st' := 3) (en' := en) 2 _ (by simp)
    have k1 : Kept (p.In aa) w (w.setCell ⟨p.c, 2, none⟩ (.int .i64 3)) := (Kept.refl _ w).setCell _ _ (fun _ => Ho.out.1)
    have h0 := H1.out.c0
    go_enter Try.func20, Try.ntmps20
    go_wp2_with fail
    obtain ⟨w1, hw1⟩ : ∃ w1, w1 = w.setCell ⟨p.c, 2, none⟩ (.int .i64 3) := ⟨_, rfl⟩
    rw [← hw1] at H1 k1 h0 ⊢
    clear hw1
    refine (ring_clear _ _ _ _ _ H1.out.hi).mono ?_
    rintro e w2 ⟨rfl, R2, K2⟩
    have H2 := Lib.hid (H1.out.setIn K2 (fun _ h => .inl h) R2)
    have k2 : Kept (p.In aa) w w2 := k1.trans (K2.mono (fun b _ hb => by rw [hb]; exact Ho.out.2.1))
    have h1 := H2.out.c1
    clear K2 R2 k1 h0
    go_wp2_with fail
    refine (ring_clear _ _ _ _ _ H2.out.ho).mono ?_
    rintro e w3 ⟨rfl, R3, K3⟩
    have H3 := Lib.hid (H2.out.setOut K3 (fun _ h => .inl h) R3)
    have k3 : Kept (p.In aa) w w3 := k2.trans (K3.mono (fun b _ hb => by rw [hb]; exact Ho.out.2.2.2.1))
    clear K3 R3 k2 h1
    go_wp2
    go_end0
    refine ⟨rfl, ?_, k3⟩
    rw [if_neg e1, if_neg e1, if_neg e1]
    exact H3.out

theorem break_any (h : ConnAt w p L aa ac qi qo all st en) : Calls Try.prog 40 #[.pointer (some ⟨p.c, 0, none⟩)] w (CAbortPost w p L aa ac qi qo all st en) := by
  have H := Lib.hid h
  clear h
  go_enter Try.func40, Try.ntmps40
  go_wp2_with (go_at_call 20; refine (abort_any _ _ _ _ _ _ _ _ _ _ H.out).mono ?_; rintro e w1 ⟨rfl, C1, K1⟩)
  go_end0
  exact ⟨rfl, C1, K1⟩

def CPeekPost (k : Nat) (e : Ending) (w' : World) : Prop :=
  e = .returned (.slice (some ⟨w.heap.size, 0, none⟩) k k) ∧ w'.heap[w.heap.size]? = some (.cells ((qi.take k).map byteV).toArray 5 (0, 0)) ∧ ConnAt w' p L aa ac qi qo all st en ∧ Kept (p.In aa) w w'

theorem peekc_any (h : ConnAt w p L aa ac qi qo all st en) (x : Int) (k : Nat) (hk : x < 0 ∧ k = 0 ∨ x = k ∧ k ≤ qi.length ∨ (qi.length : Int) < x ∧ k = qi.length) :
    Calls Try.prog 42 #[.pointer (some ⟨p.c, 0, none⟩), .int .i64 x] w (CPeekPost w p L aa ac qi qo all st en k) := by
  have h0 := h.c0
  have H := Lib.hid h
  have Hk := Lib.hid hk
  clear h hk
  go_enter Try.func42, Try.ntmps42
  go_wp2_with (go_at_call 15; refine (ring_peek _ _ _ _ k _ _ H.out.hi Hk.out).mono ?_; rintro e w1 ⟨rfl, _, G1, K1⟩)
  go_ret
  exact ⟨rfl, G1, H.out.kept K1 (fun _ _ h => h), K1.mono (fun _ _ h => h.elim)⟩

def CReadPost (k : Nat) (e : Ending) (w' : World) : Prop :=
  e = .returned (.slice (some ⟨w.heap.size, 0, none⟩) k k) ∧ w'.heap[w.heap.size]? = some (.cells ((qi.take k).map byteV).toArray 5 (0, 0)) ∧ ConnAt w' p L aa ac (qi.drop k) qo all st en ∧ Kept (p.In aa) w w'

theorem readc_any (h : ConnAt w p L aa ac qi qo all st en) (x : Int) (k : Nat) (hk : x < 0 ∧ k = 0 ∨ x = k ∧ k ≤ qi.length ∨ (qi.length : Int) < x ∧ k = qi.length) :
    Calls Try.prog 35 #[.pointer (some ⟨p.c, 0, none⟩), .int .i64 x] w (CReadPost w p L aa ac qi qo all st en k) := by
  have h0 := h.c0
  have H := Lib.hid h
  have Hk := Lib.hid hk
  clear h hk
  go_enter Try.func35, Try.ntmps35
  go_wp2_with (go_at_call 12; refine (ring_take _ _ _ _ k _ _ H.out.hi Hk.out).mono ?_; rintro e w1 ⟨rfl, _, G1, R1, K1⟩)
  go_ret
  exact ⟨rfl, G1, H.out.setIn K1 (fun _ h => .inl h) R1, K1.mono (fun b _ hb => by rw [hb]; exact (H.out.ok.own).2.1)⟩

def CTakenPost (k : Nat) (e : Ending) (w' : World) : Prop :=
  e = .returned (.slice (some ⟨w.heap.size, 0, none⟩) k k) ∧ w'.heap[w.heap.size]? = some (.cells ((qo.take k).map byteV).toArray 5 (0, 0)) ∧ ConnAt w' p L aa ac qi (qo.drop k) all (settled st (qo.drop k)) en ∧ Kept (p.In aa) w w'

theorem taken_any (h : ConnAt w p L aa ac qi qo all st en) (x : Int) (k : Nat) (hk : x < 0 ∧ k = 0 ∨ x = k ∧ k ≤ qo.length ∨ (qo.length : Int) < x ∧ k = qo.length) :
    Calls Try.prog 19 #[.pointer (some ⟨p.c, 0, none⟩), .int .i64 x] w (CTakenPost w p L aa ac qi qo all st en k) := by
  have h1 := h.c1
  have H := Lib.hid h
  have Hk := Lib.hid hk
  clear h hk
  go_enter Try.func19, Try.ntmps19
  go_wp2_with fail
  refine (ring_take _ _ _ _ k _ _ H.out.ho Hk.out).mono ?_
  rintro e w1 ⟨rfl, _, G1, R1, K1⟩
  have H1 := Lib.hid (H.out.setOut K1 (fun _ h => .inl h) R1)
  have k1 : Kept (p.In aa) w w1 := K1.mono (fun b _ hb => by rw [hb]; exact (H.out.ok.own).2.2.2.1)
  have HG1 := Lib.hid G1
  clear G1 R1 K1
  go_wp2_with fail
  refine (settle_any _ _ _ _ _ _ _ _ _ _ H1.out).mono ?_
  rintro e w2 ⟨rfl, C2, K2⟩
  go_wp2
  go_ret
  refine ⟨rfl, K2.heap HG1.out ?_, C2, k1.trans (K2.mono (fun b _ hb => by rw [hb]; exact H.out.ok.own.1))⟩
  have := H.out.lt
  omega

def arrived : Nat → Bool → Nat → Nat → Nat → Nat := fun st en bl m n => if st = 0 ∧ en = false then min bl (m - n) else 0

def CArrivePost (k : Nat) (bs : List UInt8) (e : Ending) (w' : World) : Prop :=
  e = .returned (.int .i64 k) ∧ ConnAt w' p L aa ac (qi ++ bs.take k) qo all st en ∧ Kept (p.In aa) w w'

theorem arrive_any (h : ConnAt w p L aa ac qi qo all st en) (ba : Option Addr) (bl bc : Nat) (bs : List UInt8) (hl : bs.length = bl) (hb : bl ≤ bc) (hb2 : bc ≤ 9223372036854775807)
    (hsrc : IsB w ba bs) (hap : bs ≠ [] → ∀ x, ba = some x → ¬ p.In aa x.block) :
    Calls Try.prog 34 #[.pointer (some ⟨p.c, 0, none⟩), .slice ba bl bc] w (CArrivePost w p L aa ac qi qo all st en (arrived st en bl p.mi qi.length) bs) := by
  have h0 := h.c0
  have h2 := h.c2
  have h3 := h.c3
  have H := Lib.hid h
  have Hl := Lib.hid hl
  have Hsrc := Lib.hid hsrc
  have Hap := Lib.hid hap
  clear h hl hsrc hap
  by_cases e1 : st = 0
  · subst e1
    cases en with
    | true =>
      go_enter Try.func34, Try.ntmps34
      go_wp2
      go_ret
      refine ⟨by simp [arrived], ?_, Kept.refl _ w⟩
      have : arrived 0 true bl p.mi qi.length = 0 := by simp [arrived]
      rw [this, List.take_zero, List.append_nil]
      exact H.out
    | false =>
      have ek : arrived 0 false bl p.mi qi.length = min bl (p.mi - qi.length) := by simp [arrived]
      rw [ek]
      obtain ⟨k, hk⟩ : ∃ k, k = min bl (p.mi - qi.length) := ⟨_, rfl⟩
      rw [← hk]
      have Hk := Lib.hid hk
      clear hk ek
      go_enter Try.func34, Try.ntmps34
      go_wp2_with (go_at_call 10; refine (ring_put _ _ _ _ k _ H.out.hi _ _ _ bs Hl.out hb hb2 Hsrc.out (fun hne x hx e => Hap.out hne x hx (by rw [e]; exact H.out.ok.own.2.2.1)) Hk.out).mono ?_; rintro e w1 ⟨rfl, R1, K1⟩)
      go_ret
      refine ⟨rfl, H.out.setIn K1 (fun _ h => h) R1, K1.mono (fun b _ hb => ?_)⟩
      rcases hb with rfl | rfl
      · exact H.out.ok.own.2.1
      · exact H.out.ok.own.2.2.1
  · have e2 : ¬ ((st : Int) = 0) := by omega
    have ek : arrived st en bl p.mi qi.length = 0 := by simp [arrived, e1]
    go_enter Try.func34, Try.ntmps34
    go_wp2
    go_ret
    refine ⟨by rw [ek]; rfl, ?_, Kept.refl _ w⟩
    rw [ek, List.take_zero, List.append_nil]
    exact H.out

def CClosePost (e : Ending) (w' : World) : Prop :=
  e = .returned (.tuple #[]) ∧ ConnAt w' p L aa ac (if st = 0 then [] else qi) qo all (if st = 0 then settled 1 qo else st) en ∧ Kept (p.In aa) w w'

theorem close_any (h : ConnAt w p L aa ac qi qo all st en) : Calls Try.prog 23 #[.pointer (some ⟨p.c, 0, none⟩)] w (CClosePost w p L aa ac qi qo all st en) := by
  have h2 := h.c2
  have h0 := h.c0
  have H := Lib.hid h
  clear h
  by_cases e1 : st = 0
  · subst e1
    go_enter Try.func23, Try.ntmps23
    go_wp2_with fail
    refine (ring_clear _ _ _ _ _ H.out.hi).mono ?_
    rintro e w1 ⟨rfl, R1, K1⟩
    have H1 := Lib.hid (H.out.setIn K1 (fun _ h => .inl h) R1)
    have k1 : Kept (p.In aa) w w1 := K1.mono (fun b _ hb => by rw [hb]; exact (H.out.ok.own).2.1)
    have c2 := H1.out.c2
    have z2 := H1.out.fz 2
    have H2 : Hid (ConnAt (w1.setCell ⟨p.c, 2, none⟩ (.int .i64 1)) p L aa ac [] qo all 1 en) := H1.out.store (st' := 1) (en' := en) 2 _ (by simp)
    have k2 : Kept (p.In aa) w (w1.setCell ⟨p.c, 2, none⟩ (.int .i64 1)) := k1.setCell _ _ (fun _ => H.out.ok.own.1)
    clear R1 K1 k1
    go_wp2_with fail
    obtain ⟨w2, hw2⟩ : ∃ w2, w2 = w1.setCell ⟨p.c, 2, none⟩ (.int .i64 1) := ⟨_, rfl⟩
    rw [← hw2] at H2 k2 ⊢
    refine (settle_any _ _ _ _ _ _ _ _ _ _ H2.out).mono ?_
    rintro e w3 ⟨rfl, C3, K3⟩
    go_wp2
    go_end0
    exact ⟨rfl, C3, k2.trans (K3.mono (fun b _ hb => by rw [hb]; exact H.out.ok.own.1))⟩
  · have e2 : ¬ ((st : Int) = 0) := by omega
    go_enter Try.func23, Try.ntmps23
    go_wp2
    go_end0
    refine ⟨rfl, ?_, Kept.refl _ w⟩
    rw [if_neg e1, if_neg e1]
    exact H.out
end
end Go.Proofs.Ytfkchmkaccjjoaa
