/-
  What one step of colanderlaw22 keeps: definitions and plain laws.
-/
import Derived.Test.YtfkchmkaccjjoaaRefD
namespace Go.Proofs.Ytfkchmkaccjjoaa
open Go.RowKit

/-- Blocks in which no bytes of the document's rings lie. -/
def Yb (L : Nat) (aa : Option Addr) (i : Nat) : Prop := i < L ∨ aa.map (·.block) = some i
def Xm (L : Nat) (aa aa' a2 ga : Option Addr) (i : Nat) : Prop := i < L ∨ aa.map (·.block) = some i ∨ aa'.map (·.block) = some i ∨ a2.map (·.block) = some i ∨ ga.map (·.block) = some i

theorem map_lt {a : Option Addr} {N i : Nat} (h : ∀ y, a = some y → y.block < N) (e : a.map (·.block) = some i) : i < N := by
  cases ha : a with
  | none => rw [ha] at e; cases e
  | some y => rw [ha] at e; simp at e; have := h y ha; omega
theorem map_ge {a : Option Addr} {N i : Nat} (h : ∀ y, a = some y → N ≤ y.block) (e : a.map (·.block) = some i) : N ≤ i := by
  cases ha : a with
  | none => rw [ha] at e; cases e
  | some y => rw [ha] at e; simp at e; have := h y ha; omega

/-- How it may stand. -/
def CInv (st : Nat) (qi qo : List UInt8) : Prop := st = 0 ∨ (st = 1 ∧ qi = []) ∨ ((st = 2 ∨ st = 3) ∧ qi = [] ∧ qo = [])
structure CNext (st : Nat) (qi qo all : List UInt8) (st' : Nat) (qi' qo' all' : List UInt8) : Prop where
  inv : CInv st qi qo → CInv st' qi' qo'
  len : all'.length ≤ all.length + 4096
  open_ : st ≠ 0 → st' ≠ 0 ∧ all' = all
  closed : st = 2 → st' = 2
  aborted : st = 3 → st' = 3

theorem CNext.same (st : Nat) (qi qo all : List UInt8) : CNext st qi qo all st qi qo all := ⟨fun h => h, by omega, fun h => ⟨h, rfl⟩, fun h => h, fun h => h⟩
theorem CNext.abort (st : Nat) (qi qo all : List UInt8) : CNext st qi qo all (if st = 2 then 2 else 3) (if st = 2 then qi else []) (if st = 2 then qo else []) all := by
  refine ⟨fun h => ?_, by omega, fun h => ⟨by split <;> omega, rfl⟩, fun h => by rw [if_pos h], fun h => by rw [if_neg (by omega)]⟩
  by_cases e : st = 2
  · rw [if_pos e, if_pos e, if_pos e]
    subst e
    exact h
  · rw [if_neg e, if_neg e, if_neg e]
    exact .inr (.inr ⟨.inr rfl, rfl, rfl⟩)
theorem CNext.close (st : Nat) (qi qo all : List UInt8) : CNext st qi qo all (if st = 0 then settled 1 qo else st) (if st = 0 then [] else qi) qo all := by
  by_cases e : st = 0
  · rw [if_pos e, if_pos e]
    subst e
    refine ⟨fun _ => ?_, by omega, fun h => absurd rfl h, fun h => by omega, fun h => by omega⟩
    unfold settled
    by_cases hq : qo = []
    · rw [if_pos ⟨rfl, hq⟩]; exact .inr (.inr ⟨.inl rfl, rfl, hq⟩)
    · rw [if_neg (fun h => hq h.2)]; exact .inr (.inl ⟨rfl, rfl⟩)
  · rw [if_neg e, if_neg e]
    exact CNext.same _ _ _ _
theorem CNext.taken (st : Nat) (qi qo all : List UInt8) (k : Nat) : CNext st qi qo all (settled st (qo.drop k)) qi (qo.drop k) all := by
  have hs : st ≠ 1 → settled st (qo.drop k) = st := fun h => by unfold settled; rw [if_neg (fun e => h e.1)]
  refine ⟨fun h => ?_, by omega, fun h => ⟨?_, rfl⟩, fun h => by rw [hs (by omega)]; exact h, fun h => by rw [hs (by omega)]; exact h⟩
  · rcases h with h | ⟨h, hq⟩ | ⟨h, hq, hq2⟩
    · rw [hs (by omega)]; exact .inl h
    · subst h
      unfold settled
      by_cases he : qo.drop k = []
      · rw [if_pos ⟨rfl, he⟩]; exact .inr (.inr ⟨.inl rfl, hq, he⟩)
      · rw [if_neg (fun h => he h.2)]; exact .inr (.inl ⟨rfl, hq⟩)
    · rw [hs (by omega)]
      exact .inr (.inr ⟨h, hq, by rw [hq2, List.drop_nil]⟩)
  · unfold settled
    split <;> omega
theorem CNext.read (st : Nat) (qi qo all : List UInt8) (k : Nat) : CNext st qi qo all st (qi.drop k) qo all := by
  refine ⟨fun h => ?_, by omega, fun h => ⟨h, rfl⟩, fun h => h, fun h => h⟩
  rcases h with h | ⟨h, hq⟩ | ⟨h, hq, hq2⟩
  · exact .inl h
  · exact .inr (.inl ⟨h, by rw [hq, List.drop_nil]⟩)
  · exact .inr (.inr ⟨h, by rw [hq, List.drop_nil], hq2⟩)
theorem CNext.arrive (st : Nat) (qi qo all : List UInt8) (en : Bool) (bl m : Nat) (bs : List UInt8) : CNext st qi qo all st (qi ++ bs.take (arrived st en bl m qi.length)) qo all := by
  by_cases e : st = 0
  · subst e
    exact ⟨fun _ => .inl rfl, by omega, fun h => absurd rfl h, fun h => by omega, fun h => by omega⟩
  · have : arrived st en bl m qi.length = 0 := by simp [arrived, e]
    rw [this, List.take_zero, List.append_nil]
    exact CNext.same _ _ _ _
theorem CNext.write (st : Nat) (qi qo all : List UInt8) (bl m : Nat) (bs : List UInt8) (hm : m ≤ 4096) : CNext st qi qo all st qi (qo ++ bs.take (written st bl m qo.length)) (all ++ bs.take (written st bl m qo.length)) := by
  by_cases e : st = 0
  · subst e
    refine ⟨fun _ => .inl rfl, ?_, fun h => absurd rfl h, fun h => by omega, fun h => by omega⟩
    have : written 0 bl m qo.length ≤ 4096 := by simp [written]; omega
    rw [List.length_append, List.length_take]
    omega
  · have : written st bl m qo.length = 0 := by simp [written, e]
    rw [this, List.take_zero, List.append_nil, List.append_nil]
    exact CNext.same _ _ _ _

def CStepPost (w : World) (p : Pl) (L : Nat) (r : RPl) (qi qo all : List UInt8) (st : Nat) (e : Ending) (w' : World) : Prop :=
  e = .returned (.bool true) ∧ ∃ aa' ac' qi' qo' all' st' en', ConnAt w' p L aa' ac' qi' qo' all' st' en' ∧ RefC w' r (Yb L aa') qi' qo' all' st' en' ∧ Kept (fun i => p.B ≤ i) w w' ∧ CNext st qi qo all st' qi' qo' all'

/-- What the loops that overwrite hold: each writes one row of its own, if any. -/
def OverRel2 (w0 : World) (a : Option Addr) (n : Nat) (i : Value) (wr : World) : Prop :=
  ∃ j, i = .int .i64 (j : Nat) ∧ j ≤ n ∧ (0 < n → ∃ g cur, a = some ⟨g, 0, none⟩ ∧ wr.heap[g]? = some (.cells cur 5 (0, 0)) ∧ n ≤ cur.size) ∧ Kept (fun k => a.map (·.block) = some k) w0 wr

/-- What one step is given. -/
structure StepIn (w : World) (p : Pl) (L : Nat) (aa : Option Addr) (ac : Nat) (r : RPl) (qi qo all : List UInt8) (st : Nat) (en : Bool) (oa : Option Addr) (ol oc : Nat) (bs : List UInt8) : Prop where
  h : ConnAt w p L aa ac qi qo all st en
  g : RefC w r (Yb L aa) qi qo all st en
  mi : r.mi = p.mi
  mo : r.mo = p.mo
  hl : bs.length = ol
  hb : ol ≤ oc
  hb2 : oc ≤ 140737488351232
  hsrc : IsB w oa bs
  hap : bs ≠ [] → ∀ y, oa = some y → y.block < p.B
  hL : L ≤ w.heap.size
  hr : ∀ i, r.In i → p.M ≤ i ∧ i < L
  hall : all.length ≤ 1000000
  hBM : p.B ≤ p.M

section
variable {w : World} {p : Pl} {L : Nat} {aa : Option Addr} {ac : Nat} {r : RPl} {qi qo all : List UInt8} {st : Nat} {en : Bool} {oa : Option Addr} {ol oc : Nat} {bs : List UInt8}
theorem StepIn.lt (s : StepIn w p L aa ac r qi qo all st en oa ol oc bs) : ∀ i, p.In aa i → i < w.heap.size := by
  rintro i (h | h)
  · have := s.h.hL; have := s.hL; omega
  · exact map_lt (fun y hy => (s.h.hall.at y hy).2) h
theorem StepIn.ge (s : StepIn w p L aa ac r qi qo all st en oa ol oc bs) : ∀ i, p.In aa i → p.B ≤ i := by
  rintro i (h | h)
  · exact h.1
  · have := map_ge (fun y hy => (s.h.hall.at y hy).1) h
    have := s.h.hL
    have := s.hBM
    omega
theorem StepIn.apart (s : StepIn w p L aa ac r qi qo all st en oa ol oc bs) : ∀ i, r.In i → ¬ p.In aa i := by
  rintro i hi (h | h)
  · have := s.hr i hi; omega
  · have := map_ge (fun y hy => (s.h.hall.at y hy).1) h
    have := s.hr i hi
    omega
/-- The document's side, kept apart from what this step makes. -/
theorem StepIn.far (s : StepIn w p L aa ac r qi qo all st en oa ol oc bs) {aa' a2 ga : Option Addr} (h1 : ∀ y, aa' = some y → aa.map (·.block) = some y.block ∨ w.heap.size ≤ y.block) (h2 : ∀ y, a2 = some y → w.heap.size ≤ y.block) (h3 : ∀ y, ga = some y → w.heap.size ≤ y.block) :
    RefC w r (Xm L aa aa' a2 ga) qi qo all st en := by
  refine s.g.mono (fun i hi h => ?_) ⟨.inl (s.hr _ (.inl rfl)).2, .inl (s.hr _ (.inr (.inl rfl))).2, .inl (s.hr _ (.inr (.inr rfl))).2⟩
  rcases h with h | h | h | h | h
  · exact .inl h
  · exact .inr h
  · cases ha : aa' with
    | none => rw [ha] at h; cases h
    | some y =>
      rw [ha] at h; simp at h
      rcases h1 y ha with e | e
      · exact .inr (by rw [e, h])
      · omega
  · have := map_ge h2 h; omega
  · have := map_ge h3 h; omega
end
end Go.Proofs.Ytfkchmkaccjjoaa
