/-
  A slice of bytes that a call appends to, step by step, as one predicate.
-/
import Derived.Test.YtdgmokfdkophpaaGreatDoorSetD
namespace Go.Proofs.YtdgmokfdkophpaaGreatDoor
open Go.RowKit

/-- Bytes gathered in a slice of the call's own; what is outside S is as it was in w0. -/
structure Out (w0 w : World) (B : Nat) (S : Nat → Prop) (ad : Option Addr) (c : Nat) (bs : List UInt8) : Prop where
  own : OwnB w B 5 ad c bs
  kept : Kept S w0 w
  lies : ∀ y, ad = some y → S y.block ∨ w0.heap.size ≤ y.block
  base : B ≤ w.heap.size

theorem Out.alloc {w0 w : World} {B : Nat} {S : Nat → Prop} {ad : Option Addr} {c : Nat} {bs : List UInt8} (h : Out w0 w B S ad c bs) (o : Obj) : Out w0 (w.alloc o) B S ad c bs :=
  ⟨h.own.kept ((Kept.refl (fun _ => False) w).alloc o) (fun _ _ h => h), h.kept.alloc o, h.lies, by have := h.base; simp; omega⟩
theorem Out.drewN {w0 w : World} {B : Nat} {S : Nat → Prop} {ad : Option Addr} {c : Nat} {bs : List UInt8} (h : Out w0 w B S ad c bs) (n : Nat) : Out w0 (w.drewN n) B S ad c bs :=
  ⟨h.own.kept ((Kept.refl (fun _ => False) w).drewN n) (fun _ _ h => h), h.kept.drewN n, h.lies, h.base⟩
theorem Out.next {w0 w w' : World} {B : Nat} {S : Nat → Prop} {ad ad' : Option Addr} {c c' : Nat} {bs bs' : List UInt8} (h : Out w0 w B S ad c bs)
    (ho : OwnB w' B 5 ad' c' bs') (hk : Kept (fun k => ad.map (·.block) = some k) w w') (ha : ∀ y, ad' = some y → ad.map (·.block) = some y.block ∨ w.heap.size ≤ y.block) : Out w0 w' B S ad' c' bs' := by
  have hs := h.kept.size
  refine ⟨ho, h.kept.trans' hk ?_, ?_, Nat.le_trans h.base hk.size⟩
  · intro i hi e
    cases ad with
    | none => cases e
    | some y =>
      have e' : y.block = i := by simpa using e
      rcases h.lies y rfl with h1 | h1
      · rwa [e'] at h1
      · omega
  · intro y hy
    rcases ha y hy with h1 | h1
    · cases ad with
      | none => cases h1
      | some z =>
        have e' : z.block = y.block := by simpa using h1
        rw [← e']
        exact h.lies z rfl
    · exact .inr (by omega)

section
variable {P : Program} {w : World} {ops : Array Oper} {rest : List Oper} {o : Oper} {a : Act} {Q : Exit → Act → World → Prop}
/-- 'append' of bytes that lie anywhere. -/
theorem wpList_appendOut (hgd : o.guard = none) (s x : Operand) (t : TypeId)
    (ho : o.op = .call { callee := .builtin .append, args := #[s, x], argTypes := #[t, t] })
    (i : TypeInfo) (ht : P.underlying t = some (.slice 5)) (hi : P.info? 5 = some i) (hz : i.zero = some (.int .u8 0)) (hsize : i.size = 1) (hby : i.bytes = 1)
    {w0 : World} {B : Nat} {S : Nat → Prop} (ad : Option Addr) (n c : Nat) (bs : List UInt8) (hs : a.eval s = .slice ad n c) (hn : bs.length = n) (hO : Out w0 w B S ad c bs)
    (sp : Option Addr) (m sc : Nat) (cs : List UInt8) (hx : a.eval x = .slice sp m sc) (hm : cs.length = m) (hsrc : IsB w sp cs) (hb : n + m ≤ 1000000)
    (h : ∀ ad' c' w', Hid (Out w0 w' B S ad' c' (bs ++ cs)) → wpList P ops Q rest (a.put o.dst (.slice ad' (n + m : Nat) c')) w') : wpList P ops Q (o :: rest) a w :=
  wpList_appendB hgd s x t ho B 5 i ht hi hz hsize hby ad n c bs hs hn hO.own sp m sc cs hx hm hsrc (by omega) hO.base
    (fun ad' c' w' h1 h2 h3 => h ad' c' w' (show Out _ _ _ _ _ _ _ from hO.next h1.out h2 h3))
/-- 'append' of bytes that are named in the call: they lie in a block of their own. -/
theorem wpList_appendNew (hgd : o.guard = none) (s x : Operand) (t : TypeId)
    (ho : o.op = .call { callee := .builtin .append, args := #[s, x], argTypes := #[t, t] })
    (i : TypeInfo) (ht : P.underlying t = some (.slice 5)) (hi : P.info? 5 = some i) (hz : i.zero = some (.int .u8 0)) (hsize : i.size = 1) (hby : i.bytes = 1)
    {w0 w1 : World} {B : Nat} {S : Nat → Prop} (ad : Option Addr) (n c : Nat) (bs : List UInt8) (hs : a.eval s = .slice ad n c) (hn : bs.length = n) (hO : Out w0 w1 B S ad c bs)
    (m sc : Nat) (cs : List UInt8) (vs : Array Value) (hw : w = w1.alloc (.cells vs 5)) (hvs : vs = (cs.map byteV).toArray) (hx : a.eval x = .slice (some ⟨w1.heap.size, 0, none⟩) m sc) (hm : cs.length = m) (hb : n + m ≤ 1000000)
    (h : ∀ ad' c' w', Hid (Out w0 w' B S ad' c' (bs ++ cs)) → wpList P ops Q rest (a.put o.dst (.slice ad' (n + m : Nat) c')) w') : wpList P ops Q (o :: rest) a w := by
  subst hw
  subst hvs
  exact wpList_appendOut hgd s x t ho i ht hi hz hsize hby ad n c bs hs hn (hO.alloc _) _ m sc cs hx hm (IsB.of_heap (arr := cs) (heap_alloc_new w1 _) 0) hb h
end

/-- The digits of an exponent. -/
def expText (x : Nat) : List UInt8 :=
  if x < 10 then [48, UInt8.ofNat (x + 48)] else if x < 100 then [UInt8.ofNat (x / 10 + 48), UInt8.ofNat (x % 10 + 48)]
  else [UInt8.ofNat (x / 100 + 48), UInt8.ofNat (x / 10 % 10 + 48), UInt8.ofNat (x % 10 + 48)]
/-- Digits in the form 'e'. -/
def eText (D : List UInt8) (x : Int) : List UInt8 :=
  D.take 1 ++ (if 1 < D.length then 46 :: D.drop 1 else []) ++ [101, if x < 0 then 45 else 43] ++ expText x.natAbs
end Go.Proofs.YtdgmokfdkophpaaGreatDoor
