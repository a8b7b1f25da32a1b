/-
  A chain of tests of one word against constants ('switch' over strings), test by test: a rule for each, without the walk. Over any program.
-/
import Derived.WalkKit
import Derived.Lib.Hide
namespace Go.Proofs.YtcfgbdhpcboikaaGreatDoor
open Go.RowKit

/-- What a chain of tests leaves as it was: the word's slot. -/
structure Chain (s : ByteArray) (k n : Nat) (a : Act) : Prop where
  size : a.tmps.size = n
  word : a.tmps[k]? = some (.string s)
  defers : a.defers = []

theorem Chain.put {s : ByteArray} {k n : Nat} {a : Act} (h : Chain s k n a) (t : Nat) (v : Value) (ht : t ≠ k) : Chain s k n (a.put (some t) v) :=
  ⟨by simp [Act.put, h.size], by simp [Act.put, ht, h.word], h.defers⟩
theorem Chain.eval {s : ByteArray} {k n : Nat} {a : Act} (h : Chain s k n a) : a.eval (.tmp k) = .string s := by
  simp [Act.eval, Array.getD_eq_getD_getElem?, h.word]
theorem eval_put {a : Act} {t : Nat} {v : Value} (h : t < a.tmps.size) : (a.put (some t) v).eval (.tmp t) = v := by
  simp [Act.eval, Act.put, Array.getD_eq_getD_getElem?, h]

/-- One test and its result laid into a slot. -/
theorem chain_eq {P : Program} {Q : Exit → Act → World → Prop} {w : World} (T B : TypeId) (s c : ByteArray) (k n ta tc : Nat) (hta : ta ≠ k) (htc : tc ≠ k) (hna : ta < n) (hnc : tc < n)
    {rid : Nat} {p1 p2 : String} {f1 f2 : Array Edge} {a : Act} (hC : Chain s k n a)
    (h : ∀ a', Chain s k n a' → a'.eval (.tmp tc) = .bool (s.toList == c.toList) → Q .normal a' w) :
    (Code.region rid #[{ dst := some ta, op := Op.binOp BinOp.eql T (Operand.tmp k) (Operand.const (Value.string c)) T, type := B, pos := p1, after := f1, guard := none },
      { dst := some tc, op := Op.assign (Operand.tmp ta), type := B, pos := p2, after := f2, guard := none }] false).wp P Q a w := by
  have h1 := hC.put ta (.bool (s.toList == c.toList)) hta
  have e1 := eval_put (a := a) (t := ta) (v := .bool (s.toList == c.toList)) (by rw [hC.size]; exact hna)
  have h2 := h1.put tc (.bool (s.toList == c.toList)) htc
  have e2 := eval_put (a := a.put (some ta) (.bool (s.toList == c.toList))) (t := tc) (v := .bool (s.toList == c.toList)) (by rw [h1.size]; exact hnc)
  have ev := hC.eval
  have ec : a.eval (.const (.string c)) = .string c := rfl
  refine wp_region_lit (l := [_, _]) ?_
  refine wpList_plain rfl fun K hK => ?_
  have hx := hK _ _ (wpList_plain (P := P) (w := w) (rest := []) (o := { dst := some tc, op := Op.assign (Operand.tmp ta), type := B, pos := p2, after := f2, guard := none }) (a := a.put (some ta) (.bool (s.toList == c.toList))) rfl fun K2 hK2 => by
    have := hK2 _ _ (wpList_nil (h _ h2 e2))
    unfold Oper.wp
    simp [execOp, e1, Oper.upon]
    exact this)
  unfold Oper.wp
  simp [execOp, eqGuard, ev, ec, binOp_string_eql, Oper.upon]
  exact hx

/-- .. against a word that it is not. -/
theorem chain_no {P : Program} {Q : Exit → Act → World → Prop} {w : World} (T : TypeId) (s c : ByteArray) (k n : Nat) (hne : (s.toList == c.toList) = false)
    {B : TypeId} {ta tc : Nat} {rid : Nat} {p1 p2 : String} {f1 f2 : Array Edge} {a : Act} (hC : Chain s k n a) (hta : (ta != k && tc != k && decide (ta < n) && decide (tc < n)) = true)
    (h : ∀ a', Chain s k n a' → a'.eval (.tmp tc) = .bool false → Q .normal a' w) :
    (Code.region rid #[{ dst := some ta, op := Op.binOp BinOp.eql T (Operand.tmp k) (Operand.const (Value.string c)) T, type := B, pos := p1, after := f1, guard := none },
      { dst := some tc, op := Op.assign (Operand.tmp ta), type := B, pos := p2, after := f2, guard := none }] false).wp P Q a w := by
  simp only [Bool.and_eq_true, bne_iff_ne, ne_eq, decide_eq_true_eq] at hta
  exact chain_eq T B s c k n ta tc hta.1.1.1 hta.1.1.2 hta.1.2 hta.2 hC fun a' h1 h2 => h a' h1 (by rw [h2, hne])
/-- A constant laid into a slot. -/
theorem chain_const {P : Program} {Q : Exit → Act → World → Prop} {w : World} {s : ByteArray} {k n : Nat} {B : TypeId} {t : Nat} {v : Value} {rid : Nat} {p1 : String} {f1 : Array Edge} {a : Act} (hC : Chain s k n a) (ht : (t != k && decide (t < n)) = true)
    (h : ∀ a', Chain s k n a' → a'.eval (.tmp t) = v → Q .normal a' w) :
    (Code.region rid #[{ dst := some t, op := Op.assign (Operand.const v), type := B, pos := p1, after := f1, guard := none }] false).wp P Q a w := by
  simp only [Bool.and_eq_true, bne_iff_ne, ne_eq, decide_eq_true_eq] at ht
  have h1 := hC.put t v ht.1
  have e1 := eval_put (a := a) (t := t) (v := v) (by rw [hC.size]; exact ht.2)
  have ec : a.eval (.const v) = v := rfl
  refine wp_region_lit (l := [_]) ?_
  refine wpList_plain rfl fun K hK => ?_
  have hx := hK _ _ (wpList_nil (h _ h1 e1))
  unfold Oper.wp
  simp [execOp, ec, Oper.upon]
  exact hx
/-- The word moved into the slot that is asked. -/
theorem chain_move {P : Program} {Q : Exit → Act → World → Prop} {w : World} {s : ByteArray} {k n : Nat} {B : TypeId} {t : Nat} {rid : Nat} {p1 : String} {f1 : Array Edge} {a : Act} (hC : Chain s k n a) (ht : decide (t < n) = true)
    (h : ∀ a', Chain s t n a' → Q .normal a' w) :
    (Code.region rid #[{ dst := some t, op := Op.move (Operand.tmp k), type := B, pos := p1, after := f1, guard := none }] false).wp P Q a w := by
  simp only [decide_eq_true_eq] at ht
  have ev := hC.eval
  have h1 : Chain s t n (a.put (some t) (.string s)) := ⟨by simp [Act.put, hC.size], by simp [Act.put, hC.size, ht], hC.defers⟩
  refine wp_region_lit (l := [_]) ?_
  refine wpList_plain rfl fun K hK => ?_
  have hx := hK _ _ (wpList_nil (h _ h1))
  unfold Oper.wp
  simp [execOp, ev, Oper.upon]
  exact hx
theorem then_normal {next : Act → World → Prop} {Q : Exit → Act → World → Prop} {a : Act} {w : World} (h : next a w) : Exit.then next Q .normal a w := h
theorem block_normal {id : Nat} {Q : Exit → Act → World → Prop} {a : Act} {w : World} (h : Q .normal a w) : Exit.inBlock id Q .normal a w := h
theorem chain_start (s : ByteArray) (m : Nat) : Chain s 0 (m + 1) { tmps := #[Value.string s] ++ Array.replicate m undef, defers := [] } :=
  ⟨by simp; omega, by rw [Array.getElem?_append_left (by simp)]; rfl, rfl⟩
end Go.Proofs.YtcfgbdhpcboikaaGreatDoor
