/-
  A slice of the call's own, of elements of any type: append of one element and of some, and reading it.
-/
import Derived.Test.YtcfgbdhpcboikaaGreatDoorBase
import Derived.Lib.Hide
import Derived.Maps.AppendAt
namespace Go.Proofs.YtcfgbdhpcboikaaGreatDoor
open Go.RowKit

/-- A slice of n elements whose cells are xs. -/
def VecAt (w : World) (v : Value) (n : Nat) (xs : List Value) : Prop :=
  ∃ a c, v = .slice a n c ∧ ∀ j u, xs[j]? = some u → ∃ g off, a = some ⟨g, off, none⟩ ∧ w.cell? ⟨g, off + j, none⟩ = some u
theorem VecAt.below {w w' : World} {B n : Nat} {v : Value} {xs : List Value} (h : VecAt w v n xs) (hb : Below B w w') (hB : w.heap.size ≤ B) : VecAt w' v n xs := by
  obtain ⟨a, c, e, h⟩ := h
  refine ⟨a, c, e, fun j u hj => ?_⟩
  obtain ⟨g, off, ha, hc⟩ := h j u hj
  have hg : g < B := Nat.lt_of_lt_of_le (World.block_lt_of_cell? w _ hc) hB
  exact ⟨g, off, ha, by rw [hb.cell (p := ⟨g, _, none⟩) hg]; exact hc⟩
theorem VecAt.get {w : World} {v : Value} {n : Nat} {xs : List Value} (h : VecAt w v n xs) (j : Nat) (hj : j < xs.length) : ∃ g off c, v = .slice (some ⟨g, off, none⟩) n c ∧ w.cell? ⟨g, off + j, none⟩ = some xs[j] := by
  obtain ⟨a, c, e, h⟩ := h
  obtain ⟨g, off, ha, hc⟩ := h j _ (List.getElem?_eq_getElem hj)
  exact ⟨g, off, c, by rw [e, ha], hc⟩
/-- The call's own slice: it lies in blocks from B on; what is below B is as it was. -/
structure OwnV (B : Nat) (e : TypeId) (size : Nat) (v : Value) (n : Nat) (xs : List Value) (W0 w : World) : Prop where
  own : w.ownsRow B e size v n xs
  bel : Below B W0 w
  base : B ≤ w.heap.size
theorem OwnV.nil (W : World) (e : TypeId) (size : Nat) : OwnV W.heap.size e size (.slice none 0 0) 0 [] W W := ⟨World.ownsRow_nil _ _ _ _, Below.refl _ _, Nat.le_refl _⟩
theorem OwnV.of {B : Nat} {W0 w : World} (e : TypeId) (size : Nat) (hb : Below B W0 w) (hB : B ≤ w.heap.size) : OwnV B e size (.slice none 0 0) 0 [] W0 w := ⟨World.ownsRow_nil _ _ _ _, hb, hB⟩
theorem OwnV.cast {B : Nat} {e : TypeId} {size : Nat} {v : Value} {n n' : Nat} {xs xs' : List Value} {W0 w : World} (h : OwnV B e size v n xs W0 w) (hn : n = n') (hx : xs = xs') : OwnV B e size v n' xs' W0 w := by
  subst hn; subst hx; exact h
theorem OwnV.size_le {B : Nat} {e : TypeId} {size : Nat} {v : Value} {n : Nat} {xs : List Value} {W0 w : World} (h : OwnV B e size v n xs W0 w) : W0.heap.size ≤ w.heap.size := h.bel.size
/-- What does not touch it. -/
theorem OwnV.keep {B : Nat} {e : TypeId} {size : Nat} {v : Value} {n : Nat} {xs : List Value} {W0 w w' : World} (h : OwnV B e size v n xs W0 w) (hb : Below w.heap.size w w') : OwnV B e size v n xs W0 w' := by
  refine ⟨⟨h.own.1, ?_⟩, h.bel.trans (hb.mono h.base), Nat.le_trans h.base hb.size⟩
  rcases h.own.2 with hn | ⟨g, cap, cur, hv, hB, hg, rest⟩
  · exact .inl hn
  · have hlt : g < w.heap.size := (Array.getElem?_eq_some_iff.1 hg).1
    exact .inr ⟨g, cap, cur, hv, hB, by rw [hb.block g hlt]; exact hg, rest⟩
theorem OwnV.alloc {B : Nat} {e : TypeId} {size : Nat} {v : Value} {n : Nat} {xs : List Value} {W0 w : World} (h : OwnV B e size v n xs W0 w) (o : Obj) : OwnV B e size v n xs W0 (w.alloc o) :=
  h.keep ((Below.refl _ w).alloc (Nat.le_refl _) o)
theorem OwnV.drew {B : Nat} {e : TypeId} {size : Nat} {v : Value} {n : Nat} {xs : List Value} {W0 w : World} (h : OwnV B e size v n xs W0 w) : OwnV B e size v n xs W0 w.drew := h.keep (Below.refl _ w).drew
theorem OwnV.vec {B : Nat} {e : TypeId} {size : Nat} {v : Value} {n : Nat} {xs : List Value} {W0 w : World} (h : OwnV B e size v n xs W0 w) : VecAt w v n xs := by
  rcases h.own.2 with ⟨hv, h0⟩ | ⟨g, cap, cur, hv, hB, hg, hnc, hcm, hcs, htake⟩
  · have hx : xs = [] := List.eq_nil_of_length_eq_zero (by rw [h.own.1, h0, Nat.zero_mul])
    exact ⟨none, 0, by rw [hv, h0], fun j u hj => by rw [hx] at hj; simp at hj⟩
  · refine ⟨_, _, hv, fun j u hj => ⟨g, 0, rfl, ?_⟩⟩
    rw [Nat.zero_add, cell_of_row w g j cur e (0, 0) hg]
    rw [← htake, List.getElem?_take] at hj
    split at hj
    · simpa using hj
    · cases hj
theorem OwnV.slice {B : Nat} {e : TypeId} {size : Nat} {v : Value} {n : Nat} {xs : List Value} {W0 w : World} (h : OwnV B e size v n xs W0 w) : ∃ a c, v = .slice a n c ∧ n ≤ c ∧ ∀ y, a = some y → B ≤ y.block ∧ y.block < w.heap.size := by
  rcases h.own.2 with ⟨hv, h0⟩ | ⟨g, cap, cur, hv, hB, hg, hnc, hcm, hcs, htake⟩
  · exact ⟨none, 0, by rw [hv, h0], by omega, fun y hy => by cases hy⟩
  · refine ⟨_, _, hv, hnc, fun y hy => ?_⟩
    cases hy
    exact ⟨hB, (Array.getElem?_eq_some_iff.1 hg).1⟩
theorem OwnV.isB {B : Nat} {v : Value} {n : Nat} {a : Option Addr} {c : Nat} {bs : List UInt8} {W0 w : World} (h : OwnV B 5 1 v n (bs.map byteV) W0 w) (hv : v = .slice a n c) : IsB w a bs := by
  intro j b hb
  obtain ⟨a', c', e, h⟩ := h.vec
  rw [hv] at e
  simp only [Value.slice.injEq] at e
  obtain ⟨rfl, _, _⟩ := e
  obtain ⟨g, off, ha, hc⟩ := h j (byteV b) (by rw [List.getElem?_map, hb]; rfl)
  refine ⟨_, ha, ?_⟩
  have hadd : (⟨g, off, none⟩ : Addr).add j = ⟨g, off + j, none⟩ := by unfold Addr.add; split <;> simp_all
  rw [hadd]
  exact hc
/-- What an append of the slice v leaves as it was, and where its new row lies (w: the world ahead of it). -/
structure Grown (w w' : World) (v v' : Value) : Prop where
  gr : w.grownBy w' v.ownBlock
  loc : v'.ownBlock = v.ownBlock ∨ ∃ k, v'.ownBlock = some k ∧ w.heap.size ≤ k
/-- Two slices of the call's own that share no row. -/
def Apart (v u : Value) : Prop := v.ownBlock = none ∨ u.ownBlock = none ∨ v.ownBlock ≠ u.ownBlock
theorem Apart.nil (v : Value) : Apart (.slice none 0 0) v := .inl rfl
theorem Apart.symm {v u : Value} (h : Apart v u) : Apart u v := by
  rcases h with h | h | h
  · exact .inr (.inl h)
  · exact .inl h
  · exact .inr (.inr (Ne.symm h))
theorem Grown.other {B : Nat} {e : TypeId} {size : Nat} {u v v' : Value} {n : Nat} {xs : List Value} {W0 w w' : World} (h : Grown w w' v v') (hO : OwnV B e size u n xs W0 w) (ha : Apart v u) (hv : ∀ k, v.ownBlock = some k → B ≤ k) : OwnV B e size u n xs W0 w' := by
  refine ⟨⟨hO.own.1, ?_⟩, hO.bel.grown h.gr hO.base hv, Nat.le_trans hO.base h.gr.size⟩
  rcases hO.own.2 with hn | ⟨g, cap, cur, rfl, hB, hg, rest⟩
  · exact .inl hn
  · have hlt : g < w.heap.size := (Array.getElem?_eq_some_iff.1 hg).1
    refine .inr ⟨g, cap, cur, rfl, hB, ?_, rest⟩
    rw [h.gr.block g hlt (fun e => ?_)]
    · exact hg
    · rcases ha with h1 | h1 | h1
      · rw [h1] at e; cases e
      · cases h1
      · exact h1 e.symm
theorem Grown.apart {B : Nat} {e : TypeId} {size : Nat} {u v v' : Value} {n : Nat} {xs : List Value} {W0 w w' : World} (h : Grown w w' v v') (hO : OwnV B e size u n xs W0 w) (ha : Apart v u) : Apart v' u := by
  rcases h.loc with h1 | ⟨k, hk, hle⟩
  · unfold Apart; rw [h1]; exact ha
  · rcases hO.own.2 with ⟨rfl, _⟩ | ⟨g, cap, cur, rfl, hB, hg, rest⟩
    · exact .inr (.inl rfl)
    · have hlt : g < w.heap.size := (Array.getElem?_eq_some_iff.1 hg).1
      refine .inr (.inr ?_)
      rw [hk]
      intro e
      simp [Value.ownBlock] at e
      omega
theorem OwnV.hi {B : Nat} {e : TypeId} {size : Nat} {v : Value} {n : Nat} {xs : List Value} {W0 w : World} (hO : OwnV B e size v n xs W0 w) : ∀ k, v.ownBlock = some k → k < w.heap.size := by
  intro k hk
  rcases hO.own.2 with ⟨rfl, _⟩ | ⟨g, cap, cur, rfl, hbg, hg, _⟩
  · simp [Value.ownBlock] at hk
  · simp [Value.ownBlock] at hk
    subst hk
    exact (Array.getElem?_eq_some_iff.1 hg).1
theorem Grown.cell {w w' : World} {v v' u : Value} {p : Addr} (h : Grown w w' v v') (hc : w.cell? p = some u) (hne : v.ownBlock = some p.block → False) : w'.cell? p = some u :=
  (World.cell?_of_block (h.gr.block p.block (World.block_lt_of_cell? w p hc) (fun e => hne e.symm))).trans hc
theorem alloc_cell {w : World} {p : Addr} {u : Value} {o : Obj} (hc : w.cell? p = some u) : (w.alloc o).cell? p = some u := by
  rw [((Below.refl w.heap.size w).alloc (Nat.le_refl _) o).cell (World.block_lt_of_cell? w p hc)]
  exact hc
theorem OwnV.lo {B : Nat} {e : TypeId} {size : Nat} {v : Value} {n : Nat} {xs : List Value} {W0 w : World} (hO : OwnV B e size v n xs W0 w) : ∀ k, v.ownBlock = some k → B ≤ k := by
  intro k hk
  rcases hO.own.2 with ⟨rfl, _⟩ | ⟨g, cap, cur, rfl, hbg, _⟩
  · simp [Value.ownBlock] at hk
  · simp [Value.ownBlock] at hk
    subst hk
    exact hbg
section
variable {P : Program} {w : World} {ops : Array Oper} {rest : List Oper} {o : Oper} {a : Act} {Q : Exit → Act → World → Prop}
/-- 'append' of some elements onto the call's own slice. -/
theorem wpList_append_vec (hgd : o.guard = none) (s x : Operand) (t : TypeId)
    (ho : o.op = .call { callee := .builtin .append, args := #[s, x], argTypes := #[t, t] })
    (e : TypeId) (i : TypeInfo) (z : Value) (size bytes : Nat) (ht : P.underlying t = some (.slice e)) (hi : P.info? e = some i) (hz : i.zero = some z)
    (hsize : i.size = size) (hby : i.bytes = bytes) (hzs : z.cells.size = size) (hsz : 0 < size)
    {B : Nat} {W0 : World} (v : Value) (n : Nat) (xs : List Value) (hs : a.eval s = v) (hO : OwnV B e size v n xs W0 w)
    (ad : Addr) (m c : Nat) (news : List Value) (hx : a.eval x = .slice (some ad) m c) (hl : news.length = m * size) (hnews : ∀ j u, news[j]? = some u → w.cell? (ad.add j) = some u) (h1 : news.all (fun u => u.oneCell') = true)
    (hb : (n + m) * bytes ≤ 140737488355328) (hn : n + m ≤ 140737488355328)
    (h : ∀ v' w', Hid (OwnV B e size v' (n + m) (xs ++ news) W0 w') → Hid (Grown w w' v v') → wpList P ops Q rest (a.put o.dst v') w') : wpList P ops Q (o :: rest) a w := by
  refine wpList_append_own_at w hgd s x t ho B e i z size bytes ht hi hz hsize hby hzs hsz v n xs hs hO.own ad m c news hx hl hnews (fun u hu => List.all_eq_true.1 h1 u hu) (by unfold maxLen; omega) hb hO.base ?_
  intro v' w' ho' hg _ hat
  refine h v' w' ⟨ho', hO.bel.grown hg hO.base hO.lo, Nat.le_trans hO.base hg.size⟩ ⟨hg, ?_⟩
  rcases hat with hat | hat
  · exact .inl hat
  · exact .inr ⟨_, hat, Nat.le_refl _⟩
/-- 'append' of one element: its cells lie in the block that the statement has just made. -/
theorem wpList_append_one (hgd : o.guard = none) (s x : Operand) (t : TypeId)
    (ho : o.op = .call { callee := .builtin .append, args := #[s, x], argTypes := #[t, t] })
    (e : TypeId) (i : TypeInfo) (z : Value) (size bytes : Nat) (ht : P.underlying t = some (.slice e)) (hi : P.info? e = some i) (hz : i.zero = some z)
    (hsize : i.size = size) (hby : i.bytes = bytes) (hzs : z.cells.size = size) (hsz : 0 < size)
    {B : Nat} {W0 w0 : World} (v : Value) (n : Nat) (xs : List Value) (hs : a.eval s = v) (hO : OwnV B e size v n xs W0 w0)
    (cs : Array Value) (hw : w = w0.alloc (.cells cs e)) (hx : a.eval x = .slice (some ⟨w0.heap.size, 0, none⟩) 1 1) (hcs : cs.size = size) (h1 : cs.toList.all (fun u => u.oneCell') = true)
    (hb : (n + 1) * bytes ≤ 140737488355328) (hn : n + 1 ≤ 140737488355328)
    (h : ∀ v' w', Hid (OwnV B e size v' (n + 1) (xs ++ cs.toList) W0 w') → Hid (Grown (w0.alloc (.cells cs e)) w' v v') → wpList P ops Q rest (a.put o.dst v') w') : wpList P ops Q (o :: rest) a w := by
  subst hw
  refine wpList_append_vec hgd s x t ho e i z size bytes ht hi hz hsize hby hzs hsz v n xs hs (hO.alloc _) ⟨w0.heap.size, 0, none⟩ 1 1 cs.toList hx (by simpa using hcs) ?_ h1 hb hn h
  intro j u hj
  have hadd : (⟨w0.heap.size, 0, none⟩ : Addr).add j = ⟨w0.heap.size, j, none⟩ := by unfold Addr.add; split <;> simp_all
  rw [hadd, cell_of_row _ _ j cs e (0, 0) (heap_alloc_new w0 _)]
  simpa using hj
end
end Go.Proofs.YtcfgbdhpcboikaaGreatDoor
