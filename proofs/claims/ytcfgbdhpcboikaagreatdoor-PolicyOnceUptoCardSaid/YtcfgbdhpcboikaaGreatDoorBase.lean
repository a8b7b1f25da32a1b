/-
  Lemmas on byte slices and frames, over any program: what a copy, an append, a conversion to a string does to slices of bytes. No program in sight.
  A slice of the call's own, of elements of any type: append of one element and of some, and reading it.
-/
import Derived.WalkKit
import Derived.WalkLawsBesides
import Derived.WalkSpells
import Derived.Laws.CopyOwn
import Derived.Laws.AppendOwnNone
import Derived.Laws.BytesArg
import Derived.Maps.AppendAt
import Derived.StillTailTactics
import Derived.Deep.Draws
import Derived.Lib.Hide
namespace Go.Proofs.YtcfgbdhpcboikaaGreatDoor
open Go.RowKit

def byteV (b : UInt8) : Value := .int .u8 b.toNat

theorem oneCell_byteV (cs : List UInt8) : ∀ v ∈ cs.map byteV, v.oneCell' = true := by
  intro v hv
  obtain ⟨b, _, rfl⟩ := List.mem_map.1 hv
  rfl

structure Kept (S : Nat → Prop) (w w' : World) : Prop where
  os : w'.os = w.os
  tape : w'.tape = w.tape
  output : w'.output = w.output
  size : w.heap.size ≤ w'.heap.size
  block : ∀ k, k < w.heap.size → ¬ S k → w'.heap[k]? = w.heap[k]?

theorem Kept.refl (S : Nat → Prop) (w : World) : Kept S w w := ⟨rfl, rfl, rfl, Nat.le_refl _, fun _ _ _ => rfl⟩
theorem Kept.trans {S : Nat → Prop} {a b c : World} (h : Kept S a b) (k : Kept S b c) : Kept S a c :=
  ⟨k.os.trans h.os, k.tape.trans h.tape, k.output.trans h.output, Nat.le_trans h.size k.size, fun i hi hs => (k.block i (Nat.lt_of_lt_of_le hi h.size) hs).trans (h.block i hi hs)⟩
theorem Kept.mono {S S' : Nat → Prop} {a b : World} (h : Kept S a b) (hs : ∀ k, k < a.heap.size → S k → S' k) : Kept S' a b :=
  ⟨h.os, h.tape, h.output, h.size, fun k hk hn => h.block k hk (fun x => hn (hs k hk x))⟩
theorem Kept.trans' {S S' : Nat → Prop} {a b c : World} (h : Kept S a b) (k : Kept S' b c) (hs : ∀ i, i < a.heap.size → S' i → S i) : Kept S a c :=
  ⟨k.os.trans h.os, k.tape.trans h.tape, k.output.trans h.output, Nat.le_trans h.size k.size, fun i hi hn => (k.block i (Nat.lt_of_lt_of_le hi h.size) (fun x => hn (hs i hi x))).trans (h.block i hi hn)⟩
theorem Kept.drew {S : Nat → Prop} {a b : World} (h : Kept S a b) : Kept S a b.drew := ⟨h.os, h.tape, h.output, h.size, h.block⟩
theorem Kept.drewN {S : Nat → Prop} {a b : World} (h : Kept S a b) (n : Nat) : Kept S a (b.drewN n) := ⟨h.os, h.tape, h.output, h.size, h.block⟩
theorem Kept.alloc {S : Nat → Prop} {a b : World} (h : Kept S a b) (o : Obj) : Kept S a (b.alloc o) :=
  h.trans ⟨rfl, rfl, rfl, by simp, fun k hk _ => Below.heap_alloc b o k hk⟩
theorem Kept.setCell {S : Nat → Prop} {a b : World} (h : Kept S a b) (p : Addr) (v : Value) (hp : p.block < a.heap.size → S p.block) : Kept S a (b.setCell p v) :=
  h.trans' (S' := (· = p.block)) ⟨rfl, rfl, rfl, by simp [World.setCell], fun k _ hn => heap_setCell_other b p k v hn⟩ (fun i hi e => by subst e; exact hp hi)
theorem Kept.below {S : Nat → Prop} {B : Nat} {w w' : World} (h : Kept S w w') (hB : B ≤ w.heap.size) (hs : ∀ k, k < w.heap.size → S k → B ≤ k) : Below B w w' :=
  ⟨h.os, h.tape, h.output, h.size, fun k hk => h.block k (by omega) (fun x => by have := hs k (by omega) x; omega)⟩
theorem Kept.of_below {B : Nat} {w w' : World} (h : Below B w w') : Kept (B ≤ ·) w w' :=
  ⟨h.os, h.tape, h.output, h.size, fun k _ hn => h.block k (by omega)⟩
theorem Kept.of_grownBy {w w' : World} {row : Option Nat} (h : w.grownBy w' row) : Kept (fun k => some k = row) w w' :=
  ⟨h.os, h.tape, h.output, h.size, fun k hk hn => h.block k hk hn⟩
theorem Kept.heap {S : Nat → Prop} {w w' : World} (h : Kept S w w') {k : Nat} {o : Obj} (hk : w.heap[k]? = some o) (hs : ¬ S k) : w'.heap[k]? = some o :=
  (h.block k (Array.getElem?_eq_some_iff.1 hk).1 hs).trans hk
theorem Kept.cell {S : Nat → Prop} {w w' : World} (h : Kept S w w') {p : Addr} {v : Value} (hk : w.cell? p = some v) (hs : ¬ S p.block) : w'.cell? p = some v :=
  (World.cell?_of_block (h.block p.block (World.block_lt_of_cell? w p hk) hs)).trans hk

def IsB (w : World) (a : Option Addr) (bs : List UInt8) : Prop :=
  ∀ j b, bs[j]? = some b → ∃ x, a = some x ∧ w.cell? (x.add j) = some (byteV b)

theorem addr_add_add (x : Addr) (i j : Nat) : (x.add i).add j = x.add (i + j) := by
  unfold Addr.add
  by_cases hi : i = 0 <;> by_cases hj : j = 0 <;> simp [hi, hj] <;> omega
theorem addr_add_block (x : Addr) (i : Nat) : (x.add i).block = x.block := by unfold Addr.add; split <;> rfl

theorem IsB.nil (w : World) (a : Option Addr) : IsB w a [] := fun j b h => by simp at h
theorem IsB.none_eq {w : World} {bs : List UInt8} (h : IsB w none bs) : bs = [] := by
  cases bs with
  | nil => rfl
  | cons b bs => obtain ⟨x, hx, _⟩ := h 0 b rfl; cases hx
theorem IsB.values {w : World} {x : Addr} {bs : List UInt8} (h : IsB w (some x) bs) : ∀ j u, (bs.map byteV)[j]? = some u → w.cell? (x.add j) = some u := by
  intro j u hu
  rw [List.getElem?_map] at hu
  cases hb : bs[j]? with
  | none => rw [hb] at hu; cases hu
  | some b =>
    rw [hb] at hu
    simp at hu
    subst hu
    obtain ⟨y, hy, hc⟩ := h j b hb
    cases hy
    exact hc
theorem IsB.take {w : World} {a : Option Addr} {bs : List UInt8} (h : IsB w a bs) (n : Nat) : IsB w a (bs.take n) := by
  intro j b hb
  rw [List.getElem?_take] at hb
  split at hb
  · exact h j b hb
  · cases hb
theorem IsB.cut {w : World} {a : Option Addr} {bs : List UInt8} (h : IsB w a bs) (l m : Nat) (hm : bs.length ≤ m) : IsB w (if m = l then a else a.map (·.add l)) (bs.drop l) := by
  intro j b hb
  rw [List.getElem?_drop] at hb
  have hj : l + j < bs.length := by
    rcases Nat.lt_or_ge (l + j) bs.length with h1 | h1
    · exact h1
    · rw [List.getElem?_eq_none h1] at hb; cases hb
  obtain ⟨x, rfl, hc⟩ := h (l + j) b hb
  rw [if_neg (by omega)]
  exact ⟨x.add l, rfl, by rw [addr_add_add x l j]; exact hc⟩
theorem IsB.kept {S : Nat → Prop} {w w' : World} {a : Option Addr} {bs : List UInt8} (h : IsB w a bs) (k : Kept S w w') (hs : ∀ x, a = some x → bs ≠ [] → ¬ S x.block) : IsB w' a bs := by
  intro j b hb
  obtain ⟨x, hx, hc⟩ := h j b hb
  exact ⟨x, hx, k.cell hc (by rw [addr_add_block]; exact hs x hx (by intro e; subst e; simp at hb))⟩
theorem IsB.lt {w : World} {x : Addr} {bs : List UInt8} (h : IsB w (some x) bs) (hb : bs ≠ []) : x.block < w.heap.size := by
  cases bs with
  | nil => exact absurd rfl hb
  | cons b bs =>
    obtain ⟨y, hy, hc⟩ := h 0 b rfl
    cases hy
    have := World.block_lt_of_cell? w _ hc
    rw [addr_add_block] at this
    exact this
theorem IsB.of_heap {w : World} {g : Nat} {arr : List UInt8} {E : TypeId} {fz : Nat × Nat} (h : w.heap[g]? = some (.cells (arr.map byteV).toArray E fz)) (o : Nat) : IsB w (some ⟨g, o, none⟩) (arr.drop o) := by
  intro j b hb
  refine ⟨_, rfl, ?_⟩
  have hadd : (⟨g, o, none⟩ : Addr).add j = ⟨g, o + j, none⟩ := by unfold Addr.add; split <;> simp_all
  rw [hadd, cell_of_row w g (o + j) _ _ _ h]
  rw [List.getElem?_drop] at hb
  simp [hb]

section
variable {P : Program} {w : World} {ops : Array Oper} {rest : List Oper} {o : Oper} {a : Act} {Q : Exit → Act → World → Prop}

theorem toList_zeros (k : Nat) : madeCells (Value.int .u8 0).cells (k * 1) = ((List.replicate k (0 : UInt8)).map byteV).toArray := by
  apply Array.toList_inj.1
  rw [show (Value.int .u8 0).cells = #[Value.int .u8 0] from rfl, toList_madeCells_one]
  simp [byteV]

def OwnB (w : World) (base : Nat) (E : TypeId) (a : Option Addr) (c : Nat) (bs : List UInt8) : Prop :=
  w.ownsRow base E 1 (.slice a bs.length c) bs.length (bs.map byteV)

theorem OwnB.nil (w : World) (base : Nat) (E : TypeId) : OwnB w base E none 0 [] := World.ownsRow_nil w base E 1
theorem OwnB.isB {base : Nat} {E : TypeId} {x : Option Addr} {c : Nat} {bs : List UInt8} (h : OwnB w base E x c bs) : IsB w x bs := by
  intro j b hb
  rcases h.2 with ⟨hv, h0⟩ | ⟨g, cap, cur, hv, hbg, hg, hnc, hcm, hcs, htake⟩
  · obtain rfl : bs = [] := List.eq_nil_of_length_eq_zero h0
    simp at hb
  · simp only [Value.slice.injEq] at hv
    obtain ⟨rfl, _, rfl⟩ := hv
    refine ⟨_, rfl, ?_⟩
    have hadd : (⟨g, 0, none⟩ : Addr).add j = ⟨g, j, none⟩ := by unfold Addr.add; split <;> simp_all
    rw [hadd, cell_of_row w g j cur E (0, 0) hg]
    have hj : j < bs.length := by
      rcases Nat.lt_or_ge j bs.length with h1 | h1
      · exact h1
      · rw [List.getElem?_eq_none h1] at hb; cases hb
    have h2 : (cur.toList.take (bs.length * 1))[j]? = some (byteV b) := by rw [htake]; simp [hb]
    rw [List.getElem?_take] at h2
    rw [if_pos (by omega)] at h2
    simpa using h2
theorem OwnB.cap {base : Nat} {E : TypeId} {x : Option Addr} {c : Nat} {bs : List UInt8} (h : OwnB w base E x c bs) : bs.length ≤ c ∧ c ≤ maxLen := by
  rcases h.2 with ⟨hv, h0⟩ | ⟨g, cap, cur, hv, hbg, hg, hnc, hcm, hcs, htake⟩
  · simp only [Value.slice.injEq] at hv
    obtain ⟨_, h1, rfl⟩ := hv
    exact ⟨by omega, by unfold maxLen; omega⟩
  · simp only [Value.slice.injEq] at hv
    obtain ⟨_, _, rfl⟩ := hv
    exact ⟨hnc, hcm⟩
theorem OwnB.at {base : Nat} {E : TypeId} {x : Option Addr} {c : Nat} {bs : List UInt8} (h : OwnB w base E x c bs) : ∀ y, x = some y → base ≤ y.block ∧ y.block < w.heap.size := by
  intro y hy
  subst hy
  exact h.lt y.block rfl
theorem OwnB.kept {S : Nat → Prop} {w' : World} {base : Nat} {E : TypeId} {x : Option Addr} {c : Nat} {bs : List UInt8} (h : OwnB w base E x c bs) (k : Kept S w w') (hs : ∀ y, x = some y → ¬ S y.block) : OwnB w' base E x c bs := by
  refine ⟨h.1, ?_⟩
  rcases h.2 with hn | ⟨g, cap, cur, hv, hb, hgg, rest⟩
  · exact .inl hn
  · have hv' := hv
    simp only [Value.slice.injEq] at hv'
    exact .inr ⟨g, cap, cur, hv, hb, k.heap hgg (hs _ hv'.1), rest⟩

theorem run_append_noneB (base : Nat) (t ty e : TypeId) (i : TypeInfo) (ht : P.underlying t = some (.slice e)) (hi : P.info? e = some i)
    (v : Value) (n c : Nat) (xs : List Value) (hown : w.ownsRow base e 1 v n xs) :
    (Builtin.append_ #[t, t] ty #[v, .slice none 0 c]).run P w = .ok v w := by
  rcases hown.2 with ⟨rfl, rfl⟩ | ⟨g, cap, cur, rfl, _, _, hnc, _⟩
  · simp [Builtin.append_, run_underlying ht, sizeOf, typeInfo, hi, Builtin.lenOf, Builtin.firstCells]
  · simp [Builtin.append_, run_underlying ht, sizeOf, typeInfo, hi, Builtin.lenOf, Builtin.firstCells, hnc, storeCells]

theorem wp_appendB {K : Act → World → Prop} (s x : Operand) (t : TypeId)
    (ho : o.op = .call { callee := .builtin .append, args := #[s, x], argTypes := #[t, t] })
    (base : Nat) (E : TypeId) (i : TypeInfo) (ht : P.underlying t = some (.slice E)) (hi : P.info? E = some i) (hz : i.zero = some (.int .u8 0))
    (hsize : i.size = 1) (hby : i.bytes = 1)
    (ad : Option Addr) (n c : Nat) (bs : List UInt8) (hs : a.eval s = .slice ad n c) (hn : bs.length = n) (hown : OwnB w base E ad c bs)
    (sp : Option Addr) (m sc : Nat) (cs : List UInt8) (hx : a.eval x = .slice sp m sc) (hm : cs.length = m) (hsrc : IsB w sp cs)
    (hbytes : n + m ≤ 140737488355328) (hbase : base ≤ w.heap.size)
    (h : ∀ ad' c' w', Hid (OwnB w' base E ad' c' (bs ++ cs)) → Kept (fun k => ad.map (·.block) = some k) w w' → (∀ y, ad' = some y → ad.map (·.block) = some y.block ∨ w.heap.size ≤ y.block) →
      K (a.put o.dst (.slice ad' (n + m : Nat) c')) w') : o.wp P a w K Q := by
  subst hn
  subst hm
  cases sp with
  | none =>
    have h0 := hsrc.none_eq
    subst h0
    have hrun := run_append_noneB (P := P) (w := w) base t o.type E i ht hi (.slice ad bs.length c) bs.length sc _ hown
    unfold Oper.wp
    have hx' : a.eval x = .slice none 0 sc := by simpa using hx
    simp [execOp, ho, resolve, invoke, builtin, hs, hx', hrun, Result.andThen]
    have := h ad c w (show OwnB _ _ _ _ _ _ by simpa using hown) (Kept.refl _ _) (fun y hy => .inl (by subst hy; rfl))
    simp only [List.length_nil, Nat.add_zero] at this
    exact this
  | some y =>
    obtain ⟨v', w', hr, hown', hgrow, hnil, hat⟩ := run_append_own_at (P := P) w base t o.type E i (.int .u8 0) 1 1 ht hi hz hsize hby rfl (by decide) (.slice ad bs.length c) bs.length _ hown y cs.length sc (cs.map byteV) (by simp) hsrc.values (oneCell_byteV cs)
      (by unfold maxLen; omega) (by omega) hbase
    unfold Oper.wp execOp
    simp only [ho, resolve, invoke, builtin, Sem.run_bind, Sem.run_pure, Result.andThen_ok, List.map_toArray, List.map_cons, List.map_nil, hs, hx, hr]
    clear hr
    have hex : ∃ ad' c', v' = .slice ad' (bs.length + cs.length) c' := by
      rcases hown'.2 with ⟨rfl, h0⟩ | ⟨g, cap, cur, rfl, _⟩
      · exact ⟨none, 0, by rw [h0]⟩
      · exact ⟨_, _, rfl⟩
    obtain ⟨ad', c', rfl⟩ := hex
    have hmap : (Value.slice ad bs.length c).ownBlock = ad.map (·.block) := by cases ad <;> rfl
    have hK : Kept (fun k => ad.map (·.block) = some k) w w' := by
      refine (Kept.of_grownBy hgrow).mono ?_
      intro k _ hk
      rw [← hmap]
      exact hk.symm
    refine h ad' c' w' (show OwnB _ _ _ _ _ _ by unfold OwnB; simpa using hown') hK ?_
    intro y' hy'
    subst hy'
    rw [hmap] at hat
    rcases hat with h1 | h1
    · left
      rw [← h1]; rfl
    · right
      have : y'.block = w.heap.size := by simpa [Value.ownBlock] using h1
      omega

theorem wpList_appendB (hgd : o.guard = none) (s x : Operand) (t : TypeId)
    (ho : o.op = .call { callee := .builtin .append, args := #[s, x], argTypes := #[t, t] })
    (base : Nat) (E : TypeId) (i : TypeInfo) (ht : P.underlying t = some (.slice E)) (hi : P.info? E = some i) (hz : i.zero = some (.int .u8 0))
    (hsize : i.size = 1) (hby : i.bytes = 1)
    (ad : Option Addr) (n c : Nat) (bs : List UInt8) (hs : a.eval s = .slice ad n c) (hn : bs.length = n) (hown : OwnB w base E ad c bs)
    (sp : Option Addr) (m sc : Nat) (cs : List UInt8) (hx : a.eval x = .slice sp m sc) (hm : cs.length = m) (hsrc : IsB w sp cs)
    (hbytes : n + m ≤ 140737488355328) (hbase : base ≤ w.heap.size)
    (h : ∀ ad' c' w', Hid (OwnB w' base E ad' c' (bs ++ cs)) → Kept (fun k => ad.map (·.block) = some k) w w' → (∀ y, ad' = some y → ad.map (·.block) = some y.block ∨ w.heap.size ≤ y.block) →
      wpList P ops Q rest (a.put o.dst (.slice ad' (n + m : Nat) c')) w') : wpList P ops Q (o :: rest) a w :=
  wpList_plain hgd fun _ hK => wp_appendB s x t ho base E i ht hi hz hsize hby ad n c bs hs hn hown sp m sc cs hx hm hsrc hbytes hbase fun ad' c' w' h1 h2 h3 => hK _ _ (h ad' c' w' h1 h2 h3)

end

theorem run_convB {P : Program} (w : World) (src E dst : TypeId) (hs : P.underlying src = some (.slice E)) (he : P.underlying E = some (.int .u8)) (hd : P.underlying dst = some .string)
    (x : Option Addr) (bs : List UInt8) (n c : Nat) (hn : bs.length = n) (h : IsB w x bs) : (convert src dst (.slice x n c)).run P w = .ok (.string ⟨bs.toArray⟩) w := by
  subst hn
  cases x with
  | none =>
    obtain rfl := h.none_eq
    exact run_convert_bytes_nil w src E hs he 0 c dst hd
  | some y =>
    have hl : (loadCells y bs.length).run P w = .ok ((bs.map fun b => (b.toNat : Int)).map (Value.int .u8)).toArray w := by
      have := run_loadCells_list (P := P) w y (bs.map byteV) h.values
      simpa [show byteV = fun b => Value.int .u8 b.toNat from rfl, Function.comp_def] using this
    rw [run_convert_bytes_string w src dst E _ bs.length c hs he hd, run_bytesToString w _ bs.length c _ hl, foldl_push_bytes]
    simp [Function.comp_def, ByteArray.empty, ByteArray.emptyWithCapacity]
    rfl
end Go.Proofs.YtcfgbdhpcboikaaGreatDoor

namespace Go.Proofs.YtcfgbdhpcboikaaGreatDoor
open Go.RowKit

def VecAt (w : World) (v : Value) (n : Nat) (xs : List Value) : Prop :=
  ∃ a c, v = .slice a n c ∧ ∀ j u, xs[j]? = some u → ∃ g off, a = some ⟨g, off, none⟩ ∧ w.cell? ⟨g, off + j, none⟩ = some u
theorem VecAt.below {w w' : World} {B n : Nat} {v : Value} {xs : List Value} (h : VecAt w v n xs) (hb : Below B w w') (hB : w.heap.size ≤ B) : VecAt w' v n xs := by
  obtain ⟨a, c, e, h⟩ := h
  refine ⟨a, c, e, fun j u hj => ?_⟩
  obtain ⟨g, off, ha, hc⟩ := h j u hj
  have hg : g < B := Nat.lt_of_lt_of_le (World.block_lt_of_cell? w _ hc) hB
  exact ⟨g, off, ha, by rw [hb.cell (p := ⟨g, _, none⟩) hg]; exact hc⟩
theorem VecAt.get {w : World} {v : Value} {n : Nat} {xs : List Value} (h : VecAt w v n xs) (j : Nat) (hj : j < xs.length) : ∃ g off c, v = .slice (some ⟨g, off, none⟩) n c ∧ w.cell? ⟨g, off + j, none⟩ = some xs[j] := by
  obtain ⟨a, c, e, h⟩ := h
  obtain ⟨g, off, ha, hc⟩ := h j _ (List.getElem?_eq_getElem hj)
  exact ⟨g, off, c, by rw [e, ha], hc⟩
structure OwnV (B : Nat) (e : TypeId) (size : Nat) (v : Value) (n : Nat) (xs : List Value) (W0 w : World) : Prop where
  own : w.ownsRow B e size v n xs
  bel : Below B W0 w
  base : B ≤ w.heap.size
theorem OwnV.nil (W : World) (e : TypeId) (size : Nat) : OwnV W.heap.size e size (.slice none 0 0) 0 [] W W := ⟨World.ownsRow_nil _ _ _ _, Below.refl _ _, Nat.le_refl _⟩
theorem OwnV.of {B : Nat} {W0 w : World} (e : TypeId) (size : Nat) (hb : Below B W0 w) (hB : B ≤ w.heap.size) : OwnV B e size (.slice none 0 0) 0 [] W0 w := ⟨World.ownsRow_nil _ _ _ _, hb, hB⟩
theorem OwnV.cast {B : Nat} {e : TypeId} {size : Nat} {v : Value} {n n' : Nat} {xs xs' : List Value} {W0 w : World} (h : OwnV B e size v n xs W0 w) (hn : n = n') (hx : xs = xs') : OwnV B e size v n' xs' W0 w := by
  subst hn; subst hx; exact h
theorem OwnV.keep {B : Nat} {e : TypeId} {size : Nat} {v : Value} {n : Nat} {xs : List Value} {W0 w w' : World} (h : OwnV B e size v n xs W0 w) (hb : Below w.heap.size w w') : OwnV B e size v n xs W0 w' := by
  refine ⟨⟨h.own.1, ?_⟩, h.bel.trans (hb.mono h.base), Nat.le_trans h.base hb.size⟩
  rcases h.own.2 with hn | ⟨g, cap, cur, hv, hB, hg, rest⟩
  · exact .inl hn
  · have hlt : g < w.heap.size := (Array.getElem?_eq_some_iff.1 hg).1
    exact .inr ⟨g, cap, cur, hv, hB, by rw [hb.block g hlt]; exact hg, rest⟩
theorem OwnV.alloc {B : Nat} {e : TypeId} {size : Nat} {v : Value} {n : Nat} {xs : List Value} {W0 w : World} (h : OwnV B e size v n xs W0 w) (o : Obj) : OwnV B e size v n xs W0 (w.alloc o) :=
  h.keep ((Below.refl _ w).alloc (Nat.le_refl _) o)
theorem OwnV.drew {B : Nat} {e : TypeId} {size : Nat} {v : Value} {n : Nat} {xs : List Value} {W0 w : World} (h : OwnV B e size v n xs W0 w) : OwnV B e size v n xs W0 w.drew := h.keep (Below.refl _ w).drew
theorem OwnV.vec {B : Nat} {e : TypeId} {size : Nat} {v : Value} {n : Nat} {xs : List Value} {W0 w : World} (h : OwnV B e size v n xs W0 w) : VecAt w v n xs := by
  rcases h.own.2 with ⟨hv, h0⟩ | ⟨g, cap, cur, hv, hB, hg, hnc, hcm, hcs, htake⟩
  · have hx : xs = [] := List.eq_nil_of_length_eq_zero (by rw [h.own.1, h0, Nat.zero_mul])
    exact ⟨none, 0, by rw [hv, h0], fun j u hj => by rw [hx] at hj; simp at hj⟩
  · refine ⟨_, _, hv, fun j u hj => ⟨g, 0, rfl, ?_⟩⟩
    rw [Nat.zero_add, cell_of_row w g j cur e (0, 0) hg]
    rw [← htake, List.getElem?_take] at hj
    split at hj
    · simpa using hj
    · cases hj
theorem OwnV.slice {B : Nat} {e : TypeId} {size : Nat} {v : Value} {n : Nat} {xs : List Value} {W0 w : World} (h : OwnV B e size v n xs W0 w) : ∃ a c, v = .slice a n c ∧ n ≤ c ∧ ∀ y, a = some y → B ≤ y.block ∧ y.block < w.heap.size := by
  rcases h.own.2 with ⟨hv, h0⟩ | ⟨g, cap, cur, hv, hB, hg, hnc, hcm, hcs, htake⟩
  · exact ⟨none, 0, by rw [hv, h0], by omega, fun y hy => by cases hy⟩
  · refine ⟨_, _, hv, hnc, fun y hy => ?_⟩
    cases hy
    exact ⟨hB, (Array.getElem?_eq_some_iff.1 hg).1⟩
theorem OwnV.isB {B : Nat} {v : Value} {n : Nat} {a : Option Addr} {c : Nat} {bs : List UInt8} {W0 w : World} (h : OwnV B 5 1 v n (bs.map byteV) W0 w) (hv : v = .slice a n c) : IsB w a bs := by
  intro j b hb
  obtain ⟨a', c', e, h⟩ := h.vec
  rw [hv] at e
  simp only [Value.slice.injEq] at e
  obtain ⟨rfl, _, _⟩ := e
  obtain ⟨g, off, ha, hc⟩ := h j (byteV b) (by rw [List.getElem?_map, hb]; rfl)
  refine ⟨_, ha, ?_⟩
  have hadd : (⟨g, off, none⟩ : Addr).add j = ⟨g, off + j, none⟩ := by unfold Addr.add; split <;> simp_all
  rw [hadd]
  exact hc
structure Grown (w w' : World) (v v' : Value) : Prop where
  gr : w.grownBy w' v.ownBlock
  loc : v'.ownBlock = v.ownBlock ∨ ∃ k, v'.ownBlock = some k ∧ w.heap.size ≤ k
def Apart (v u : Value) : Prop := v.ownBlock = none ∨ u.ownBlock = none ∨ v.ownBlock ≠ u.ownBlock
theorem Apart.nil (v : Value) : Apart (.slice none 0 0) v := .inl rfl
theorem Apart.symm {v u : Value} (h : Apart v u) : Apart u v := by
  rcases h with h | h | h
  · exact .inr (.inl h)
  · exact .inl h
  · exact .inr (.inr (Ne.symm h))
theorem Grown.other {B : Nat} {e : TypeId} {size : Nat} {u v v' : Value} {n : Nat} {xs : List Value} {W0 w w' : World} (h : Grown w w' v v') (hO : OwnV B e size u n xs W0 w) (ha : Apart v u) (hv : ∀ k, v.ownBlock = some k → B ≤ k) : OwnV B e size u n xs W0 w' := by
  refine ⟨⟨hO.own.1, ?_⟩, hO.bel.grown h.gr hO.base hv, Nat.le_trans hO.base h.gr.size⟩
  rcases hO.own.2 with hn | ⟨g, cap, cur, rfl, hB, hg, rest⟩
  · exact .inl hn
  · have hlt : g < w.heap.size := (Array.getElem?_eq_some_iff.1 hg).1
    refine .inr ⟨g, cap, cur, rfl, hB, ?_, rest⟩
    rw [h.gr.block g hlt (fun e => ?_)]
    · exact hg
    · rcases ha with h1 | h1 | h1
      · rw [h1] at e; cases e
      · cases h1
      · exact h1 e.symm
theorem Grown.apart {B : Nat} {e : TypeId} {size : Nat} {u v v' : Value} {n : Nat} {xs : List Value} {W0 w w' : World} (h : Grown w w' v v') (hO : OwnV B e size u n xs W0 w) (ha : Apart v u) : Apart v' u := by
  rcases h.loc with h1 | ⟨k, hk, hle⟩
  · unfold Apart; rw [h1]; exact ha
  · rcases hO.own.2 with ⟨rfl, _⟩ | ⟨g, cap, cur, rfl, hB, hg, rest⟩
    · exact .inr (.inl rfl)
    · have hlt : g < w.heap.size := (Array.getElem?_eq_some_iff.1 hg).1
      refine .inr (.inr ?_)
      rw [hk]
      intro e
      simp [Value.ownBlock] at e
      omega
theorem OwnV.hi {B : Nat} {e : TypeId} {size : Nat} {v : Value} {n : Nat} {xs : List Value} {W0 w : World} (hO : OwnV B e size v n xs W0 w) : ∀ k, v.ownBlock = some k → k < w.heap.size := by
  intro k hk
  rcases hO.own.2 with ⟨rfl, _⟩ | ⟨g, cap, cur, rfl, hbg, hg, _⟩
  · simp [Value.ownBlock] at hk
  · simp [Value.ownBlock] at hk
    subst hk
    exact (Array.getElem?_eq_some_iff.1 hg).1
theorem Grown.cell {w w' : World} {v v' u : Value} {p : Addr} (h : Grown w w' v v') (hc : w.cell? p = some u) (hne : v.ownBlock = some p.block → False) : w'.cell? p = some u :=
  (World.cell?_of_block (h.gr.block p.block (World.block_lt_of_cell? w p hc) (fun e => hne e.symm))).trans hc
theorem alloc_cell {w : World} {p : Addr} {u : Value} {o : Obj} (hc : w.cell? p = some u) : (w.alloc o).cell? p = some u := by
  rw [((Below.refl w.heap.size w).alloc (Nat.le_refl _) o).cell (World.block_lt_of_cell? w p hc)]
  exact hc
theorem OwnV.lo {B : Nat} {e : TypeId} {size : Nat} {v : Value} {n : Nat} {xs : List Value} {W0 w : World} (hO : OwnV B e size v n xs W0 w) : ∀ k, v.ownBlock = some k → B ≤ k := by
  intro k hk
  rcases hO.own.2 with ⟨rfl, _⟩ | ⟨g, cap, cur, rfl, hbg, _⟩
  · simp [Value.ownBlock] at hk
  · simp [Value.ownBlock] at hk
    subst hk
    exact hbg
section
variable {P : Program} {w : World} {ops : Array Oper} {rest : List Oper} {o : Oper} {a : Act} {Q : Exit → Act → World → Prop}
theorem wpList_append_vec (hgd : o.guard = none) (s x : Operand) (t : TypeId)
    (ho : o.op = .call { callee := .builtin .append, args := #[s, x], argTypes := #[t, t] })
    (e : TypeId) (i : TypeInfo) (z : Value) (size bytes : Nat) (ht : P.underlying t = some (.slice e)) (hi : P.info? e = some i) (hz : i.zero = some z)
    (hsize : i.size = size) (hby : i.bytes = bytes) (hzs : z.cells.size = size) (hsz : 0 < size)
    {B : Nat} {W0 : World} (v : Value) (n : Nat) (xs : List Value) (hs : a.eval s = v) (hO : OwnV B e size v n xs W0 w)
    (ad : Addr) (m c : Nat) (news : List Value) (hx : a.eval x = .slice (some ad) m c) (hl : news.length = m * size) (hnews : ∀ j u, news[j]? = some u → w.cell? (ad.add j) = some u) (h1 : news.all (fun u => u.oneCell') = true)
    (hb : (n + m) * bytes ≤ 140737488355328) (hn : n + m ≤ 140737488355328)
    (h : ∀ v' w', Hid (OwnV B e size v' (n + m) (xs ++ news) W0 w') → Hid (Grown w w' v v') → wpList P ops Q rest (a.put o.dst v') w') : wpList P ops Q (o :: rest) a w := by
  refine wpList_append_own_at w hgd s x t ho B e i z size bytes ht hi hz hsize hby hzs hsz v n xs hs hO.own ad m c news hx hl hnews (fun u hu => List.all_eq_true.1 h1 u hu) (by unfold maxLen; omega) hb hO.base ?_
  intro v' w' ho' hg _ hat
  refine h v' w' ⟨ho', hO.bel.grown hg hO.base hO.lo, Nat.le_trans hO.base hg.size⟩ ⟨hg, ?_⟩
  rcases hat with hat | hat
  · exact .inl hat
  · exact .inr ⟨_, hat, Nat.le_refl _⟩
theorem wpList_append_one (hgd : o.guard = none) (s x : Operand) (t : TypeId)
    (ho : o.op = .call { callee := .builtin .append, args := #[s, x], argTypes := #[t, t] })
    (e : TypeId) (i : TypeInfo) (z : Value) (size bytes : Nat) (ht : P.underlying t = some (.slice e)) (hi : P.info? e = some i) (hz : i.zero = some z)
    (hsize : i.size = size) (hby : i.bytes = bytes) (hzs : z.cells.size = size) (hsz : 0 < size)
    {B : Nat} {W0 w0 : World} (v : Value) (n : Nat) (xs : List Value) (hs : a.eval s = v) (hO : OwnV B e size v n xs W0 w0)
    (cs : Array Value) (hw : w = w0.alloc (.cells cs e)) (hx : a.eval x = .slice (some ⟨w0.heap.size, 0, none⟩) 1 1) (hcs : cs.size = size) (h1 : cs.toList.all (fun u => u.oneCell') = true)
    (hb : (n + 1) * bytes ≤ 140737488355328) (hn : n + 1 ≤ 140737488355328)
    (h : ∀ v' w', Hid (OwnV B e size v' (n + 1) (xs ++ cs.toList) W0 w') → Hid (Grown (w0.alloc (.cells cs e)) w' v v') → wpList P ops Q rest (a.put o.dst v') w') : wpList P ops Q (o :: rest) a w := by
  subst hw
  refine wpList_append_vec hgd s x t ho e i z size bytes ht hi hz hsize hby hzs hsz v n xs hs (hO.alloc _) ⟨w0.heap.size, 0, none⟩ 1 1 cs.toList hx (by simpa using hcs) ?_ h1 hb hn h
  intro j u hj
  have hadd : (⟨w0.heap.size, 0, none⟩ : Addr).add j = ⟨w0.heap.size, j, none⟩ := by unfold Addr.add; split <;> simp_all
  rw [hadd, cell_of_row _ _ j cs e (0, 0) (heap_alloc_new w0 _)]
  simpa using hj
end
end Go.Proofs.YtcfgbdhpcboikaaGreatDoor
