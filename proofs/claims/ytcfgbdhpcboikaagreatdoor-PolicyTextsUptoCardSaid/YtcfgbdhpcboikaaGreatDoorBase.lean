/-
  Lemmas on byte slices and frames, over any program: what a copy, an append, a conversion to a string does to slices of bytes. No program in sight.
-/
import Derived.WalkKit
import Derived.WalkLawsBesides
import Derived.WalkSpells
import Derived.Laws.CopyOwn
import Derived.Laws.AppendOwnNone
import Derived.Laws.BytesArg
import Derived.Maps.AppendAt
import Derived.StillTailTactics
import Derived.Deep.Draws
namespace Go.Proofs.YtcfgbdhpcboikaaGreatDoor
open Go.RowKit

/-- A byte as a value. -/
def byteV (b : UInt8) : Value := .int .u8 b.toNat

theorem oneCell_byteV (cs : List UInt8) : ∀ v ∈ cs.map byteV, v.oneCell' = true := by
  intro v hv
  obtain ⟨b, _, rfl⟩ := List.mem_map.1 hv
  rfl

/-- What is outside S is as it was. -/
structure Kept (S : Nat → Prop) (w w' : World) : Prop where
  os : w'.os = w.os
  tape : w'.tape = w.tape
  output : w'.output = w.output
  size : w.heap.size ≤ w'.heap.size
  block : ∀ k, k < w.heap.size → ¬ S k → w'.heap[k]? = w.heap[k]?

theorem Kept.refl (S : Nat → Prop) (w : World) : Kept S w w := ⟨rfl, rfl, rfl, Nat.le_refl _, fun _ _ _ => rfl⟩
theorem Kept.trans {S : Nat → Prop} {a b c : World} (h : Kept S a b) (k : Kept S b c) : Kept S a c :=
  ⟨k.os.trans h.os, k.tape.trans h.tape, k.output.trans h.output, Nat.le_trans h.size k.size, fun i hi hs => (k.block i (Nat.lt_of_lt_of_le hi h.size) hs).trans (h.block i hi hs)⟩
theorem Kept.mono {S S' : Nat → Prop} {a b : World} (h : Kept S a b) (hs : ∀ k, k < a.heap.size → S k → S' k) : Kept S' a b :=
  ⟨h.os, h.tape, h.output, h.size, fun k hk hn => h.block k hk (fun x => hn (hs k hk x))⟩
/-- Two steps, of which the second may write what the first has made. -/
theorem Kept.trans' {S S' : Nat → Prop} {a b c : World} (h : Kept S a b) (k : Kept S' b c) (hs : ∀ i, i < a.heap.size → S' i → S i) : Kept S a c :=
  ⟨k.os.trans h.os, k.tape.trans h.tape, k.output.trans h.output, Nat.le_trans h.size k.size, fun i hi hn => (k.block i (Nat.lt_of_lt_of_le hi h.size) (fun x => hn (hs i hi x))).trans (h.block i hi hn)⟩
theorem Kept.drew {S : Nat → Prop} {a b : World} (h : Kept S a b) : Kept S a b.drew := ⟨h.os, h.tape, h.output, h.size, h.block⟩
theorem Kept.drewN {S : Nat → Prop} {a b : World} (h : Kept S a b) (n : Nat) : Kept S a (b.drewN n) := ⟨h.os, h.tape, h.output, h.size, h.block⟩
theorem Kept.alloc {S : Nat → Prop} {a b : World} (h : Kept S a b) (o : Obj) : Kept S a (b.alloc o) :=
  h.trans ⟨rfl, rfl, rfl, by simp, fun k hk _ => Below.heap_alloc b o k hk⟩
theorem Kept.setCell {S : Nat → Prop} {a b : World} (h : Kept S a b) (p : Addr) (v : Value) (hp : p.block < a.heap.size → S p.block) : Kept S a (b.setCell p v) :=
  h.trans' (S' := (· = p.block)) ⟨rfl, rfl, rfl, by simp [World.setCell], fun k _ hn => heap_setCell_other b p k v hn⟩ (fun i hi e => by subst e; exact hp hi)
theorem Kept.below {S : Nat → Prop} {B : Nat} {w w' : World} (h : Kept S w w') (hB : B ≤ w.heap.size) (hs : ∀ k, k < w.heap.size → S k → B ≤ k) : Below B w w' :=
  ⟨h.os, h.tape, h.output, h.size, fun k hk => h.block k (by omega) (fun x => by have := hs k (by omega) x; omega)⟩
theorem Kept.of_below {B : Nat} {w w' : World} (h : Below B w w') : Kept (B ≤ ·) w w' :=
  ⟨h.os, h.tape, h.output, h.size, fun k _ hn => h.block k (by omega)⟩
theorem Kept.of_grownBy {w w' : World} {row : Option Nat} (h : w.grownBy w' row) : Kept (fun k => some k = row) w w' :=
  ⟨h.os, h.tape, h.output, h.size, fun k hk hn => h.block k hk hn⟩
theorem Kept.heap {S : Nat → Prop} {w w' : World} (h : Kept S w w') {k : Nat} {o : Obj} (hk : w.heap[k]? = some o) (hs : ¬ S k) : w'.heap[k]? = some o :=
  (h.block k (Array.getElem?_eq_some_iff.1 hk).1 hs).trans hk
theorem Kept.cell {S : Nat → Prop} {w w' : World} (h : Kept S w w') {p : Addr} {v : Value} (hk : w.cell? p = some v) (hs : ¬ S p.block) : w'.cell? p = some v :=
  (World.cell?_of_block (h.block p.block (World.block_lt_of_cell? w p hk) hs)).trans hk

/-- The cells from an address on hold these bytes. -/
def IsB (w : World) (a : Option Addr) (bs : List UInt8) : Prop :=
  ∀ j b, bs[j]? = some b → ∃ x, a = some x ∧ w.cell? (x.add j) = some (byteV b)

theorem addr_add_add (x : Addr) (i j : Nat) : (x.add i).add j = x.add (i + j) := by
  unfold Addr.add
  by_cases hi : i = 0 <;> by_cases hj : j = 0 <;> simp [hi, hj] <;> omega
theorem addr_add_block (x : Addr) (i : Nat) : (x.add i).block = x.block := by unfold Addr.add; split <;> rfl

theorem IsB.nil (w : World) (a : Option Addr) : IsB w a [] := fun j b h => by simp at h
theorem IsB.none_eq {w : World} {bs : List UInt8} (h : IsB w none bs) : bs = [] := by
  cases bs with
  | nil => rfl
  | cons b bs => obtain ⟨x, hx, _⟩ := h 0 b rfl; cases hx
theorem IsB.values {w : World} {x : Addr} {bs : List UInt8} (h : IsB w (some x) bs) : ∀ j u, (bs.map byteV)[j]? = some u → w.cell? (x.add j) = some u := by
  intro j u hu
  rw [List.getElem?_map] at hu
  cases hb : bs[j]? with
  | none => rw [hb] at hu; cases hu
  | some b =>
    rw [hb] at hu
    simp at hu
    subst hu
    obtain ⟨y, hy, hc⟩ := h j b hb
    cases hy
    exact hc
theorem IsB.take {w : World} {a : Option Addr} {bs : List UInt8} (h : IsB w a bs) (n : Nat) : IsB w a (bs.take n) := by
  intro j b hb
  rw [List.getElem?_take] at hb
  split at hb
  · exact h j b hb
  · cases hb
/-- A cut's own cells: the address as the walk writes it. -/
theorem IsB.cut {w : World} {a : Option Addr} {bs : List UInt8} (h : IsB w a bs) (l m : Nat) (hm : bs.length ≤ m) : IsB w (if m = l then a else a.map (·.add l)) (bs.drop l) := by
  intro j b hb
  rw [List.getElem?_drop] at hb
  have hj : l + j < bs.length := by
    rcases Nat.lt_or_ge (l + j) bs.length with h1 | h1
    · exact h1
    · rw [List.getElem?_eq_none h1] at hb; cases hb
  obtain ⟨x, rfl, hc⟩ := h (l + j) b hb
  rw [if_neg (by omega)]
  exact ⟨x.add l, rfl, by rw [addr_add_add x l j]; exact hc⟩
theorem IsB.kept {S : Nat → Prop} {w w' : World} {a : Option Addr} {bs : List UInt8} (h : IsB w a bs) (k : Kept S w w') (hs : ∀ x, a = some x → bs ≠ [] → ¬ S x.block) : IsB w' a bs := by
  intro j b hb
  obtain ⟨x, hx, hc⟩ := h j b hb
  exact ⟨x, hx, k.cell hc (by rw [addr_add_block]; exact hs x hx (by intro e; subst e; simp at hb))⟩
theorem IsB.lt {w : World} {x : Addr} {bs : List UInt8} (h : IsB w (some x) bs) (hb : bs ≠ []) : x.block < w.heap.size := by
  cases bs with
  | nil => exact absurd rfl hb
  | cons b bs =>
    obtain ⟨y, hy, hc⟩ := h 0 b rfl
    cases hy
    have := World.block_lt_of_cell? w _ hc
    rw [addr_add_block] at this
    exact this
/-- A block of bytes, read from a place on. -/
theorem IsB.of_heap {w : World} {g : Nat} {arr : List UInt8} {E : TypeId} {fz : Nat × Nat} (h : w.heap[g]? = some (.cells (arr.map byteV).toArray E fz)) (o : Nat) : IsB w (some ⟨g, o, none⟩) (arr.drop o) := by
  intro j b hb
  refine ⟨_, rfl, ?_⟩
  have hadd : (⟨g, o, none⟩ : Addr).add j = ⟨g, o + j, none⟩ := by unfold Addr.add; split <;> simp_all
  rw [hadd, cell_of_row w g (o + j) _ _ _ h]
  rw [List.getElem?_drop] at hb
  simp [hb]

section
variable {P : Program} {w : World} {ops : Array Oper} {rest : List Oper} {o : Oper} {a : Act} {Q : Exit → Act → World → Prop}

/-- 'copy' of bytes into a block that is known whole. -/
theorem wpList_copyB (hgd : o.guard = none) (d s : Operand) (dT sT : TypeId)
    (ho : o.op = .call { callee := .builtin .copy, args := #[d, s], argTypes := #[dT, sT] }) (E : TypeId) (hu : P.underlying dT = some (.slice E)) (hsz : (P.info? E).map (·.size) = some 1)
    (dp sp : Option Addr) (dLen dCap sLen sCap : Nat) (hd : a.eval d = .slice dp dLen dCap) (hs : a.eval s = .slice sp sLen sCap)
    (g off : Nat) (arr : List UInt8) (hg : w.heap[g]? = some (.cells (arr.map byteV).toArray E (0, 0))) (cs : List UInt8) (k : Nat) (hck : cs.length = k) (hn : k = Nat.min sLen dLen)
    (hpos : 0 < k → dp = some ⟨g, off, none⟩) (hsrc : IsB w sp cs) (hfit : off + k ≤ arr.length)
    (h : ∀ w', Hid (w'.heap[g]? = some (.cells ((splice arr off cs).map byteV).toArray E (0, 0))) → Kept (· = g) w w' → wpList P ops Q rest (a.put o.dst (.int .i64 k)) w') :
    wpList P ops Q (o :: rest) a w := by
  subst hck
  by_cases h0 : cs.length = 0
  · obtain rfl : cs = [] := List.eq_nil_of_length_eq_zero h0
    refine wpList_copy_nothing hgd d s dT sT ho E hu hsz dp sp dLen dCap sLen sCap hd hs (by simpa using hn.symm) ?_
    exact h w (show _ = _ by simpa [splice] using hg) (Kept.refl _ _)
  · have hdp := hpos (by omega)
    subst hdp
    cases sp with
    | none => exact absurd (by rw [hsrc.none_eq]; rfl) h0
    | some ad =>
      refine wpList_copy_own hgd d s dT sT ho E hu hsz g off dLen dCap ad sLen sCap hd hs (arr.map byteV).toArray E hg (cs.map byteV) (by simpa using hn) hsrc.values (by simpa using hfit) (oneCell_byteV cs) ?_
      have hw : ∀ L, L = (List.map byteV (splice arr off cs)).toArray → Hid ((w.setRow g L).heap[g]? = some (.cells ((splice arr off cs).map byteV).toArray E (0, 0))) := fun L hL => by
        subst hL
        show _ = _
        exact setRow_heap w g _ _ E _ hg
      have hL : (List.take off (arr.map byteV).toArray.toList ++ (cs.map byteV ++ List.drop (off + (cs.map byteV).length) (arr.map byteV).toArray.toList)).toArray = (List.map byteV (splice arr off cs)).toArray := by
        simp [splice, List.map_take, List.map_drop]
      have := h _ (hw _ hL) (⟨rfl, rfl, rfl, by simp, fun k _ hk => setRow_other w g k _ hk⟩)
      simpa only [goInt, List.length_map] using this

theorem toList_zeros (k : Nat) : madeCells (Value.int .u8 0).cells (k * 1) = ((List.replicate k (0 : UInt8)).map byteV).toArray := by
  apply Array.toList_inj.1
  rw [show (Value.int .u8 0).cells = #[Value.int .u8 0] from rfl, toList_madeCells_one]
  simp [byteV]

/-- 'make([]byte, k)'. -/
theorem wpList_makeB (hgd : o.guard = none) (l c : Operand) (t : TypeId) (hop : o.op = Op.makeSlice t l c)
    (E : TypeId) (i : TypeInfo) (h1 : P.underlying t = some (.slice E)) (h2 : P.info? E = some i) (h3 : i.zero = some (.int .u8 0)) (h4 : i.size = 1) (h5 : i.bytes = 1)
    (kl kc : IntKind) (L C : Int) (k : Nat) (hl : a.eval l = .int kl L) (hc : a.eval c = .int kc C) (hL : L = (k : Int)) (hC : C = (k : Int)) (b2 : k ≤ 281474976710656) (B : Nat) (hB : w.heap.size = B)
    (h : ∀ w', Hid (w'.heap[B]? = some (.cells ((List.replicate k (0 : UInt8)).map byteV).toArray E (0, 0))) → Hid (w'.heap.size = B + 1) → Kept (fun _ => False) w w' → wpList P ops Q rest (a.put o.dst (.slice (some ⟨B, 0, none⟩) k k)) w') :
    wpList P ops Q (o :: rest) a w := by
  subst hL
  subst hC
  subst hB
  have hrun := run_make (P := P) w t E i (.int .u8 0) h1 h2 h3 kl kc (k : Int) (k : Int) (by omega) (by omega) (by rw [h5]; omega) (by omega)
  rw [h4, Int.toNat_natCast, toList_zeros] at hrun
  refine wpList_plain hgd fun K hK => ?_
  unfold Oper.wp
  simp only [execOp, hop, hl, hc]
  have hr2 : (do let r ← Instr.makeSlice t (Value.int kl ↑k) (Value.int kc ↑k); pure (Next.value r) : Sem Next).run P w = .ok (.value (.slice (some ⟨w.heap.size, 0, none⟩) k k)) (w.alloc (.cells ((List.replicate k (0 : UInt8)).map byteV).toArray E)) := by
    simp only [Sem.run_bind, hrun, Result.andThen, Sem.run_pure]
  have := hK _ _ (h (w.alloc (.cells ((List.replicate k (0 : UInt8)).map byteV).toArray E)) (show _ = _ from heap_alloc_new w _) (show _ = _ by simp) ((Kept.refl _ w).alloc _))
  first
    | (simpa only [Sem.run_bind, hrun, Result.andThen, Sem.run_pure, Oper.upon_value] using this)
    | (simp [hrun, Result.andThen]; exact this)

/-- The call's own slice of bytes. -/
def OwnB (w : World) (base : Nat) (E : TypeId) (a : Option Addr) (c : Nat) (bs : List UInt8) : Prop :=
  w.ownsRow base E 1 (.slice a bs.length c) bs.length (bs.map byteV)

theorem OwnB.nil (w : World) (base : Nat) (E : TypeId) : OwnB w base E none 0 [] := World.ownsRow_nil w base E 1
theorem OwnB.isB {base : Nat} {E : TypeId} {x : Option Addr} {c : Nat} {bs : List UInt8} (h : OwnB w base E x c bs) : IsB w x bs := by
  intro j b hb
  rcases h.2 with ⟨hv, h0⟩ | ⟨g, cap, cur, hv, hbg, hg, hnc, hcm, hcs, htake⟩
  · obtain rfl : bs = [] := List.eq_nil_of_length_eq_zero h0
    simp at hb
  · simp only [Value.slice.injEq] at hv
    obtain ⟨rfl, _, rfl⟩ := hv
    refine ⟨_, rfl, ?_⟩
    have hadd : (⟨g, 0, none⟩ : Addr).add j = ⟨g, j, none⟩ := by unfold Addr.add; split <;> simp_all
    rw [hadd, cell_of_row w g j cur E (0, 0) hg]
    have hj : j < bs.length := by
      rcases Nat.lt_or_ge j bs.length with h1 | h1
      · exact h1
      · rw [List.getElem?_eq_none h1] at hb; cases hb
    have h2 : (cur.toList.take (bs.length * 1))[j]? = some (byteV b) := by rw [htake]; simp [hb]
    rw [List.getElem?_take] at h2
    rw [if_pos (by omega)] at h2
    simpa using h2
theorem OwnB.cap {base : Nat} {E : TypeId} {x : Option Addr} {c : Nat} {bs : List UInt8} (h : OwnB w base E x c bs) : bs.length ≤ c ∧ c ≤ maxLen := by
  rcases h.2 with ⟨hv, h0⟩ | ⟨g, cap, cur, hv, hbg, hg, hnc, hcm, hcs, htake⟩
  · simp only [Value.slice.injEq] at hv
    obtain ⟨_, h1, rfl⟩ := hv
    exact ⟨by omega, by unfold maxLen; omega⟩
  · simp only [Value.slice.injEq] at hv
    obtain ⟨_, _, rfl⟩ := hv
    exact ⟨hnc, hcm⟩
theorem OwnB.at {base : Nat} {E : TypeId} {x : Option Addr} {c : Nat} {bs : List UInt8} (h : OwnB w base E x c bs) : ∀ y, x = some y → base ≤ y.block ∧ y.block < w.heap.size := by
  intro y hy
  subst hy
  exact h.lt y.block rfl
theorem OwnB.kept {S : Nat → Prop} {w' : World} {base : Nat} {E : TypeId} {x : Option Addr} {c : Nat} {bs : List UInt8} (h : OwnB w base E x c bs) (k : Kept S w w') (hs : ∀ y, x = some y → ¬ S y.block) : OwnB w' base E x c bs := by
  refine ⟨h.1, ?_⟩
  rcases h.2 with hn | ⟨g, cap, cur, hv, hb, hgg, rest⟩
  · exact .inl hn
  · have hv' := hv
    simp only [Value.slice.injEq] at hv'
    exact .inr ⟨g, cap, cur, hv, hb, k.heap hgg (hs _ hv'.1), rest⟩

theorem run_append_noneB (base : Nat) (t ty e : TypeId) (i : TypeInfo) (ht : P.underlying t = some (.slice e)) (hi : P.info? e = some i)
    (v : Value) (n c : Nat) (xs : List Value) (hown : w.ownsRow base e 1 v n xs) :
    (Builtin.append_ #[t, t] ty #[v, .slice none 0 c]).run P w = .ok v w := by
  rcases hown.2 with ⟨rfl, rfl⟩ | ⟨g, cap, cur, rfl, _, _, hnc, _⟩
  · simp [Builtin.append_, run_underlying ht, sizeOf, typeInfo, hi, Builtin.lenOf, Builtin.firstCells]
  · simp [Builtin.append_, run_underlying ht, sizeOf, typeInfo, hi, Builtin.lenOf, Builtin.firstCells, hnc, storeCells]

/-- 'append' of bytes onto the call's own slice, at the operation. -/
theorem wp_appendB {K : Act → World → Prop} (s x : Operand) (t : TypeId)
    (ho : o.op = .call { callee := .builtin .append, args := #[s, x], argTypes := #[t, t] })
    (base : Nat) (E : TypeId) (i : TypeInfo) (ht : P.underlying t = some (.slice E)) (hi : P.info? E = some i) (hz : i.zero = some (.int .u8 0))
    (hsize : i.size = 1) (hby : i.bytes = 1)
    (ad : Option Addr) (n c : Nat) (bs : List UInt8) (hs : a.eval s = .slice ad n c) (hn : bs.length = n) (hown : OwnB w base E ad c bs)
    (sp : Option Addr) (m sc : Nat) (cs : List UInt8) (hx : a.eval x = .slice sp m sc) (hm : cs.length = m) (hsrc : IsB w sp cs)
    (hbytes : n + m ≤ 140737488355328) (hbase : base ≤ w.heap.size)
    (h : ∀ ad' c' w', Hid (OwnB w' base E ad' c' (bs ++ cs)) → Kept (fun k => ad.map (·.block) = some k) w w' → (∀ y, ad' = some y → ad.map (·.block) = some y.block ∨ w.heap.size ≤ y.block) →
      K (a.put o.dst (.slice ad' (n + m : Nat) c')) w') : o.wp P a w K Q := by
  subst hn
  subst hm
  cases sp with
  | none =>
    have h0 := hsrc.none_eq
    subst h0
    have hrun := run_append_noneB (P := P) (w := w) base t o.type E i ht hi (.slice ad bs.length c) bs.length sc _ hown
    unfold Oper.wp
    have hx' : a.eval x = .slice none 0 sc := by simpa using hx
    simp [execOp, ho, resolve, invoke, builtin, hs, hx', hrun, Result.andThen]
    have := h ad c w (show OwnB _ _ _ _ _ _ by simpa using hown) (Kept.refl _ _) (fun y hy => .inl (by subst hy; rfl))
    simp only [List.length_nil, Nat.add_zero] at this
    exact this
  | some y =>
    obtain ⟨v', w', hr, hown', hgrow, hnil, hat⟩ := run_append_own_at (P := P) w base t o.type E i (.int .u8 0) 1 1 ht hi hz hsize hby rfl (by decide) (.slice ad bs.length c) bs.length _ hown y cs.length sc (cs.map byteV) (by simp) hsrc.values (oneCell_byteV cs)
      (by unfold maxLen; omega) (by omega) hbase
    unfold Oper.wp execOp
    simp only [ho, resolve, invoke, builtin, Sem.run_bind, Sem.run_pure, Result.andThen_ok, List.map_toArray, List.map_cons, List.map_nil, hs, hx, hr]
    clear hr
    have hex : ∃ ad' c', v' = .slice ad' (bs.length + cs.length) c' := by
      rcases hown'.2 with ⟨rfl, h0⟩ | ⟨g, cap, cur, rfl, _⟩
      · exact ⟨none, 0, by rw [h0]⟩
      · exact ⟨_, _, rfl⟩
    obtain ⟨ad', c', rfl⟩ := hex
    have hmap : (Value.slice ad bs.length c).ownBlock = ad.map (·.block) := by cases ad <;> rfl
    have hK : Kept (fun k => ad.map (·.block) = some k) w w' := by
      refine (Kept.of_grownBy hgrow).mono ?_
      intro k _ hk
      rw [← hmap]
      exact hk.symm
    refine h ad' c' w' (show OwnB _ _ _ _ _ _ by unfold OwnB; simpa using hown') hK ?_
    intro y' hy'
    subst hy'
    rw [hmap] at hat
    rcases hat with h1 | h1
    · left
      rw [← h1]; rfl
    · right
      have : y'.block = w.heap.size := by simpa [Value.ownBlock] using h1
      omega

/-- 'append' of bytes onto the call's own slice, in a list of operations. -/
theorem wpList_appendB (hgd : o.guard = none) (s x : Operand) (t : TypeId)
    (ho : o.op = .call { callee := .builtin .append, args := #[s, x], argTypes := #[t, t] })
    (base : Nat) (E : TypeId) (i : TypeInfo) (ht : P.underlying t = some (.slice E)) (hi : P.info? E = some i) (hz : i.zero = some (.int .u8 0))
    (hsize : i.size = 1) (hby : i.bytes = 1)
    (ad : Option Addr) (n c : Nat) (bs : List UInt8) (hs : a.eval s = .slice ad n c) (hn : bs.length = n) (hown : OwnB w base E ad c bs)
    (sp : Option Addr) (m sc : Nat) (cs : List UInt8) (hx : a.eval x = .slice sp m sc) (hm : cs.length = m) (hsrc : IsB w sp cs)
    (hbytes : n + m ≤ 140737488355328) (hbase : base ≤ w.heap.size)
    (h : ∀ ad' c' w', Hid (OwnB w' base E ad' c' (bs ++ cs)) → Kept (fun k => ad.map (·.block) = some k) w w' → (∀ y, ad' = some y → ad.map (·.block) = some y.block ∨ w.heap.size ≤ y.block) →
      wpList P ops Q rest (a.put o.dst (.slice ad' (n + m : Nat) c')) w') : wpList P ops Q (o :: rest) a w :=
  wpList_plain hgd fun _ hK => wp_appendB s x t ho base E i ht hi hz hsize hby ad n c bs hs hn hown sp m sc cs hx hm hsrc hbytes hbase fun ad' c' w' h1 h2 h3 => hK _ _ (h ad' c' w' h1 h2 h3)

/-- The same at a step of a region that draws its order. -/
theorem step_appendB {K : Act → World → Prop} {F : Prop} (hgd : o.guard = none) (s x : Operand) (t : TypeId)
    (ho : o.op = .call { callee := .builtin .append, args := #[s, x], argTypes := #[t, t] })
    (base : Nat) (E : TypeId) (i : TypeInfo) (ht : P.underlying t = some (.slice E)) (hi : P.info? E = some i) (hz : i.zero = some (.int .u8 0))
    (hsize : i.size = 1) (hby : i.bytes = 1)
    (ad : Option Addr) (n c : Nat) (bs : List UInt8) (hs : a.eval s = .slice ad n c) (hn : bs.length = n) (hown : OwnB w base E ad c bs)
    (sp : Option Addr) (m sc : Nat) (cs : List UInt8) (hx : a.eval x = .slice sp m sc) (hm : cs.length = m) (hsrc : IsB w sp cs)
    (hbytes : n + m ≤ 140737488355328) (hbase : base ≤ w.heap.size)
    (h : ∀ ad' c' w', Hid (OwnB w' base E ad' c' (bs ++ cs)) → Kept (fun k => ad.map (·.block) = some k) w w' → (∀ y, ad' = some y → ad.map (·.block) = some y.block ∨ w.heap.size ≤ y.block) →
      K (a.put o.dst (.slice ad' (n + m : Nat) c')) w') : if Region.wanted o (yielded ops a.tmps) = true then Oper.wp P o a w K Q else F := by
  have hw : Region.wanted o (yielded ops a.tmps) = true := by simp [Region.wanted, hgd]
  rw [if_pos hw]
  exact wp_appendB s x t ho base E i ht hi hz hsize hby ad n c bs hs hn hown sp m sc cs hx hm hsrc hbytes hbase h
end

/-- A region that draws its order: reads first, then a forced tail. The world behind the draw as the walk writes it. -/
theorem region_tail {P : Program} {id : Nat} {Q : Exit → Act → World → Prop} {a : Act} {w : World} {l : List Oper} (n : Nat) (hm : P.follows .mixedOrders = true) (hB : Region.lexTailB .any l.toArray n = true)
    (h : wpStill P l.toArray (w.drewN 1) (fun a' => wpList P l.toArray Q (l.drop n) a' (w.drewN 1)) (l.take n) a) : (Code.region id l.toArray true).wp P Q a w :=
  wp_region_still_tail n hm hB h

/-- 'string(b)'. -/
theorem run_convB {P : Program} (w : World) (src E dst : TypeId) (hs : P.underlying src = some (.slice E)) (he : P.underlying E = some (.int .u8)) (hd : P.underlying dst = some .string)
    (x : Option Addr) (bs : List UInt8) (n c : Nat) (hn : bs.length = n) (h : IsB w x bs) : (convert src dst (.slice x n c)).run P w = .ok (.string ⟨bs.toArray⟩) w := by
  subst hn
  cases x with
  | none =>
    obtain rfl := h.none_eq
    exact run_convert_bytes_nil w src E hs he 0 c dst hd
  | some y =>
    have hl : (loadCells y bs.length).run P w = .ok ((bs.map fun b => (b.toNat : Int)).map (Value.int .u8)).toArray w := by
      have := run_loadCells_list (P := P) w y (bs.map byteV) h.values
      simpa [show byteV = fun b => Value.int .u8 b.toNat from rfl, Function.comp_def] using this
    rw [run_convert_bytes_string w src dst E _ bs.length c hs he hd, run_bytesToString w _ bs.length c _ hl, foldl_push_bytes]
    simp [Function.comp_def, ByteArray.empty, ByteArray.emptyWithCapacity]
    rfl
end Go.Proofs.YtcfgbdhpcboikaaGreatDoor
