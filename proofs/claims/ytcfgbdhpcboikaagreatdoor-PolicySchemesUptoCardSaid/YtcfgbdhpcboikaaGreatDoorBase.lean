/-
  Lemmas on byte slices and frames, over any program: what a copy, an append, a conversion to a string does to slices of bytes. No program in sight.
  Trees of nodes in memory; how many nodes a budget leaves (policy.few).
-/
import Derived.WalkKit
import Derived.WalkLawsBesides
import Derived.WalkSpells
import Derived.Laws.CopyOwn
import Derived.Laws.AppendOwnNone
import Derived.Laws.BytesArg
import Derived.Maps.AppendAt
import Derived.StillTailTactics
import Derived.Deep.Draws
import Derived.Test.YtcfgbdhpcboikaaGreatDoorProg
import Derived.Lib.Hide
import Derived.LoopTactic
namespace Go.Proofs.YtcfgbdhpcboikaaGreatDoor
open Go.RowKit

/-- A byte as a value. -/
def byteV (b : UInt8) : Value := .int .u8 b.toNat

theorem oneCell_byteV (cs : List UInt8) : ∀ v ∈ cs.map byteV, v.oneCell' = true := by
  intro v hv
  obtain ⟨b, _, rfl⟩ := List.mem_map.1 hv
  rfl

/-- What is outside S is as it was. -/
structure Kept (S : Nat → Prop) (w w' : World) : Prop where
  os : w'.os = w.os
  tape : w'.tape = w.tape
  output : w'.output = w.output
  size : w.heap.size ≤ w'.heap.size
  block : ∀ k, k < w.heap.size → ¬ S k → w'.heap[k]? = w.heap[k]?

theorem Kept.refl (S : Nat → Prop) (w : World) : Kept S w w := ⟨rfl, rfl, rfl, Nat.le_refl _, fun _ _ _ => rfl⟩
theorem Kept.trans {S : Nat → Prop} {a b c : World} (h : Kept S a b) (k : Kept S b c) : Kept S a c :=
  ⟨k.os.trans h.os, k.tape.trans h.tape, k.output.trans h.output, Nat.le_trans h.size k.size, fun i hi hs => (k.block i (Nat.lt_of_lt_of_le hi h.size) hs).trans (h.block i hi hs)⟩
theorem Kept.mono {S S' : Nat → Prop} {a b : World} (h : Kept S a b) (hs : ∀ k, k < a.heap.size → S k → S' k) : Kept S' a b :=
  ⟨h.os, h.tape, h.output, h.size, fun k hk hn => h.block k hk (fun x => hn (hs k hk x))⟩
/-- Two steps, of which the second may write what the first has made. -/
theorem Kept.trans' {S S' : Nat → Prop} {a b c : World} (h : Kept S a b) (k : Kept S' b c) (hs : ∀ i, i < a.heap.size → S' i → S i) : Kept S a c :=
  ⟨k.os.trans h.os, k.tape.trans h.tape, k.output.trans h.output, Nat.le_trans h.size k.size, fun i hi hn => (k.block i (Nat.lt_of_lt_of_le hi h.size) (fun x => hn (hs i hi x))).trans (h.block i hi hn)⟩
theorem Kept.drew {S : Nat → Prop} {a b : World} (h : Kept S a b) : Kept S a b.drew := ⟨h.os, h.tape, h.output, h.size, h.block⟩
theorem Kept.drewN {S : Nat → Prop} {a b : World} (h : Kept S a b) (n : Nat) : Kept S a (b.drewN n) := ⟨h.os, h.tape, h.output, h.size, h.block⟩
theorem Kept.alloc {S : Nat → Prop} {a b : World} (h : Kept S a b) (o : Obj) : Kept S a (b.alloc o) :=
  h.trans ⟨rfl, rfl, rfl, by simp, fun k hk _ => Below.heap_alloc b o k hk⟩
theorem Kept.setCell {S : Nat → Prop} {a b : World} (h : Kept S a b) (p : Addr) (v : Value) (hp : p.block < a.heap.size → S p.block) : Kept S a (b.setCell p v) :=
  h.trans' (S' := (· = p.block)) ⟨rfl, rfl, rfl, by simp [World.setCell], fun k _ hn => heap_setCell_other b p k v hn⟩ (fun i hi e => by subst e; exact hp hi)
theorem Kept.below {S : Nat → Prop} {B : Nat} {w w' : World} (h : Kept S w w') (hB : B ≤ w.heap.size) (hs : ∀ k, k < w.heap.size → S k → B ≤ k) : Below B w w' :=
  ⟨h.os, h.tape, h.output, h.size, fun k hk => h.block k (by omega) (fun x => by have := hs k (by omega) x; omega)⟩
theorem Kept.of_below {B : Nat} {w w' : World} (h : Below B w w') : Kept (B ≤ ·) w w' :=
  ⟨h.os, h.tape, h.output, h.size, fun k _ hn => h.block k (by omega)⟩
theorem Kept.of_grownBy {w w' : World} {row : Option Nat} (h : w.grownBy w' row) : Kept (fun k => some k = row) w w' :=
  ⟨h.os, h.tape, h.output, h.size, fun k hk hn => h.block k hk hn⟩
theorem Kept.heap {S : Nat → Prop} {w w' : World} (h : Kept S w w') {k : Nat} {o : Obj} (hk : w.heap[k]? = some o) (hs : ¬ S k) : w'.heap[k]? = some o :=
  (h.block k (Array.getElem?_eq_some_iff.1 hk).1 hs).trans hk
theorem Kept.cell {S : Nat → Prop} {w w' : World} (h : Kept S w w') {p : Addr} {v : Value} (hk : w.cell? p = some v) (hs : ¬ S p.block) : w'.cell? p = some v :=
  (World.cell?_of_block (h.block p.block (World.block_lt_of_cell? w p hk) hs)).trans hk

/-- The cells from an address on hold these bytes. -/
def IsB (w : World) (a : Option Addr) (bs : List UInt8) : Prop :=
  ∀ j b, bs[j]? = some b → ∃ x, a = some x ∧ w.cell? (x.add j) = some (byteV b)

theorem addr_add_add (x : Addr) (i j : Nat) : (x.add i).add j = x.add (i + j) := by
  unfold Addr.add
  by_cases hi : i = 0 <;> by_cases hj : j = 0 <;> simp [hi, hj] <;> omega
theorem addr_add_block (x : Addr) (i : Nat) : (x.add i).block = x.block := by unfold Addr.add; split <;> rfl

theorem IsB.nil (w : World) (a : Option Addr) : IsB w a [] := fun j b h => by simp at h
theorem IsB.none_eq {w : World} {bs : List UInt8} (h : IsB w none bs) : bs = [] := by
  cases bs with
  | nil => rfl
  | cons b bs => obtain ⟨x, hx, _⟩ := h 0 b rfl; cases hx
theorem IsB.values {w : World} {x : Addr} {bs : List UInt8} (h : IsB w (some x) bs) : ∀ j u, (bs.map byteV)[j]? = some u → w.cell? (x.add j) = some u := by
  intro j u hu
  rw [List.getElem?_map] at hu
  cases hb : bs[j]? with
  | none => rw [hb] at hu; cases hu
  | some b =>
    rw [hb] at hu
    simp at hu
    subst hu
    obtain ⟨y, hy, hc⟩ := h j b hb
    cases hy
    exact hc
theorem IsB.take {w : World} {a : Option Addr} {bs : List UInt8} (h : IsB w a bs) (n : Nat) : IsB w a (bs.take n) := by
  intro j b hb
  rw [List.getElem?_take] at hb
  split at hb
  · exact h j b hb
  · cases hb
/-- A cut's own cells: the address as the walk writes it. -/
theorem IsB.cut {w : World} {a : Option Addr} {bs : List UInt8} (h : IsB w a bs) (l m : Nat) (hm : bs.length ≤ m) : IsB w (if m = l then a else a.map (·.add l)) (bs.drop l) := by
  intro j b hb
  rw [List.getElem?_drop] at hb
  have hj : l + j < bs.length := by
    rcases Nat.lt_or_ge (l + j) bs.length with h1 | h1
    · exact h1
    · rw [List.getElem?_eq_none h1] at hb; cases hb
  obtain ⟨x, rfl, hc⟩ := h (l + j) b hb
  rw [if_neg (by omega)]
  exact ⟨x.add l, rfl, by rw [addr_add_add x l j]; exact hc⟩
theorem IsB.kept {S : Nat → Prop} {w w' : World} {a : Option Addr} {bs : List UInt8} (h : IsB w a bs) (k : Kept S w w') (hs : ∀ x, a = some x → bs ≠ [] → ¬ S x.block) : IsB w' a bs := by
  intro j b hb
  obtain ⟨x, hx, hc⟩ := h j b hb
  exact ⟨x, hx, k.cell hc (by rw [addr_add_block]; exact hs x hx (by intro e; subst e; simp at hb))⟩
theorem IsB.lt {w : World} {x : Addr} {bs : List UInt8} (h : IsB w (some x) bs) (hb : bs ≠ []) : x.block < w.heap.size := by
  cases bs with
  | nil => exact absurd rfl hb
  | cons b bs =>
    obtain ⟨y, hy, hc⟩ := h 0 b rfl
    cases hy
    have := World.block_lt_of_cell? w _ hc
    rw [addr_add_block] at this
    exact this
/-- A block of bytes, read from a place on. -/
theorem IsB.of_heap {w : World} {g : Nat} {arr : List UInt8} {E : TypeId} {fz : Nat × Nat} (h : w.heap[g]? = some (.cells (arr.map byteV).toArray E fz)) (o : Nat) : IsB w (some ⟨g, o, none⟩) (arr.drop o) := by
  intro j b hb
  refine ⟨_, rfl, ?_⟩
  have hadd : (⟨g, o, none⟩ : Addr).add j = ⟨g, o + j, none⟩ := by unfold Addr.add; split <;> simp_all
  rw [hadd, cell_of_row w g (o + j) _ _ _ h]
  rw [List.getElem?_drop] at hb
  simp [hb]

section
variable {P : Program} {w : World} {ops : Array Oper} {rest : List Oper} {o : Oper} {a : Act} {Q : Exit → Act → World → Prop}

theorem toList_zeros (k : Nat) : madeCells (Value.int .u8 0).cells (k * 1) = ((List.replicate k (0 : UInt8)).map byteV).toArray := by
  apply Array.toList_inj.1
  rw [show (Value.int .u8 0).cells = #[Value.int .u8 0] from rfl, toList_madeCells_one]
  simp [byteV]

/-- The call's own slice of bytes. -/
def OwnB (w : World) (base : Nat) (E : TypeId) (a : Option Addr) (c : Nat) (bs : List UInt8) : Prop :=
  w.ownsRow base E 1 (.slice a bs.length c) bs.length (bs.map byteV)

theorem OwnB.nil (w : World) (base : Nat) (E : TypeId) : OwnB w base E none 0 [] := World.ownsRow_nil w base E 1
theorem OwnB.isB {base : Nat} {E : TypeId} {x : Option Addr} {c : Nat} {bs : List UInt8} (h : OwnB w base E x c bs) : IsB w x bs := by
  intro j b hb
  rcases h.2 with ⟨hv, h0⟩ | ⟨g, cap, cur, hv, hbg, hg, hnc, hcm, hcs, htake⟩
  · obtain rfl : bs = [] := List.eq_nil_of_length_eq_zero h0
    simp at hb
  · simp only [Value.slice.injEq] at hv
    obtain ⟨rfl, _, rfl⟩ := hv
    refine ⟨_, rfl, ?_⟩
    have hadd : (⟨g, 0, none⟩ : Addr).add j = ⟨g, j, none⟩ := by unfold Addr.add; split <;> simp_all
    rw [hadd, cell_of_row w g j cur E (0, 0) hg]
    have hj : j < bs.length := by
      rcases Nat.lt_or_ge j bs.length with h1 | h1
      · exact h1
      · rw [List.getElem?_eq_none h1] at hb; cases hb
    have h2 : (cur.toList.take (bs.length * 1))[j]? = some (byteV b) := by rw [htake]; simp [hb]
    rw [List.getElem?_take] at h2
    rw [if_pos (by omega)] at h2
    simpa using h2
theorem OwnB.cap {base : Nat} {E : TypeId} {x : Option Addr} {c : Nat} {bs : List UInt8} (h : OwnB w base E x c bs) : bs.length ≤ c ∧ c ≤ maxLen := by
  rcases h.2 with ⟨hv, h0⟩ | ⟨g, cap, cur, hv, hbg, hg, hnc, hcm, hcs, htake⟩
  · simp only [Value.slice.injEq] at hv
    obtain ⟨_, h1, rfl⟩ := hv
    exact ⟨by omega, by unfold maxLen; omega⟩
  · simp only [Value.slice.injEq] at hv
    obtain ⟨_, _, rfl⟩ := hv
    exact ⟨hnc, hcm⟩
theorem OwnB.at {base : Nat} {E : TypeId} {x : Option Addr} {c : Nat} {bs : List UInt8} (h : OwnB w base E x c bs) : ∀ y, x = some y → base ≤ y.block ∧ y.block < w.heap.size := by
  intro y hy
  subst hy
  exact h.lt y.block rfl
theorem OwnB.kept {S : Nat → Prop} {w' : World} {base : Nat} {E : TypeId} {x : Option Addr} {c : Nat} {bs : List UInt8} (h : OwnB w base E x c bs) (k : Kept S w w') (hs : ∀ y, x = some y → ¬ S y.block) : OwnB w' base E x c bs := by
  refine ⟨h.1, ?_⟩
  rcases h.2 with hn | ⟨g, cap, cur, hv, hb, hgg, rest⟩
  · exact .inl hn
  · have hv' := hv
    simp only [Value.slice.injEq] at hv'
    exact .inr ⟨g, cap, cur, hv, hb, k.heap hgg (hs _ hv'.1), rest⟩

theorem run_append_noneB (base : Nat) (t ty e : TypeId) (i : TypeInfo) (ht : P.underlying t = some (.slice e)) (hi : P.info? e = some i)
    (v : Value) (n c : Nat) (xs : List Value) (hown : w.ownsRow base e 1 v n xs) :
    (Builtin.append_ #[t, t] ty #[v, .slice none 0 c]).run P w = .ok v w := by
  rcases hown.2 with ⟨rfl, rfl⟩ | ⟨g, cap, cur, rfl, _, _, hnc, _⟩
  · simp [Builtin.append_, run_underlying ht, sizeOf, typeInfo, hi, Builtin.lenOf, Builtin.firstCells]
  · simp [Builtin.append_, run_underlying ht, sizeOf, typeInfo, hi, Builtin.lenOf, Builtin.firstCells, hnc, storeCells]

/-- 'append' of bytes onto the call's own slice, at the operation. -/
theorem wp_appendB {K : Act → World → Prop} (s x : Operand) (t : TypeId)
    (ho : o.op = .call { callee := .builtin .append, args := #[s, x], argTypes := #[t, t] })
    (base : Nat) (E : TypeId) (i : TypeInfo) (ht : P.underlying t = some (.slice E)) (hi : P.info? E = some i) (hz : i.zero = some (.int .u8 0))
    (hsize : i.size = 1) (hby : i.bytes = 1)
    (ad : Option Addr) (n c : Nat) (bs : List UInt8) (hs : a.eval s = .slice ad n c) (hn : bs.length = n) (hown : OwnB w base E ad c bs)
    (sp : Option Addr) (m sc : Nat) (cs : List UInt8) (hx : a.eval x = .slice sp m sc) (hm : cs.length = m) (hsrc : IsB w sp cs)
    (hbytes : n + m ≤ 140737488355328) (hbase : base ≤ w.heap.size)
    (h : ∀ ad' c' w', Hid (OwnB w' base E ad' c' (bs ++ cs)) → Kept (fun k => ad.map (·.block) = some k) w w' → (∀ y, ad' = some y → ad.map (·.block) = some y.block ∨ w.heap.size ≤ y.block) →
      K (a.put o.dst (.slice ad' (n + m : Nat) c')) w') : o.wp P a w K Q := by
  subst hn
  subst hm
  cases sp with
  | none =>
    have h0 := hsrc.none_eq
    subst h0
    have hrun := run_append_noneB (P := P) (w := w) base t o.type E i ht hi (.slice ad bs.length c) bs.length sc _ hown
    unfold Oper.wp
    have hx' : a.eval x = .slice none 0 sc := by simpa using hx
    simp [execOp, ho, resolve, invoke, builtin, hs, hx', hrun, Result.andThen]
    have := h ad c w (show OwnB _ _ _ _ _ _ by simpa using hown) (Kept.refl _ _) (fun y hy => .inl (by subst hy; rfl))
    simp only [List.length_nil, Nat.add_zero] at this
    exact this
  | some y =>
    obtain ⟨v', w', hr, hown', hgrow, hnil, hat⟩ := run_append_own_at (P := P) w base t o.type E i (.int .u8 0) 1 1 ht hi hz hsize hby rfl (by decide) (.slice ad bs.length c) bs.length _ hown y cs.length sc (cs.map byteV) (by simp) hsrc.values (oneCell_byteV cs)
      (by unfold maxLen; omega) (by omega) hbase
    unfold Oper.wp execOp
    simp only [ho, resolve, invoke, builtin, Sem.run_bind, Sem.run_pure, Result.andThen_ok, List.map_toArray, List.map_cons, List.map_nil, hs, hx, hr]
    clear hr
    have hex : ∃ ad' c', v' = .slice ad' (bs.length + cs.length) c' := by
      rcases hown'.2 with ⟨rfl, h0⟩ | ⟨g, cap, cur, rfl, _⟩
      · exact ⟨none, 0, by rw [h0]⟩
      · exact ⟨_, _, rfl⟩
    obtain ⟨ad', c', rfl⟩ := hex
    have hmap : (Value.slice ad bs.length c).ownBlock = ad.map (·.block) := by cases ad <;> rfl
    have hK : Kept (fun k => ad.map (·.block) = some k) w w' := by
      refine (Kept.of_grownBy hgrow).mono ?_
      intro k _ hk
      rw [← hmap]
      exact hk.symm
    refine h ad' c' w' (show OwnB _ _ _ _ _ _ by unfold OwnB; simpa using hown') hK ?_
    intro y' hy'
    subst hy'
    rw [hmap] at hat
    rcases hat with h1 | h1
    · left
      rw [← h1]; rfl
    · right
      have : y'.block = w.heap.size := by simpa [Value.ownBlock] using h1
      omega

/-- 'append' of bytes onto the call's own slice, in a list of operations. -/
theorem wpList_appendB (hgd : o.guard = none) (s x : Operand) (t : TypeId)
    (ho : o.op = .call { callee := .builtin .append, args := #[s, x], argTypes := #[t, t] })
    (base : Nat) (E : TypeId) (i : TypeInfo) (ht : P.underlying t = some (.slice E)) (hi : P.info? E = some i) (hz : i.zero = some (.int .u8 0))
    (hsize : i.size = 1) (hby : i.bytes = 1)
    (ad : Option Addr) (n c : Nat) (bs : List UInt8) (hs : a.eval s = .slice ad n c) (hn : bs.length = n) (hown : OwnB w base E ad c bs)
    (sp : Option Addr) (m sc : Nat) (cs : List UInt8) (hx : a.eval x = .slice sp m sc) (hm : cs.length = m) (hsrc : IsB w sp cs)
    (hbytes : n + m ≤ 140737488355328) (hbase : base ≤ w.heap.size)
    (h : ∀ ad' c' w', Hid (OwnB w' base E ad' c' (bs ++ cs)) → Kept (fun k => ad.map (·.block) = some k) w w' → (∀ y, ad' = some y → ad.map (·.block) = some y.block ∨ w.heap.size ≤ y.block) →
      wpList P ops Q rest (a.put o.dst (.slice ad' (n + m : Nat) c')) w') : wpList P ops Q (o :: rest) a w :=
  wpList_plain hgd fun _ hK => wp_appendB s x t ho base E i ht hi hz hsize hby ad n c bs hs hn hown sp m sc cs hx hm hsrc hbytes hbase fun ad' c' w' h1 h2 h3 => hK _ _ (h ad' c' w' h1 h2 h3)

end

/-- 'string(b)'. -/
theorem run_convB {P : Program} (w : World) (src E dst : TypeId) (hs : P.underlying src = some (.slice E)) (he : P.underlying E = some (.int .u8)) (hd : P.underlying dst = some .string)
    (x : Option Addr) (bs : List UInt8) (n c : Nat) (hn : bs.length = n) (h : IsB w x bs) : (convert src dst (.slice x n c)).run P w = .ok (.string ⟨bs.toArray⟩) w := by
  subst hn
  cases x with
  | none =>
    obtain rfl := h.none_eq
    exact run_convert_bytes_nil w src E hs he 0 c dst hd
  | some y =>
    have hl : (loadCells y bs.length).run P w = .ok ((bs.map fun b => (b.toNat : Int)).map (Value.int .u8)).toArray w := by
      have := run_loadCells_list (P := P) w y (bs.map byteV) h.values
      simpa [show byteV = fun b => Value.int .u8 b.toNat from rfl, Function.comp_def] using this
    rw [run_convert_bytes_string w src dst E _ bs.length c hs he hd, run_bytesToString w _ bs.length c _ hl, foldl_push_bytes]
    simp [Function.comp_def, ByteArray.empty, ByteArray.emptyWithCapacity]
    rfl
end Go.Proofs.YtcfgbdhpcboikaaGreatDoor

namespace Go.Proofs.YtcfgbdhpcboikaaGreatDoor
open Go.RowKit

/-- A node, by what it is. -/
inductive Nd where
  | mk (kind space : Int) (name : ByteArray) (attrs : List (ByteArray × ByteArray)) (text : ByteArray) (kids : List Nd)
def Nd.kids : Nd → List Nd | .mk _ _ _ _ _ k => k
def Nd.kind : Nd → Int | .mk k _ _ _ _ _ => k
def Nd.space : Nd → Int | .mk _ s _ _ _ _ => s
def Nd.name : Nd → ByteArray | .mk _ _ n _ _ _ => n
def Nd.attrs : Nd → List (ByteArray × ByteArray) | .mk _ _ _ a _ _ => a
def Nd.text : Nd → ByteArray | .mk _ _ _ _ t _ => t
mutual
def Nd.sz : Nd → Nat
  | .mk _ _ _ _ _ ks => 1 + szAll ks
def szAll : List Nd → Nat
  | [] => 0
  | k :: ks => k.sz + szAll ks
end
theorem sz_pos (n : Nd) : 1 ≤ n.sz := by cases n; unfold Nd.sz; omega
theorem sz_get : ∀ (ks : List Nd) (j : Nat) (h : j < ks.length), (ks[j]).sz ≤ szAll ks := by
  intro ks
  induction ks with
  | nil => intro j h; simp at h
  | cons k ks ih =>
    intro j h
    unfold szAll
    cases j with
    | zero => simp
    | succ j =>
      have := ih j (by simpa using h)
      simp only [List.getElem_cons_succ]
      omega
/-- Six cells in a row. -/
structure Six (w : World) (g o : Nat) (c0 c1 c2 c3 c4 c5 : Value) : Prop where
  x0 : w.cell? ⟨g, o, none⟩ = some c0
  x1 : w.cell? ⟨g, o + 1, none⟩ = some c1
  x2 : w.cell? ⟨g, o + 2, none⟩ = some c2
  x3 : w.cell? ⟨g, o + 3, none⟩ = some c3
  x4 : w.cell? ⟨g, o + 4, none⟩ = some c4
  x5 : w.cell? ⟨g, o + 5, none⟩ = some c5
theorem Six.below {w w' : World} {g o B : Nat} {c0 c1 c2 c3 c4 c5 : Value} (h : Six w g o c0 c1 c2 c3 c4 c5) (hb : Below B w w') (hB : w.heap.size ≤ B) : Six w' g o c0 c1 c2 c3 c4 c5 := by
  have hg : g < B := Nat.lt_of_lt_of_le (World.block_lt_of_cell? w _ h.x0) hB
  have k : ∀ f v, w.cell? ⟨g, f, none⟩ = some v → w'.cell? ⟨g, f, none⟩ = some v := fun f v e => by rw [hb.cell (p := ⟨g, f, none⟩) hg]; exact e
  exact ⟨k _ _ h.x0, k _ _ h.x1, k _ _ h.x2, k _ _ h.x3, k _ _ h.x4, k _ _ h.x5⟩
/-- Attributes in memory. -/
def AttrsV (w : World) (v : Value) (l : List (ByteArray × ByteArray)) : Prop :=
  ∃ a c, v = .slice a l.length c ∧ ∀ j (h : j < l.length), ∃ g off, a = some ⟨g, off, none⟩ ∧ w.cell? ⟨g, off + j * 2, none⟩ = some (.string (l[j]).1) ∧ w.cell? ⟨g, off + j * 2 + 1, none⟩ = some (.string (l[j]).2)
theorem AttrsV.below {w w' : World} {B : Nat} {v : Value} {l : List (ByteArray × ByteArray)} (h : AttrsV w v l) (hb : Below B w w') (hB : w.heap.size ≤ B) : AttrsV w' v l := by
  obtain ⟨a, c, e, h⟩ := h
  refine ⟨a, c, e, fun j hj => ?_⟩
  obtain ⟨g, off, ha, h1, h2⟩ := h j hj
  have hg : g < B := Nat.lt_of_lt_of_le (World.block_lt_of_cell? w _ h1) hB
  exact ⟨g, off, ha, by rw [hb.cell (p := ⟨g, _, none⟩) hg]; exact h1, by rw [hb.cell (p := ⟨g, _, none⟩) hg]; exact h2⟩
mutual
/-- A value is a node. -/
def NodeV (w : World) : Nd → Value → Prop
  | .mk kd sp nm at' tx ks, v => ∃ av a c, v = .agg #[.int .i64 kd, .int .i64 sp, .string nm, av, .string tx, .slice a ks.length c] ∧ ks.length ≤ 140737488355328 ∧ AttrsV w av at' ∧ KidsV w a 0 ks
/-- Nodes from a place of a slice on. -/
def KidsV (w : World) (a : Option Addr) : Nat → List Nd → Prop
  | _, [] => True
  | i, n :: ks => (∃ g off c0 c1 c2 c3 c4 c5, a = some ⟨g, off, none⟩ ∧ Six w g (off + i * 6) c0 c1 c2 c3 c4 c5 ∧ NodeV w n (.agg #[c0, c1, c2, c3, c4, c5])) ∧ KidsV w a (i + 1) ks
end
theorem KidsV.get {w : World} {a : Option Addr} : ∀ (ks : List Nd) (i j : Nat) (h : j < ks.length), KidsV w a i ks → ∃ g off c0 c1 c2 c3 c4 c5, a = some ⟨g, off, none⟩ ∧ Six w g (off + (i + j) * 6) c0 c1 c2 c3 c4 c5 ∧ NodeV w ks[j] (.agg #[c0, c1, c2, c3, c4, c5]) := by
  intro ks
  induction ks with
  | nil => intro i j h; simp at h
  | cons k ks ih =>
    intro i j h hk
    unfold KidsV at hk
    cases j with
    | zero => exact hk.1
    | succ j =>
      have := ih (i + 1) j (by simpa using h) hk.2
      rw [show i + 1 + j = i + (j + 1) by omega] at this
      exact this
theorem nodes_below {w w' : World} {B : Nat} (hb : Below B w w') (hB : w.heap.size ≤ B) : ∀ m : Nat, (∀ (n : Nd) (v : Value), n.sz ≤ m → NodeV w n v → NodeV w' n v) ∧ (∀ (a : Option Addr) (ks : List Nd) (i : Nat), szAll ks ≤ m → KidsV w a i ks → KidsV w' a i ks) := by
  intro m
  induction m with
  | zero =>
    refine ⟨fun n v hn => absurd (sz_pos n) (by omega), fun a ks => ?_⟩
    induction ks with
    | nil => intro i _ h; unfold KidsV; trivial
    | cons k ks _ => intro i hs; unfold szAll at hs; exact absurd (sz_pos k) (by omega)
  | succ m ih =>
    have hN : ∀ (n : Nd) (v : Value), n.sz ≤ m + 1 → NodeV w n v → NodeV w' n v := by
      intro n v hs h
      cases n with
      | mk kd sp nm at' tx ks =>
        unfold Nd.sz at hs
        unfold NodeV at h ⊢
        obtain ⟨av, a, c, e, hl, ha, hk⟩ := h
        exact ⟨av, a, c, e, hl, ha.below hb hB, ih.2 a ks 0 (by omega) hk⟩
    refine ⟨hN, fun a ks => ?_⟩
    induction ks with
    | nil => intro i _ h; unfold KidsV; trivial
    | cons k ks ihk =>
      intro i hs h
      unfold szAll at hs
      unfold KidsV at h ⊢
      obtain ⟨⟨g, off, c0, c1, c2, c3, c4, c5, e, h6, hn⟩, hr⟩ := h
      exact ⟨⟨g, off, c0, c1, c2, c3, c4, c5, e, h6.below hb hB, hN k _ (by omega) hn⟩, ihk (i + 1) (by omega) hr⟩
theorem NodeV.below {w w' : World} {B : Nat} {n : Nd} {v : Value} (h : NodeV w n v) (hb : Below B w w') (hB : w.heap.size ≤ B) : NodeV w' n v := (nodes_below hb hB n.sz).1 n v (Nat.le_refl _) h
theorem KidsV.below {w w' : World} {B : Nat} {a : Option Addr} {ks : List Nd} {i : Nat} (h : KidsV w a i ks) (hb : Below B w w') (hB : w.heap.size ≤ B) : KidsV w' a i ks := (nodes_below hb hB (szAll ks)).2 a ks i (Nat.le_refl _) h

theorem NodeV.cells {w : World} {n : Nd} {c0 c1 c2 c3 c4 c5 : Value} (h : NodeV w n (.agg #[c0, c1, c2, c3, c4, c5])) :
    ∃ a b a' b', c0 = .int .i64 n.kind ∧ c1 = .int .i64 n.space ∧ c2 = .string n.name ∧ c3 = .slice a n.attrs.length b ∧ c4 = .string n.text ∧ c5 = .slice a' n.kids.length b' := by
  cases n with
  | mk kd sp nm at' tx ks =>
    unfold NodeV at h
    obtain ⟨av, a', b', e, _, ⟨a, b, rfl, _⟩, _⟩ := h
    simp only [Value.agg.injEq, Array.mk.injEq, List.cons.injEq, and_true] at e
    obtain ⟨rfl, rfl, rfl, rfl, rfl, rfl⟩ := e
    exact ⟨a, b, a', b', rfl, rfl, rfl, rfl, rfl, rfl⟩
mutual
/-- How many nodes of a budget are left, below 0 if they are too many, or too deep. -/
def fewL : Nat → Nd → Int → Int
  | 0, _, _ => -1
  | d + 1, .mk _ _ _ _ _ ks, left => fewK d ks (left - 1)
def fewK : Nat → List Nd → Int → Int
  | _, [], left => left
  | d, k :: ks, left => if left < 0 then left else fewK d ks (fewL d k left)
end
theorem few_range : ∀ (m : Nat), (∀ (n : Nd) (d : Nat) (l : Int), n.sz ≤ m → 0 ≤ l → l ≤ 1000 → -1 ≤ fewL d n l ∧ fewL d n l ≤ 1000) ∧ (∀ (ks : List Nd) (d : Nat) (l : Int), szAll ks ≤ m → -1 ≤ l → l ≤ 1000 → -1 ≤ fewK d ks l ∧ fewK d ks l ≤ 1000) := by
  intro m
  induction m with
  | zero =>
    refine ⟨fun n _ _ hn => absurd (sz_pos n) (by omega), fun ks => ?_⟩
    cases ks with
    | nil => intro d l _ h1 h2; unfold fewK; exact ⟨h1, h2⟩
    | cons k ks => intro d l hs; unfold szAll at hs; exact absurd (sz_pos k) (by omega)
  | succ m ih =>
    have hN : ∀ (n : Nd) (d : Nat) (l : Int), n.sz ≤ m + 1 → 0 ≤ l → l ≤ 1000 → -1 ≤ fewL d n l ∧ fewL d n l ≤ 1000 := by
      intro n d l hs h0 h1
      cases n with
      | mk kd sp nm at' tx ks =>
        unfold Nd.sz at hs
        cases d with
        | zero => unfold fewL; omega
        | succ d => unfold fewL; exact ih.2 ks d (l - 1) (by omega) (by omega) (by omega)
    refine ⟨hN, fun ks => ?_⟩
    induction ks with
    | nil => intro d l _ h1 h2; unfold fewK; exact ⟨h1, h2⟩
    | cons k ks ihk =>
      intro d l hs h1 h2
      unfold szAll at hs
      unfold fewK
      split
      · omega
      · have := hN k d l (by omega) (by omega) h2
        exact ihk d _ (by omega) this.1 this.2
def FewRel (ks : List Nd) (d k : Nat) (left r : Int) (w wx : World) : Prop :=
  k ≤ ks.length ∧ -1 ≤ left ∧ left ≤ 1000 ∧ fewK d (ks.drop k) left = r ∧ Below w.heap.size w wx
set_option maxRecDepth 100000 in
set_option maxHeartbeats 2000000 in
theorem few_any : ∀ (m : Nat) (n : Nd), n.sz ≤ m → ∀ (v : Value) (d : Nat) (D : Int) (left r : Int) (w : World), Hid (D = (d : Nat)) → d ≤ 1000 → 0 ≤ left → left ≤ 1000 → Hid (NodeV w n v) → Hid (fewL d n left = r) →
    Calls Tryz.prog 89 #[v, .int .i64 left, .int .i64 D] w fun e w' => e = .returned (.int .i64 r) ∧ Below w.heap.size w w' := by
  intro m
  induction m with
  | zero => intro n hn; exact absurd (sz_pos n) (by omega)
  | succ m ih =>
    intro n hn v d D left r w hD hd h0 h1 hV hr
    have hv := hV.out
    cases n with
    | mk kd sp nm at' tx ks =>
    unfold NodeV at hv
    obtain ⟨av, a, c, rfl, hlen, hA, hK⟩ := hv
    have HK := Lib.hid hK
    have HIH := Lib.hid ih
    have HN := Lib.hid hn
    clear hA hK ih hn hV
    cases d with
    | zero =>
      have hr2 : -1 = r := by have := hr.out; unfold fewL at this; exact this
      have HR := Lib.hid hr2
      clear hr2 hr
      obtain rfl : D = 0 := hD.out
      go_enter Tryz.func89, Tryz.ntmps89
      go_wp2
      go_ret
      refine ⟨?_, (Below.refl _ w).alloc (Nat.le_refl _) _⟩
      rw [← HR.out]
      rfl
    | succ d =>
      have hr2 : fewK d ks (left - 1) = r := by have := hr.out; unfold fewL at this; exact this
      have HR : Hid (FewRel ks d 0 (left - 1) r w (w.alloc (.cells #[.int .i64 kd, .int .i64 sp, .string nm, av, .string tx, .slice a ks.length c] 45))) := ⟨Nat.zero_le _, by omega, by omega, hr2, (Below.refl _ w).alloc (Nat.le_refl _) _⟩
      clear hr2 hr
      have hDb : D = (d : Int) + 1 := by rw [hD.out]; omega
      have hq0 : (D == 0) = false := by rw [beq_eq_false_iff_ne]; omega
      have hD1 : 1 ≤ D := by omega
      have hD2 : D ≤ 1001 := by omega
      have HDD : Hid (D - 1 = (d : Nat)) := by show _ = _; omega
      clear hDb
      go_enter Tryz.func89, Tryz.ntmps89
      go_wp2
      go_loopw [1, 16] (fun l i wx => ∃ (k : Nat) (L : Int), i = .int .i64 k ∧ l = .int .i64 L ∧ Hid (FewRel ks d k L r w wx)) (fun _ i _ => ks.length - (intOf i).toNat)
      case atStart => exact ⟨0, left - 1, rfl, rfl, HR⟩
      case round =>
        obtain ⟨k, L, rfl, rfl, hR⟩ := hrel
        have hk := hR.out.1
        have hL0 := hR.out.2.1
        have hL1 := hR.out.2.2.1
        rcases Nat.lt_or_ge k ks.length with hlt | hge
        · obtain ⟨g, off, c0, c1, c2, c3, c4, c5, rfl, h6, hn⟩ := HK.out.get ks 0 k hlt
          rw [Nat.zero_add] at h6
          have h6' := h6.below hR.out.2.2.2.2 (Nat.le_refl _)
          obtain ⟨x0, x1, x2, x3, x4, x5⟩ := h6'
          have hst : fewK d (ks.drop k) L = if L < 0 then L else fewK d (ks.drop (k + 1)) (fewL d ks[k] L) := by
            rw [List.drop_eq_getElem_cons hlt]
            conv => lhs; unfold fewK
          have HST := Lib.hid hst
          obtain ⟨a1, b1, a2, b2, rfl, rfl, rfl, rfl, rfl, rfl⟩ := hn.cells
          have HND := Lib.hid (hn.below hR.out.2.2.2.2 (Nat.le_refl _))
          clear hst hn h6
          have HSZ := Lib.hid (sz_get ks k hlt)
          have HNN := HN.out
          unfold Nd.sz at HNN
          have hm : (ks[k]).sz ≤ m := by have := HSZ.out; omega
          have HM := Lib.hid hm
          clear hm HNN
          generalize ks[k] = q at *
          rcases Int.lt_or_le L 0 with hneg | hpos
          · have hrL : L = r := by
              have := hR.out.2.2.2.1
              rw [HST.out, if_pos hneg] at this
              exact this
            have HRL := Lib.hid hrL
            clear hrL
            go_wp2
            go_ret
            refine ⟨?_, hR.out.2.2.2.2.trans (((Below.refl _ wr).alloc (Nat.le_refl _) _).mono hR.out.2.2.2.2.size)⟩
            rw [HRL.out]
            rfl
          · have hB2 : Below w.heap.size w (wr.alloc (.cells #[.int .i64 q.kind, .int .i64 q.space, .string q.name, .slice a1 q.attrs.length b1, .string q.text, .slice a2 q.kids.length b2] 45)) := hR.out.2.2.2.2.trans (((Below.refl _ wr).alloc (Nat.le_refl _) _).mono hR.out.2.2.2.2.size)
            have HB2 := Lib.hid hB2
            have HND2 := Lib.hid (HND.out.below ((Below.refl wr.heap.size wr).alloc (Nat.le_refl _) (.cells #[.int .i64 q.kind, .int .i64 q.space, .string q.name, .slice a1 q.attrs.length b1, .string q.text, .slice a2 q.kids.length b2] 45)) (Nat.le_refl _))
            clear hB2
            go_wp2_with fail
            refine (HIH.out q HM.out _ d (D - 1) L (fewL d q L) _ HDD (by omega) hpos hL1 HND2 (Lib.hid rfl)).mono ?_
            rintro e W2 ⟨rfl, B2⟩
            have HN2 : Hid (FewRel ks d (k + 1) (fewL d q L) r w W2) := by
              have hrg := (few_range q.sz).1 q d L (Nat.le_refl _) hpos hL1
              refine ⟨hlt, hrg.1, hrg.2, ?_, HB2.out.trans (B2.mono HB2.out.size)⟩
              have := hR.out.2.2.2.1
              rw [HST.out, if_neg (by omega)] at this
              exact this
            clear B2
            go_wp2
            go_roundw
            case rel => exact ⟨k + 1, fewL d q L, by go_num, rfl, HN2⟩
            case measure => simp [intOf]; omega
        · have hrL : L = r := by
            have := hR.out.2.2.2.1
            rw [List.drop_eq_nil_of_le (by omega)] at this
            unfold fewK at this
            exact this
          have HRL := Lib.hid hrL
          clear hrL
          go_wp2
          go_ret
          refine ⟨?_, hR.out.2.2.2.2⟩
          rw [HRL.out]
          rfl
end Go.Proofs.YtcfgbdhpcboikaaGreatDoor
