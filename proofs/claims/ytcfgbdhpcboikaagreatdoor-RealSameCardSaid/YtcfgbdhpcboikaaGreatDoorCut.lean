/-
  A cut of a slice of bytes, as one equation with the address written out.
  internal/strconv.setDigits: the digits of a number in a buffer, and how many there are without the noughts at the end.
  A slice of bytes that a call appends to, step by step, as one predicate.
-/
import Derived.Test.YtcfgbdhpcboikaaGreatDoorBase
import Derived.Test.YtcfgbdhpcboikaaGreatDoorShort
import Derived.Lib.ItoaMem
import Derived.Deep.LoopGhost
namespace Go.Proofs.YtcfgbdhpcboikaaGreatDoor
open Go.RowKit
section
variable {P : Program} (T E : TypeId) (ht : P.underlying T = some (.slice E)) (hs : (P.info? E).map (·.size) = some 1) (w : World) (a : Option Addr) (n c l h : Nat)
include ht hs
theorem run_cut_l (h1 : l ≤ n) : (Instr.slice T (.slice a n c) (some (.int .i64 l)) none none).run P w = .ok (.slice (if c = l then a else a.map (·.add l)) (n - l) (c - l)) w := by
  cases hq : P.info? E with
  | none => simp [hq] at hs
  | some i =>
    have hi : i.size = 1 := by simpa [hq] using hs
    simp [Instr.slice, run_underlying ht, Instr.sliceBounds, run_sliceBound, sizeOf, typeInfo, hq, hi, h1]
theorem run_cut_h (h1 : h ≤ c) : (Instr.slice T (.slice a n c) none (some (.int .i64 h)) none).run P w = .ok (.slice a h c) w := by
  cases hq : P.info? E with
  | none => simp [hq] at hs
  | some i =>
    simp [Instr.slice, run_underlying ht, Instr.sliceBounds, run_sliceBound, sizeOf, typeInfo, hq, h1, Addr.add]
theorem run_cut_lh (h1 : l ≤ h) (h2 : h ≤ c) : (Instr.slice T (.slice a n c) (some (.int .i64 l)) (some (.int .i64 h)) none).run P w = .ok (.slice (if c = l then a else a.map (·.add l)) (h - l) (c - l)) w := by
  cases hq : P.info? E with
  | none => simp [hq] at hs
  | some i =>
    have hi : i.size = 1 := by simpa [hq] using hs
    simp [Instr.slice, run_underlying ht, Instr.sliceBounds, run_sliceBound, sizeOf, typeInfo, hq, hi, h1, h2]
end
/-- '[]byte{}'. -/
theorem OwnB.empty (w : World) (base : Nat) (E : TypeId) (h : base ≤ w.heap.size) : OwnB (w.alloc (.cells #[] E)) base E (some ⟨w.heap.size, 0, none⟩) 0 [] :=
  World.ownsRow_made w #[] 0 h (by unfold maxLen; omega) rfl
theorem IsB.same {w w' : World} {a : Option Addr} {bs : List UInt8} (h : IsB w a bs) (hh : w'.heap = w.heap) : IsB w' a bs := by
  intro j b hb
  obtain ⟨x, hx, hc⟩ := h j b hb
  exact ⟨x, hx, by unfold World.cell? at *; rw [hh]; exact hc⟩
end Go.Proofs.YtcfgbdhpcboikaaGreatDoor

namespace Go.Proofs.YtcfgbdhpcboikaaGreatDoor
open Go.RowKit Go.Sort

/-- How many bytes a text has without the noughts at its end. -/
def trimN (l : List UInt8) : Nat := (l.reverse.dropWhile (· == 48)).length
theorem trimN_le (l : List UInt8) : trimN l ≤ l.length := by
  unfold trimN
  have : ∀ (r : List UInt8), (r.dropWhile (· == 48)).length ≤ r.length := by
    intro r
    induction r with
    | nil => simp
    | cons a r ih => rw [List.dropWhile_cons]; split <;> simp <;> omega
  have := this l.reverse
  simpa using this
theorem trimN_snoc (l : List UInt8) (c : UInt8) : trimN (l ++ [c]) = if c = 48 then trimN l else l.length + 1 := by
  unfold trimN
  rw [List.reverse_append, List.reverse_singleton, List.singleton_append, List.dropWhile_cons]
  by_cases h : c = 48
  · simp [h]
  · simp [h]
theorem trim_take (l : List UInt8) (k : Nat) (hk : k < l.length) (h : l[k] = 48) (ht : trimN (l.take (k + 1)) = trimN l) : trimN (l.take k) = trimN l := by
  rw [← ht, List.take_succ_eq_append_getElem hk, trimN_snoc, if_pos h]
theorem trim_stop (l : List UInt8) (k : Nat) (hk : k < l.length) (h : l[k] ≠ 48) (ht : trimN (l.take (k + 1)) = trimN l) : trimN l = k + 1 := by
  rw [← ht, List.take_succ_eq_append_getElem hk, trimN_snoc, if_neg h, List.length_take]
  omega

theorem nDigits_le20 (u : Nat) (h : u < 18446744073709551616) : Lib.nDigits u ≤ 20 := by
  have h0 := Lib.nDigits_pos u
  rcases Nat.lt_or_ge 20 (Lib.nDigits u) with h1 | h1
  · exfalso
    by_cases hu : u = 0
    · rw [hu, Lib.nDigits_small (by omega)] at h1
      omega
    · have := Lib.numDigits_eq u (by omega) h
      have h2 : (if 10 ^ Lib.l10 (Lib.bitLen u) ≤ u then 1 else 0) ≤ 1 := by split <;> omega
      omega
  · exact h1

theorem putRow_kept (w : World) (g off : Nat) (dk : Array UInt8) : Kept (· = g) w (putRow (fun (b : UInt8) => Value.int .u8 (b.toNat : Int)) w g off dk) :=
  ⟨rfl, rfl, rfl, by simp, fun k _ hn => by
    show (w.heap.modify g _)[k]? = _
    rw [Array.getElem?_modify, if_neg (fun e => hn e.symm)]⟩

theorem run_cut_to (w : World) (g n c h : Nat) (h1 : h ≤ c) : (Instr.slice 35 (.slice (some ⟨g, 0, none⟩) n c) none (some (.int .i64 h)) none).run Tryz.prog w = .ok (.slice (some ⟨g, 0, none⟩) h c) w := by
  exact run_cut_h 35 5 Tryz.underlying35 (by kernel_rfl) w _ n c h h1

set_option maxRecDepth 100000 in
set_option maxHeartbeats 4000000 in
theorem setDigits_any (g d : Nat) (p : Int) (N : Nat) (w : World) (hH : Holds (fun (b : UInt8) => Value.int .u8 (b.toNat : Int)) w g 0 (Array.replicate 32 0)) (_hd1 : 1 ≤ d) (hd : d < 18446744073709551616) (hN : Lib.nDigits d = N) (p1 : -2000 ≤ p) (p2 : p ≤ 2000) :
    Calls Tryz.prog 259 #[.slice (some ⟨g, 0, none⟩) 32 32, .int .u64 d, .int .i64 p, .int .i64 N] w
      fun e w' => e = .returned (.tuple #[.int .i64 (N + p), .int .i64 (trimN (Lib.decDigits d) : Nat)]) ∧ IsB w' (some ⟨g, 0, none⟩) (Lib.decDigits d) ∧ Kept (· = g) w w' := by
  have n20 : N ≤ 20 := by rw [← hN]; exact nDigits_le20 d hd
  have hN1 : 1 ≤ N := by rw [← hN]; exact Lib.nDigits_pos d
  have hHN : Holds (fun (b : UInt8) => Value.int .u8 (b.toNat : Int)) w g 0 (Array.replicate N 0) := by
    intro j hj
    have hj' : j < N := by simpa using hj
    have := hH j (by simp; omega)
    rw [getElem!_pos _ j (by simp; omega)] at this
    rw [getElem!_pos _ j hj]
    simpa using this
  have hlt : d < 10 ^ (Array.replicate N (0 : UInt8)).size := by rw [Array.size_replicate, ← hN]; exact Lib.lt_pow_nDigits d
  have FB := fun cap => Tryz.internal_strconv_formatBase10 g 0 cap d (Array.replicate N 0) w hHN hlt hd (by simp; omega)
  rw [Array.size_replicate] at FB
  have c1 := fun w => run_cut_to w g 32 32 N (by omega)
  have hdl : (Lib.decDigits d).length = N := by rw [Lib.decDigits_length, hN]
  have HFB := Lib.hid FB
  have HHN := Lib.hid hHN
  have HNN := Lib.hid hN
  have HDL := Lib.hid hdl
  clear FB hlt hHN hH hN hdl
  go_enter Tryz.func259, Tryz.ntmps259
  go_wp2_with fail
  refine (HFB.out _).mono ?_
  rintro e w1 ⟨rfl, n, v', dk, hw1, F⟩
  have K1 : Kept (· = g) w w1 := by rw [hw1]; exact (putRow_kept w g 0 dk).drewN n
  have hds : dk.size = N := F.size
  have S1 : IsB w1 (some ⟨g, 0, none⟩) (Lib.decDigits d) := by
    intro j b hb
    have hj : j < N := by
      rcases Nat.lt_or_ge j N with h1 | h1
      · exact h1
      · rw [List.getElem?_eq_none (by rw [HDL.out]; exact h1)] at hb; cases hb
    refine ⟨_, rfl, ?_⟩
    rw [Lib.add_plain, hw1]
    have hr := Lib.row_is_numeral (u := d) (v' := v') (dk := dk) (by rw [HNN.out]; exact F) j (by rw [HDL.out]; exact hj)
    have hb' : (Lib.decDigits d)[j]'(by rw [HDL.out]; exact hj) = b := by
      rw [List.getElem?_eq_getElem (by rw [HDL.out]; exact hj)] at hb
      exact Option.some.inj hb
    show (putRow _ w g 0 dk).cell? ⟨g, 0 + j, none⟩ = _
    rw [cell?_putRow _ w g 0 (Array.replicate N 0) dk HHN.out (by simpa using hds) j (by omega), ← hr, hb']
    rfl
  have HK := Lib.hid K1
  have HS := Lib.hid S1
  clear K1 S1 hds F hw1
  go_wp2_with fail
  go_loopg [3] N (fun k nd wx => ∃ (j : Nat), nd = .int .i64 j ∧ j ≤ N ∧ trimN ((Lib.decDigits d).take j) = trimN (Lib.decDigits d) ∧ k = j ∧ wx = w1)
  case atStart => exact ⟨N, rfl, Nat.le_refl _, by rw [List.take_of_length_le (by rw [HDL.out]; exact Nat.le_refl _)], rfl, rfl⟩
  case round =>
    obtain ⟨j, rfl, hj, ht, hk, hwx⟩ := hrel
    subst hwx
    have HTR := Lib.hid ht
    have HKK := Lib.hid hk
    clear ht hk
    by_cases h0 : j = 0
    · have hp : ¬ (0 : Int) < j := by omega
      have H0 := Lib.hid h0
      clear h0
      go_wp2
      go_ret2
      refine ⟨?_, HS.out, HK.out⟩
      have := HTR.out
      rw [H0.out] at this ⊢
      rw [← this]
      rfl
    · obtain ⟨i, hi⟩ : ∃ i, j = i + 1 := ⟨j - 1, by omega⟩
      subst hi
      have hil : i < (Lib.decDigits d).length := by rw [HDL.out]; omega
      have hcell := HS.out i ((Lib.decDigits d)[i]) (List.getElem?_eq_getElem hil)
      obtain ⟨x, hx, hc⟩ := hcell
      cases hx
      rw [Lib.add_plain] at hc
      have hc' : wr.cell? ⟨g, i, none⟩ = some (.int .u8 ((Lib.decDigits d)[i].toNat)) := by simpa [byteV] using hc
      have ht' := trim_take (Lib.decDigits d) i hil
      have hs' := trim_stop (Lib.decDigits d) i hil
      have HT2 := Lib.hid ht'
      have HS2 := Lib.hid hs'
      clear hc ht' hs' h0
      obtain ⟨c, hcc⟩ : ∃ c, (Lib.decDigits d)[i] = c := ⟨_, rfl⟩
      rw [hcc] at hc'
      have HC := Lib.hid hcc
      clear hcc
      by_cases h48 : c = 48
      · have f1 : ((c.toNat : Int) == 48) = true := by rw [h48]; rfl
        have H48 := Lib.hid h48
        clear h48
        go_wp2
        go_roundg i
        case measure => have := HKK.out; omega
        case rel => exact ⟨i, by go_num, by omega, HT2.out (by rw [HC.out, H48.out]) HTR.out, rfl, rfl⟩
      · have f1 : ((c.toNat : Int) == 48) = false := beq_eq_false_iff_ne.2 (by intro e; exact h48 (UInt8.toNat_inj.1 (by simp; omega)))
        have H48 := Lib.hid h48
        clear h48
        go_wp2
        go_ret2
        refine ⟨?_, HS.out, HK.out⟩
        rw [HS2.out (by rw [HC.out]; exact H48.out) HTR.out]
        rfl
end Go.Proofs.YtcfgbdhpcboikaaGreatDoor

namespace Go.Proofs.YtcfgbdhpcboikaaGreatDoor
open Go.RowKit

/-- Bytes gathered in a slice of the call's own; what is outside S is as it was in w0. -/
structure Out (w0 w : World) (B : Nat) (S : Nat → Prop) (ad : Option Addr) (c : Nat) (bs : List UInt8) : Prop where
  own : OwnB w B 5 ad c bs
  kept : Kept S w0 w
  lies : ∀ y, ad = some y → S y.block ∨ w0.heap.size ≤ y.block
  base : B ≤ w.heap.size

theorem Out.alloc {w0 w : World} {B : Nat} {S : Nat → Prop} {ad : Option Addr} {c : Nat} {bs : List UInt8} (h : Out w0 w B S ad c bs) (o : Obj) : Out w0 (w.alloc o) B S ad c bs :=
  ⟨h.own.kept ((Kept.refl (fun _ => False) w).alloc o) (fun _ _ h => h), h.kept.alloc o, h.lies, by have := h.base; simp; omega⟩
theorem Out.drewN {w0 w : World} {B : Nat} {S : Nat → Prop} {ad : Option Addr} {c : Nat} {bs : List UInt8} (h : Out w0 w B S ad c bs) (n : Nat) : Out w0 (w.drewN n) B S ad c bs :=
  ⟨h.own.kept ((Kept.refl (fun _ => False) w).drewN n) (fun _ _ h => h), h.kept.drewN n, h.lies, h.base⟩
theorem Out.next {w0 w w' : World} {B : Nat} {S : Nat → Prop} {ad ad' : Option Addr} {c c' : Nat} {bs bs' : List UInt8} (h : Out w0 w B S ad c bs)
    (ho : OwnB w' B 5 ad' c' bs') (hk : Kept (fun k => ad.map (·.block) = some k) w w') (ha : ∀ y, ad' = some y → ad.map (·.block) = some y.block ∨ w.heap.size ≤ y.block) : Out w0 w' B S ad' c' bs' := by
  have hs := h.kept.size
  refine ⟨ho, h.kept.trans' hk ?_, ?_, Nat.le_trans h.base hk.size⟩
  · intro i hi e
    cases ad with
    | none => cases e
    | some y =>
      have e' : y.block = i := by simpa using e
      rcases h.lies y rfl with h1 | h1
      · rwa [e'] at h1
      · omega
  · intro y hy
    rcases ha y hy with h1 | h1
    · cases ad with
      | none => cases h1
      | some z =>
        have e' : z.block = y.block := by simpa using h1
        rw [← e']
        exact h.lies z rfl
    · exact .inr (by omega)

section
variable {P : Program} {w : World} {ops : Array Oper} {rest : List Oper} {o : Oper} {a : Act} {Q : Exit → Act → World → Prop}
/-- 'append' of bytes that lie anywhere. -/
theorem wpList_appendOut (hgd : o.guard = none) (s x : Operand) (t : TypeId)
    (ho : o.op = .call { callee := .builtin .append, args := #[s, x], argTypes := #[t, t] })
    (i : TypeInfo) (ht : P.underlying t = some (.slice 5)) (hi : P.info? 5 = some i) (hz : i.zero = some (.int .u8 0)) (hsize : i.size = 1) (hby : i.bytes = 1)
    {w0 : World} {B : Nat} {S : Nat → Prop} (ad : Option Addr) (n c : Nat) (bs : List UInt8) (hs : a.eval s = .slice ad n c) (hn : bs.length = n) (hO : Out w0 w B S ad c bs)
    (sp : Option Addr) (m sc : Nat) (cs : List UInt8) (hx : a.eval x = .slice sp m sc) (hm : cs.length = m) (hsrc : IsB w sp cs) (hb : n + m ≤ 1000000)
    (h : ∀ ad' c' w', Hid (Out w0 w' B S ad' c' (bs ++ cs)) → wpList P ops Q rest (a.put o.dst (.slice ad' (n + m : Nat) c')) w') : wpList P ops Q (o :: rest) a w :=
  wpList_appendB hgd s x t ho B 5 i ht hi hz hsize hby ad n c bs hs hn hO.own sp m sc cs hx hm hsrc (by omega) hO.base
    (fun ad' c' w' h1 h2 h3 => h ad' c' w' (show Out _ _ _ _ _ _ _ from hO.next h1.out h2 h3))
/-- 'append' of bytes that are named in the call: they lie in a block of their own. -/
theorem wpList_appendNew (hgd : o.guard = none) (s x : Operand) (t : TypeId)
    (ho : o.op = .call { callee := .builtin .append, args := #[s, x], argTypes := #[t, t] })
    (i : TypeInfo) (ht : P.underlying t = some (.slice 5)) (hi : P.info? 5 = some i) (hz : i.zero = some (.int .u8 0)) (hsize : i.size = 1) (hby : i.bytes = 1)
    {w0 w1 : World} {B : Nat} {S : Nat → Prop} (ad : Option Addr) (n c : Nat) (bs : List UInt8) (hs : a.eval s = .slice ad n c) (hn : bs.length = n) (hO : Out w0 w1 B S ad c bs)
    (m sc : Nat) (cs : List UInt8) (vs : Array Value) (hw : w = w1.alloc (.cells vs 5)) (hvs : vs = (cs.map byteV).toArray) (hx : a.eval x = .slice (some ⟨w1.heap.size, 0, none⟩) m sc) (hm : cs.length = m) (hb : n + m ≤ 1000000)
    (h : ∀ ad' c' w', Hid (Out w0 w' B S ad' c' (bs ++ cs)) → wpList P ops Q rest (a.put o.dst (.slice ad' (n + m : Nat) c')) w') : wpList P ops Q (o :: rest) a w := by
  subst hw
  subst hvs
  exact wpList_appendOut hgd s x t ho i ht hi hz hsize hby ad n c bs hs hn (hO.alloc _) _ m sc cs hx hm (IsB.of_heap (arr := cs) (heap_alloc_new w1 _) 0) hb h
end

/-- The digits of an exponent. -/
def expText (x : Nat) : List UInt8 :=
  if x < 10 then [48, UInt8.ofNat (x + 48)] else if x < 100 then [UInt8.ofNat (x / 10 + 48), UInt8.ofNat (x % 10 + 48)]
  else [UInt8.ofNat (x / 100 + 48), UInt8.ofNat (x / 10 % 10 + 48), UInt8.ofNat (x % 10 + 48)]
/-- Digits in the form 'e'. -/
def eText (D : List UInt8) (x : Int) : List UInt8 :=
  D.take 1 ++ (if 1 < D.length then 46 :: D.drop 1 else []) ++ [101, if x < 0 then 45 else 43] ++ expText x.natAbs
end Go.Proofs.YtcfgbdhpcboikaaGreatDoor
