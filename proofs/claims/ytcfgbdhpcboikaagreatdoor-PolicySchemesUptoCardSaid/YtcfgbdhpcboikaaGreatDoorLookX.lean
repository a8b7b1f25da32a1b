/-
  utf8.look: what it answers at every byte.
  strings.Builder's Write: bytes of a slice that lies below the builder.
  A cut of a slice of bytes, as one equation with the address written out.
  utf8.Decode: bytes made whole.
-/
import Derived.Test.YtcfgbdhpcboikaaGreatDoorLookW
import Derived.Test.YtcfgbdhpcboikaaGreatDoorShelfB
import Derived.Lib.FrozenHead2
import Derived.Test.YtcfgbdhpcboikaaGreatDoorBase
import Derived.Test.YtcfgbdhpcboikaaGreatDoorShelf
namespace Go.Proofs.YtcfgbdhpcboikaaGreatDoor
open Go.RowKit PU8

set_option maxRecDepth 100000 in
theorem look_low (g off cap i c : Nat) (L : List UInt8) (w : World) (hi : i < L.length) (_hL : L.length ≤ 140737488355328) (hc : w.cell? ⟨g, off + i, none⟩ = some (.int .u8 (c : Nat))) (hcc : c < 128) :
    Calls Tryz.prog 129 #[.slice (some ⟨g, off, none⟩) L.length cap, .int .i64 i] w fun e w' => e = .returned (.tuple #[.int .i64 1, .bool true]) ∧ w = w' := by
  have l128 : decide ((c : Int) < 128) = true := by simp; omega
  have HCC := Lib.hid hcc
  clear hcc
  go_enter Tryz.func129, Tryz.ntmps129
  go_wp2
  go_ret2
  exact ⟨rfl, rfl⟩
set_option maxRecDepth 100000 in
theorem look_none (g off cap i c : Nat) (L : List UInt8) (w : World) (hi : i < L.length) (_hL : L.length ≤ 140737488355328) (hc : w.cell? ⟨g, off + i, none⟩ = some (.int .u8 (c : Nat))) (hcc : 128 ≤ c ∧ c < 194) :
    Calls Tryz.prog 129 #[.slice (some ⟨g, off, none⟩) L.length cap, .int .i64 i] w fun e w' => e = .returned (.tuple #[.int .i64 0, .bool false]) ∧ w = w' := by
  have l128 : decide ((c : Int) < 128) = false := by simp; omega
  have l194 : decide ((c : Int) < 194) = true := by simp; omega
  have HCC := Lib.hid hcc
  clear hcc
  go_enter Tryz.func129, Tryz.ntmps129
  go_wp2
  go_ret2
  exact ⟨rfl, rfl⟩
set_option maxRecDepth 100000 in
theorem look_high (g off cap i c : Nat) (L : List UInt8) (w : World) (hi : i < L.length) (_hL : L.length ≤ 140737488355328) (hc : w.cell? ⟨g, off + i, none⟩ = some (.int .u8 (c : Nat))) (hcc : 244 < c) :
    Calls Tryz.prog 129 #[.slice (some ⟨g, off, none⟩) L.length cap, .int .i64 i] w fun e w' => e = .returned (.tuple #[.int .i64 0, .bool false]) ∧ w = w' := by
  have l128 : decide ((c : Int) < 128) = false := by simp; omega
  have l194 : decide ((c : Int) < 194) = false := by simp; omega
  have l224 : decide ((c : Int) < 224) = false := by simp; omega
  have l240 : decide ((c : Int) < 240) = false := by simp; omega
  have l244 : decide ((c : Int) < 244) = false := by simp; omega
  have q224 : ((c : Int) == 224) = false := by simp; omega
  have q237 : ((c : Int) == 237) = false := by simp; omega
  have q240 : ((c : Int) == 240) = false := by simp; omega
  have q244 : ((c : Int) == 244) = false := by simp; omega
  have HCC := Lib.hid hcc
  clear hcc
  go_enter Tryz.func129, Tryz.ntmps129
  go_wp2
  go_ret2
  exact ⟨rfl, rfl⟩
theorem lookRel_start (L : List UInt8) (i need lo hi m : Nat) (t : Bool) (h : i < L.length) (hl : contU need lo hi 1 (natsU (L.drop (i + 1))) = (m, t)) : LookRel L i need m t 1 lo hi :=
  ⟨Nat.le_refl _, by omega, h, hl⟩
/-- utf8.look, of the bytes at a place. -/
theorem look_any (g off cap i m : Nat) (t : Bool) (L : List UInt8) (w : World) (hB : Hid (BytesAt w g off L)) (hi : i < L.length) (hL : L.length ≤ 140737488355328) (hr : Hid (lookU (natsU (L.drop i)) = (m, t))) :
    Calls Tryz.prog 129 #[.slice (some ⟨g, off, none⟩) L.length cap, .int .i64 i] w fun e w' => e = .returned (.tuple #[.int .i64 m, .bool t]) ∧ w = w' := by
  have hc := hB.out i hi
  have h := hr.out
  rw [natsU_drop _ _ hi, look_cons] at h
  have hc256 := L[i].toNat_lt
  generalize L[i].toNat = c at hc h hc256
  by_cases h1 : c < 128
  · rw [if_pos h1] at h
    cases h
    exact look_low g off cap i c L w hi hL hc h1
  rw [if_neg h1] at h
  by_cases h2 : c < 194
  · rw [if_pos h2] at h
    cases h
    exact look_none g off cap i c L w hi hL hc ⟨by omega, h2⟩
  rw [if_neg h2] at h
  by_cases h3 : c < 224
  · rw [if_pos h3] at h
    exact look_two g off cap i m c t L w hB hi hL hc ⟨by omega, h3⟩ (Lib.hid (lookRel_start L i _ _ _ m t hi h))
  rw [if_neg h3] at h
  by_cases h4 : c = 224
  · rw [if_pos h4] at h
    exact look_e0 g off cap i m c t L w hB hi hL hc h4 (Lib.hid (lookRel_start L i _ _ _ m t hi h))
  rw [if_neg h4] at h
  by_cases h5 : c = 237
  · rw [if_pos h5] at h
    exact look_ed g off cap i m c t L w hB hi hL hc h5 (Lib.hid (lookRel_start L i _ _ _ m t hi h))
  rw [if_neg h5] at h
  by_cases h6 : c < 240
  · rw [if_pos h6] at h
    exact look_three g off cap i m c t L w hB hi hL hc ⟨by omega, h6, h5⟩ (Lib.hid (lookRel_start L i _ _ _ m t hi h))
  rw [if_neg h6] at h
  by_cases h7 : c = 240
  · rw [if_pos h7] at h
    exact look_f0 g off cap i m c t L w hB hi hL hc h7 (Lib.hid (lookRel_start L i _ _ _ m t hi h))
  rw [if_neg h7] at h
  by_cases h8 : c < 244
  · rw [if_pos h8] at h
    exact look_four g off cap i m c t L w hB hi hL hc ⟨by omega, h8⟩ (Lib.hid (lookRel_start L i _ _ _ m t hi h))
  rw [if_neg h8] at h
  by_cases h9 : c = 244
  · rw [if_pos h9] at h
    exact look_f4 g off cap i m c t L w hB hi hL hc h9 (Lib.hid (lookRel_start L i _ _ _ m t hi h))
  rw [if_neg h9] at h
  cases h
  exact look_high g off cap i c L w hi hL hc (by omega)
end Go.Proofs.YtcfgbdhpcboikaaGreatDoor

namespace Go.Proofs.YtcfgbdhpcboikaaGreatDoor
open Go.RowKit

theorem Tryz.info5 : (Tryz.prog.info? 5).map (fun i => (i.zero, i.size, i.bytes)) = some (some (.int .u8 0), 1, 1) := by kernel_rfl
theorem BytesAt.below {w w' : World} {g off B : Nat} {L : List UInt8} (h : BytesAt w g off L) (hb : Below B w w') (hg : g < B) : BytesAt w' g off L := by
  intro j hj
  rw [hb.cell (p := ⟨g, off + j, none⟩) hg]
  exact h j hj
theorem BytesAt.news {w : World} {g off : Nat} {L : List UInt8} (h : BytesAt w g off L) : ∀ j u, (Lib.byteCells L)[j]? = some u → w.cell? ((⟨g, off, none⟩ : Addr).add j) = some u := by
  intro j u hu
  unfold Lib.byteCells at hu
  rw [List.getElem?_map] at hu
  rcases Nat.lt_or_ge j L.length with hj | hj
  · rw [List.getElem?_eq_getElem hj] at hu
    simp at hu
    have hadd : (⟨g, off, none⟩ : Addr).add j = ⟨g, off + j, none⟩ := by unfold Addr.add; split <;> simp_all
    rw [hadd, h j hj, hu]
  · rw [List.getElem?_eq_none hj] at hu
    simp at hu
theorem byteCells_one (L : List UInt8) : ∀ u ∈ Lib.byteCells L, u.oneCell' = true := by
  intro u hu
  unfold Lib.byteCells at hu
  obtain ⟨b, _, rfl⟩ := List.mem_map.1 hu
  rfl
theorem byteCells_len (L : List UInt8) : (Lib.byteCells L).length = L.length := by unfold Lib.byteCells; simp
set_option maxRecDepth 100000 in
set_option maxHeartbeats 1000000 in
theorem bwrite (B b : Nat) (bs : List Value) (g off cap n : Nat) (L : List UInt8) (hn : L.length = n) (w : World) (h : Lib.IsBuilderF 112 5 B b bs w) (hsrc : Hid (BytesAt w g off L)) (hgB : g < B) (hlen : bs.length + L.length ≤ 140737488355328) (hBw : B ≤ w.heap.size) :
    Calls Tryz.prog 130 #[.pointer (some ⟨b, 0, none⟩), .slice (some ⟨g, off, none⟩) n cap] w fun e w' => e = .returned (.tuple #[.int .i64 n, .nilIface]) ∧ (Lib.BuilderAtF 112 5 B b (.pointer (some ⟨b, 0, none⟩)) (bs ++ Lib.byteCells L) w' ∧ Below B w w' ∧ Lib.OthersKept 5 (some b) w w') := by
  subst hn
  obtain ⟨i0, hi, hz0, hz1, hz2⟩ := info_parts Tryz.info5
  go_enter Tryz.func130, Tryz.ntmps130
  go_wp2_with (go_at_call 156; refine (Tryz.Builder_copyCheck_k B b bs _ h).mono ?_)
  rintro e w1 ⟨rfl, h1, hb1, hk1⟩
  obtain ⟨hB, v, hbk, hown, hne⟩ := h1
  have hs1 : Hid (BytesAt w1 g off L) := hsrc.out.below hb1 hgB
  have c0 : w1.cell? ⟨b, 0, none⟩ = some (.pointer (some ⟨b, 0, none⟩)) := by rw [Lib.cell_of_heap hbk]; rfl
  have c1 : w1.cell? ⟨b, 1, none⟩ = some v := by rw [Lib.cell_of_heap hbk]; rfl
  go_wp2_with (at_builtin; refine wpList_append_ownF _ rfl _ _ 35 rfl B 5 i0 (.int .u8 0) 1 1 Tryz.underlying35 hi hz0 hz1 hz2 rfl (by decide) _ _ _ rfl hown ⟨g, off, none⟩ L.length cap (Lib.byteCells L) rfl ?c1 hs1.out.news (byteCells_one L) ?c3 ?c4 ?c5 ?_)
  case c1 => rw [byteCells_len, Nat.mul_one]
  case c3 => unfold maxLen; omega
  case c4 => omega
  case c5 => have := hb1.size; omega
  intro v' w2 hown' hgrow _
  have hlt : b < w1.heap.size := by
    rcases Nat.lt_or_ge b w1.heap.size with h' | h'
    · exact h'
    · simp [Array.getElem?_eq_none h'] at hbk
  have hb2 : w2.heap[b]? = some (.cells #[.pointer (some ⟨b, 0, none⟩), v] 112 (0, 0)) := by
    rw [hgrow.block b hlt (fun e => hne e.symm)]
    exact hbk
  have d0 : w2.cell? ⟨b, 0, none⟩ = some (.pointer (some ⟨b, 0, none⟩)) := by rw [Lib.cell_of_heap hb2]; rfl
  have d1 : w2.cell? ⟨b, 1, none⟩ = some v := by rw [Lib.cell_of_heap hb2]; rfl
  have f1 : w2.frozen? ⟨b, 1, none⟩ = false := Lib.frozen_of_heap hb2 1
  obtain ⟨ao, n', cap', rfl⟩ : ∃ ao n' cap, v' = .slice ao n' cap := by
    rcases hown'.2 with ⟨hv, _⟩ | ⟨g, cap, cur, fz, hv, _⟩
    · exact ⟨_, _, _, hv⟩
    · exact ⟨_, _, _, hv⟩
  go_wp2
  go_ret2
  refine ⟨rfl, ?_, ?_, (hk1.grown hgrow (Lib.ownsRowF_kind hown)).setCell ⟨b, 1, none⟩ rfl _⟩
  · exact Lib.BuilderAtF.put (T := 112) (e := 5) hB hb2 (bs' := bs ++ Lib.byteCells L) (by simpa [byteCells_len] using hown') (by decide)
  · exact (hb1.grown hgrow (by have := hb1.size; omega) (fun k hk => (hown.lt k hk).1)).setCell (p := ⟨b, 1, none⟩) hB _
end Go.Proofs.YtcfgbdhpcboikaaGreatDoor

namespace Go.Proofs.YtcfgbdhpcboikaaGreatDoor
open Go.RowKit
section
variable {P : Program} (T E : TypeId) (ht : P.underlying T = some (.slice E)) (hs : (P.info? E).map (·.size) = some 1) (w : World) (a : Option Addr) (n c l h : Nat)
include ht hs
theorem run_cut_h (h1 : h ≤ c) : (Instr.slice T (.slice a n c) none (some (.int .i64 h)) none).run P w = .ok (.slice a h c) w := by
  cases hq : P.info? E with
  | none => simp [hq] at hs
  | some i =>
    simp [Instr.slice, run_underlying ht, Instr.sliceBounds, run_sliceBound, sizeOf, typeInfo, hq, h1, Addr.add]
theorem run_cut_lh (h1 : l ≤ h) (h2 : h ≤ c) : (Instr.slice T (.slice a n c) (some (.int .i64 l)) (some (.int .i64 h)) none).run P w = .ok (.slice (if c = l then a else a.map (·.add l)) (h - l) (c - l)) w := by
  cases hq : P.info? E with
  | none => simp [hq] at hs
  | some i =>
    have hi : i.size = 1 := by simpa [hq] using hs
    simp [Instr.slice, run_underlying ht, Instr.sliceBounds, run_sliceBound, sizeOf, typeInfo, hq, hi, h1, h2]
end
/-- '[]byte{}'. -/
theorem OwnB.empty (w : World) (base : Nat) (E : TypeId) (h : base ≤ w.heap.size) : OwnB (w.alloc (.cells #[] E)) base E (some ⟨w.heap.size, 0, none⟩) 0 [] :=
  World.ownsRow_made w #[] 0 h (by unfold maxLen; omega) rfl
theorem IsB.same {w w' : World} {a : Option Addr} {bs : List UInt8} (h : IsB w a bs) (hh : w'.heap = w.heap) : IsB w' a bs := by
  intro j b hb
  obtain ⟨x, hx, hc⟩ := h j b hb
  exact ⟨x, hx, by unfold World.cell? at *; rw [hh]; exact hc⟩
end Go.Proofs.YtcfgbdhpcboikaaGreatDoor

namespace Go.Proofs.YtcfgbdhpcboikaaGreatDoor
open Go.RowKit PU8

/-- A cut of bytes, its address written out. -/
theorem slice_eq (g off cap k h : Nat) (n : Nat) (hk : k < cap) (h1 : k ≤ h) (h2 : h ≤ cap) (w : World) :
    (Instr.slice 35 (.slice (some ⟨g, off, none⟩) n cap) (some (.int .i64 k)) (some (.int .i64 h)) none).run Tryz.prog w = .ok (.slice (some ⟨g, off + k, none⟩) (h - k) (cap - k)) w := by
  rw [run_cut_lh 35 5 Tryz.underlying35 (by kernel_rfl) w (some ⟨g, off, none⟩) n cap k h h1 h2, if_neg (by omega)]
  have hadd : (⟨g, off, none⟩ : Addr).add k = ⟨g, off + k, none⟩ := by unfold Addr.add; split <;> simp_all
  simp [hadd]
theorem BytesAt.cut {w : World} {g off : Nat} {L : List UInt8} (h : BytesAt w g off L) (k m : Nat) : BytesAt w g (off + k) ((L.drop k).take m) := by
  intro j hj
  rw [List.length_take, List.length_drop] at hj
  rw [Nat.add_assoc, h (k + j) (by omega)]
  simp
theorem rune_fffd : Lib.runeCells 65533 = Lib.byteCells [239, 191, 189] := by
  rw [← Lib.byteCells_encodeRune]
  have : Lib.encodeRune 65533 = [239, 191, 189] := by decide
  rw [this]
theorem byteCells_append (a b : List UInt8) : Lib.byteCells a ++ Lib.byteCells b = Lib.byteCells (a ++ b) := by simp [Lib.byteCells]
theorem look_le (l : List UInt8) (h : l ≠ []) : (lookU (natsU l)).1 ≤ l.length := by
  have hc : ∀ need lo hi n (r : List Nat), (contU need lo hi n r).1 ≤ n + r.length := by
    intro need
    induction need with
    | zero => intro lo hi n r; simp [contU]
    | succ k ih =>
      intro lo hi n r
      cases r with
      | nil => simp [contU]
      | cons c r =>
        unfold contU
        split
        · simp
        · have := ih 0x80 0xbf (n + 1) r
          simp only [List.length_cons]
          omega
  have hl : (natsU l).length = l.length := by unfold natsU; simp
  rw [← hl]
  cases hb : natsU l with
  | nil => exact absurd hb (nats_ne h)
  | cons c r =>
    rw [look_cons]
    simp only [List.length_cons]
    repeat' split
    all_goals first
      | (have := hc 1 0x80 0xbf 1 r; omega)
      | (have := hc 2 0xa0 0xbf 1 r; omega)
      | (have := hc 2 0x80 0x9f 1 r; omega)
      | (have := hc 2 0x80 0xbf 1 r; omega)
      | (have := hc 3 0x90 0xbf 1 r; omega)
      | (have := hc 3 0x80 0xbf 1 r; omega)
      | (have := hc 3 0x80 0x8f 1 r; omega)
      | (simp only; omega)
structure DcdAt (L : List UInt8) (B k : Nat) (w wx : World) (o : List UInt8) : Prop where
  le : k ≤ L.length
  bld : Lib.IsBuilderF 112 5 B B (Lib.byteCells o) wx
  bel : Below B w wx
  out : o ++ decU (L.drop k) = decU L
theorem DcdAt.len {L : List UInt8} {B k : Nat} {w wx : World} {o : List UInt8} (h : DcdAt L B k w wx o) : o.length ≤ 3 * L.length := by
  have := congrArg List.length h.out
  rw [List.length_append] at this
  have h2 := dec_len L.length L (Nat.le_refl _)
  omega
set_option maxRecDepth 100000 in
set_option maxHeartbeats 2000000 in
theorem decode_any (g off cap : Nat) (L : List UInt8) (hL : L.length ≤ 1000000000) (hcap : L.length ≤ cap) (w : World) (hB : Hid (BytesAt w g off L)) (hg : g < w.heap.size) :
    Calls Tryz.prog 77 #[.slice (some ⟨g, off, none⟩) L.length cap] w fun e w' => e = .returned (.string ⟨(decU L).toArray⟩) ∧ Below w.heap.size w w' := by
  go_enter Tryz.func77, Tryz.ntmps77
  go_wp2
  go_loopw [4] (fun i wx => ∃ k : Nat, i = .int .i64 k ∧ ∃ o, Hid (DcdAt L w.heap.size k w wx o)) (fun i _ => L.length - (intOf i).toNat)
  case atStart =>
    refine ⟨0, rfl, [], ⟨Nat.zero_le _, ?_, (Below.refl _ w).alloc (Nat.le_refl _) _, rfl⟩⟩
    exact .inl ⟨Nat.le_refl _, .slice none 0 0, heap_alloc_new w _, World.ownsRowF_nil _ _ _ _, by simp [Value.ownBlock]⟩
  case round =>
    obtain ⟨k, rfl, o, hD⟩ := hrel
    have hk := hD.out.le
    rcases Nat.lt_or_ge k L.length with hlt | hge
    · have hBr : Hid (BytesAt wr g off L) := hB.out.below hD.out.bel hg
      have hne : L.drop k ≠ [] := by
        intro e
        have := congrArg List.length e
        rw [List.length_drop] at this
        simp at this
        omega
      have hst := dec_step (L.drop k) hne
      have hpw := piece_whole (L.drop k) hne
      cases hlk : lookU (natsU (L.drop k)) with
      | mk m t =>
      rw [hlk] at hst hpw
      simp only at hst hpw
      have HLK : Hid (lookU (natsU (L.drop k)) = (m, t)) := hlk
      have hol := hD.out.len
      cases t with
      | true =>
        obtain ⟨_, hm1, hm2⟩ := hpw rfl
        rw [List.length_drop] at hm2
        have hmax : max m 1 = m := by omega
        rw [if_pos rfl, hmax] at hst
        have HST := Lib.hid hst
        have hsl := slice_eq g off cap k (k + m) L.length (by omega) (by omega) (by omega)
        have hkm : k + m - k = m := by omega
        rw [hkm] at hsl
        rw [Int.natCast_add] at hsl
        clear hst hpw hlk hmax hne hkm
        go_wp2_with fail
        refine (look_any g off cap k m true L _ hBr hlt (by omega) HLK).mono ?_
        rintro e w' ⟨rfl, rfl⟩
        go_wp2_with fail
        refine (bwrite w.heap.size w.heap.size (Lib.byteCells o) g (off + k) (cap - k) m ((L.drop k).take m) (by rw [List.length_take, List.length_drop]; omega) _ hD.out.bld (Lib.hid (hBr.out.cut k m)) hg (by rw [byteCells_len, List.length_take, List.length_drop]; omega) hD.out.bel.size).mono ?_
        rintro e w2 ⟨rfl, b1, b2, b3⟩
        have HN : Hid (DcdAt L w.heap.size (k + m) w w2 (o ++ (L.drop k).take m)) := by
          refine ⟨by omega, .inr (by rw [← byteCells_append]; exact b1), hD.out.bel.trans b2, ?_⟩
          have := hD.out.out
          rw [HST.out, List.drop_drop] at this
          rw [List.append_assoc]
          exact this
        clear b1 b2 b3
        go_wp2
        refine ⟨⟨k + m, by congr 1; omega, _, HN⟩, ?_⟩
        simp [intOf]; omega
      | false =>
        rw [if_neg (by simp), List.drop_drop] at hst
        have HST := Lib.hid hst
        clear hst hpw hlk hne
        go_wp2_with fail
        refine (look_any g off cap k m false L _ hBr hlt (by omega) HLK).mono ?_
        rintro e w' ⟨rfl, rfl⟩
        go_wp2_with fail
        refine (Tryz.Builder_WriteRune_k w.heap.size w.heap.size (Lib.byteCells o) 65533 (by omega) (by omega) _ hD.out.bld (by rw [byteCells_len]; omega) hD.out.bel.size).mono ?_
        rintro e w2 ⟨rfl, b1, b2, b3⟩
        have HN : Hid (k + max m 1 ≤ L.length → DcdAt L w.heap.size (k + max m 1) w w2 (o ++ [239, 191, 189])) := by
          intro hle
          refine ⟨hle, .inr (by rw [← byteCells_append, ← rune_fffd]; exact b1), hD.out.bel.trans b2, ?_⟩
          have := hD.out.out
          rw [HST.out] at this
          rw [List.append_assoc]
          exact this
        have hle : m ≤ L.length - k := by
          have := look_le (L.drop k) (by intro e; have := congrArg List.length e; rw [List.length_drop] at this; simp at this; omega)
          rw [HLK.out, List.length_drop] at this
          exact this
        clear b1 b2 b3
        go_wp2
        refine ⟨⟨k + max m 1, by congr 1; omega, _, HN.out (by omega)⟩, ?_⟩
        simp [intOf]; omega
    · have hE : o = decU L := by
        have := hD.out.out
        rw [List.drop_eq_nil_of_le (by omega), dec_nil, List.append_nil] at this
        exact this
      have HE := Lib.hid hE
      clear hE
      go_wp2_with fail
      refine (Tryz.Builder_String_any_k w.heap.size w.heap.size o _ hD.out.bld hD.out.bel.size).mono ?_
      rintro e w2 ⟨rfl, b1, b2, b3⟩
      clear b1 b3
      go_wp2
      go_ret
      refine ⟨?_, hD.out.bel.trans b2⟩
      rw [HE.out]
      rfl
end Go.Proofs.YtcfgbdhpcboikaaGreatDoor
