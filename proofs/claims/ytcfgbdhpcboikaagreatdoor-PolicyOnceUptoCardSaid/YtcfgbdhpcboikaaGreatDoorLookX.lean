/-
  utf8.look: what it answers at every byte.
  strings.Builder's Write: bytes of a slice that lies below the builder.
  utf8.Decode: bytes made whole.
  The document's utf8: begins.
  The document's utf8: begins, walked.
  The document's utf8: Piece.
  The document's Fault at a plain text.
-/
import Derived.Test.YtcfgbdhpcboikaaGreatDoorLookW
import Derived.Test.YtcfgbdhpcboikaaGreatDoorShelfB
import Derived.Lib.FrozenHead2
import Derived.Test.YtcfgbdhpcboikaaGreatDoorShelf
import Derived.Test.YtcfgbdhpcboikaaGreatDoorCut
namespace Go.Proofs.YtcfgbdhpcboikaaGreatDoor
open Go.RowKit PU8

set_option maxRecDepth 100000 in
theorem look_low (g off cap i c : Nat) (L : List UInt8) (w : World) (hi : i < L.length) (_hL : L.length ≤ 140737488355328) (hc : w.cell? ⟨g, off + i, none⟩ = some (.int .u8 (c : Nat))) (hcc : c < 128) :
    Calls Tryz.prog 129 #[.slice (some ⟨g, off, none⟩) L.length cap, .int .i64 i] w fun e w' => e = .returned (.tuple #[.int .i64 1, .bool true]) ∧ w = w' := by
  have l128 : decide ((c : Int) < 128) = true := by simp; omega
  have HCC := Lib.hid hcc
  clear hcc
  go_enter Tryz.func129, Tryz.ntmps129
  go_wp2
  go_ret2
  exact ⟨rfl, rfl⟩
set_option maxRecDepth 100000 in
theorem look_none (g off cap i c : Nat) (L : List UInt8) (w : World) (hi : i < L.length) (_hL : L.length ≤ 140737488355328) (hc : w.cell? ⟨g, off + i, none⟩ = some (.int .u8 (c : Nat))) (hcc : 128 ≤ c ∧ c < 194) :
    Calls Tryz.prog 129 #[.slice (some ⟨g, off, none⟩) L.length cap, .int .i64 i] w fun e w' => e = .returned (.tuple #[.int .i64 0, .bool false]) ∧ w = w' := by
  have l128 : decide ((c : Int) < 128) = false := by simp; omega
  have l194 : decide ((c : Int) < 194) = true := by simp; omega
  have HCC := Lib.hid hcc
  clear hcc
  go_enter Tryz.func129, Tryz.ntmps129
  go_wp2
  go_ret2
  exact ⟨rfl, rfl⟩
set_option maxRecDepth 100000 in
theorem look_high (g off cap i c : Nat) (L : List UInt8) (w : World) (hi : i < L.length) (_hL : L.length ≤ 140737488355328) (hc : w.cell? ⟨g, off + i, none⟩ = some (.int .u8 (c : Nat))) (hcc : 244 < c) :
    Calls Tryz.prog 129 #[.slice (some ⟨g, off, none⟩) L.length cap, .int .i64 i] w fun e w' => e = .returned (.tuple #[.int .i64 0, .bool false]) ∧ w = w' := by
  have l128 : decide ((c : Int) < 128) = false := by simp; omega
  have l194 : decide ((c : Int) < 194) = false := by simp; omega
  have l224 : decide ((c : Int) < 224) = false := by simp; omega
  have l240 : decide ((c : Int) < 240) = false := by simp; omega
  have l244 : decide ((c : Int) < 244) = false := by simp; omega
  have q224 : ((c : Int) == 224) = false := by simp; omega
  have q237 : ((c : Int) == 237) = false := by simp; omega
  have q240 : ((c : Int) == 240) = false := by simp; omega
  have q244 : ((c : Int) == 244) = false := by simp; omega
  have HCC := Lib.hid hcc
  clear hcc
  go_enter Tryz.func129, Tryz.ntmps129
  go_wp2
  go_ret2
  exact ⟨rfl, rfl⟩
theorem lookRel_start (L : List UInt8) (i need lo hi m : Nat) (t : Bool) (h : i < L.length) (hl : contU need lo hi 1 (natsU (L.drop (i + 1))) = (m, t)) : LookRel L i need m t 1 lo hi :=
  ⟨Nat.le_refl _, by omega, h, hl⟩
theorem look_any (g off cap i m : Nat) (t : Bool) (L : List UInt8) (w : World) (hB : Hid (BytesAt w g off L)) (hi : i < L.length) (hL : L.length ≤ 140737488355328) (hr : Hid (lookU (natsU (L.drop i)) = (m, t))) :
    Calls Tryz.prog 129 #[.slice (some ⟨g, off, none⟩) L.length cap, .int .i64 i] w fun e w' => e = .returned (.tuple #[.int .i64 m, .bool t]) ∧ w = w' := by
  have hc := hB.out i hi
  have h := hr.out
  rw [natsU_drop _ _ hi, look_cons] at h
  have hc256 := L[i].toNat_lt
  generalize L[i].toNat = c at hc h hc256
  by_cases h1 : c < 128
  · rw [if_pos h1] at h
    cases h
    exact look_low g off cap i c L w hi hL hc h1
  rw [if_neg h1] at h
  by_cases h2 : c < 194
  · rw [if_pos h2] at h
    cases h
    exact look_none g off cap i c L w hi hL hc ⟨by omega, h2⟩
  rw [if_neg h2] at h
  by_cases h3 : c < 224
  · rw [if_pos h3] at h
    exact look_two g off cap i m c t L w hB hi hL hc ⟨by omega, h3⟩ (Lib.hid (lookRel_start L i _ _ _ m t hi h))
  rw [if_neg h3] at h
  by_cases h4 : c = 224
  · rw [if_pos h4] at h
    exact look_e0 g off cap i m c t L w hB hi hL hc h4 (Lib.hid (lookRel_start L i _ _ _ m t hi h))
  rw [if_neg h4] at h
  by_cases h5 : c = 237
  · rw [if_pos h5] at h
    exact look_ed g off cap i m c t L w hB hi hL hc h5 (Lib.hid (lookRel_start L i _ _ _ m t hi h))
  rw [if_neg h5] at h
  by_cases h6 : c < 240
  · rw [if_pos h6] at h
    exact look_three g off cap i m c t L w hB hi hL hc ⟨by omega, h6, h5⟩ (Lib.hid (lookRel_start L i _ _ _ m t hi h))
  rw [if_neg h6] at h
  by_cases h7 : c = 240
  · rw [if_pos h7] at h
    exact look_f0 g off cap i m c t L w hB hi hL hc h7 (Lib.hid (lookRel_start L i _ _ _ m t hi h))
  rw [if_neg h7] at h
  by_cases h8 : c < 244
  · rw [if_pos h8] at h
    exact look_four g off cap i m c t L w hB hi hL hc ⟨by omega, h8⟩ (Lib.hid (lookRel_start L i _ _ _ m t hi h))
  rw [if_neg h8] at h
  by_cases h9 : c = 244
  · rw [if_pos h9] at h
    exact look_f4 g off cap i m c t L w hB hi hL hc h9 (Lib.hid (lookRel_start L i _ _ _ m t hi h))
  rw [if_neg h9] at h
  cases h
  exact look_high g off cap i c L w hi hL hc (by omega)
end Go.Proofs.YtcfgbdhpcboikaaGreatDoor

namespace Go.Proofs.YtcfgbdhpcboikaaGreatDoor
open Go.RowKit

theorem Tryz.info5 : (Tryz.prog.info? 5).map (fun i => (i.zero, i.size, i.bytes)) = some (some (.int .u8 0), 1, 1) := by kernel_rfl
theorem BytesAt.below {w w' : World} {g off B : Nat} {L : List UInt8} (h : BytesAt w g off L) (hb : Below B w w') (hg : g < B) : BytesAt w' g off L := by
  intro j hj
  rw [hb.cell (p := ⟨g, off + j, none⟩) hg]
  exact h j hj
theorem BytesAt.news {w : World} {g off : Nat} {L : List UInt8} (h : BytesAt w g off L) : ∀ j u, (Lib.byteCells L)[j]? = some u → w.cell? ((⟨g, off, none⟩ : Addr).add j) = some u := by
  intro j u hu
  unfold Lib.byteCells at hu
  rw [List.getElem?_map] at hu
  rcases Nat.lt_or_ge j L.length with hj | hj
  · rw [List.getElem?_eq_getElem hj] at hu
    simp at hu
    have hadd : (⟨g, off, none⟩ : Addr).add j = ⟨g, off + j, none⟩ := by unfold Addr.add; split <;> simp_all
    rw [hadd, h j hj, hu]
  · rw [List.getElem?_eq_none hj] at hu
    simp at hu
theorem byteCells_one (L : List UInt8) : ∀ u ∈ Lib.byteCells L, u.oneCell' = true := by
  intro u hu
  unfold Lib.byteCells at hu
  obtain ⟨b, _, rfl⟩ := List.mem_map.1 hu
  rfl
theorem byteCells_len (L : List UInt8) : (Lib.byteCells L).length = L.length := by unfold Lib.byteCells; simp
set_option maxRecDepth 100000 in
set_option maxHeartbeats 1000000 in
theorem bwrite (B b : Nat) (bs : List Value) (g off cap n : Nat) (L : List UInt8) (hn : L.length = n) (w : World) (h : Lib.IsBuilderF 112 5 B b bs w) (hsrc : Hid (BytesAt w g off L)) (hgB : g < B) (hlen : bs.length + L.length ≤ 140737488355328) (hBw : B ≤ w.heap.size) :
    Calls Tryz.prog 130 #[.pointer (some ⟨b, 0, none⟩), .slice (some ⟨g, off, none⟩) n cap] w fun e w' => e = .returned (.tuple #[.int .i64 n, .nilIface]) ∧ (Lib.BuilderAtF 112 5 B b (.pointer (some ⟨b, 0, none⟩)) (bs ++ Lib.byteCells L) w' ∧ Below B w w' ∧ Lib.OthersKept 5 (some b) w w') := by
  subst hn
  obtain ⟨i0, hi, hz0, hz1, hz2⟩ := info_parts Tryz.info5
  go_enter Tryz.func130, Tryz.ntmps130
  go_wp2_with (go_at_call 156; refine (Tryz.Builder_copyCheck_k B b bs _ h).mono ?_)
  rintro e w1 ⟨rfl, h1, hb1, hk1⟩
  obtain ⟨hB, v, hbk, hown, hne⟩ := h1
  have hs1 : Hid (BytesAt w1 g off L) := hsrc.out.below hb1 hgB
  have c0 : w1.cell? ⟨b, 0, none⟩ = some (.pointer (some ⟨b, 0, none⟩)) := by rw [Lib.cell_of_heap hbk]; rfl
  have c1 : w1.cell? ⟨b, 1, none⟩ = some v := by rw [Lib.cell_of_heap hbk]; rfl
  go_wp2_with (at_builtin; refine wpList_append_ownF _ rfl _ _ 35 rfl B 5 i0 (.int .u8 0) 1 1 Tryz.underlying35 hi hz0 hz1 hz2 rfl (by decide) _ _ _ rfl hown ⟨g, off, none⟩ L.length cap (Lib.byteCells L) rfl ?c1 hs1.out.news (byteCells_one L) ?c3 ?c4 ?c5 ?_)
  case c1 => rw [byteCells_len, Nat.mul_one]
  case c3 => unfold maxLen; omega
  case c4 => omega
  case c5 => have := hb1.size; omega
  intro v' w2 hown' hgrow _
  have hlt : b < w1.heap.size := by
    rcases Nat.lt_or_ge b w1.heap.size with h' | h'
    · exact h'
    · simp [Array.getElem?_eq_none h'] at hbk
  have hb2 : w2.heap[b]? = some (.cells #[.pointer (some ⟨b, 0, none⟩), v] 112 (0, 0)) := by
    rw [hgrow.block b hlt (fun e => hne e.symm)]
    exact hbk
  have d0 : w2.cell? ⟨b, 0, none⟩ = some (.pointer (some ⟨b, 0, none⟩)) := by rw [Lib.cell_of_heap hb2]; rfl
  have d1 : w2.cell? ⟨b, 1, none⟩ = some v := by rw [Lib.cell_of_heap hb2]; rfl
  have f1 : w2.frozen? ⟨b, 1, none⟩ = false := Lib.frozen_of_heap hb2 1
  obtain ⟨ao, n', cap', rfl⟩ : ∃ ao n' cap, v' = .slice ao n' cap := by
    rcases hown'.2 with ⟨hv, _⟩ | ⟨g, cap, cur, fz, hv, _⟩
    · exact ⟨_, _, _, hv⟩
    · exact ⟨_, _, _, hv⟩
  go_wp2
  go_ret2
  refine ⟨rfl, ?_, ?_, (hk1.grown hgrow (Lib.ownsRowF_kind hown)).setCell ⟨b, 1, none⟩ rfl _⟩
  · exact Lib.BuilderAtF.put (T := 112) (e := 5) hB hb2 (bs' := bs ++ Lib.byteCells L) (by simpa [byteCells_len] using hown') (by decide)
  · exact (hb1.grown hgrow (by have := hb1.size; omega) (fun k hk => (hown.lt k hk).1)).setCell (p := ⟨b, 1, none⟩) hB _
end Go.Proofs.YtcfgbdhpcboikaaGreatDoor

namespace Go.Proofs.YtcfgbdhpcboikaaGreatDoor
open Go.RowKit PU8

theorem slice_eq (g off cap k h : Nat) (n : Nat) (hk : k < cap) (h1 : k ≤ h) (h2 : h ≤ cap) (w : World) :
    (Instr.slice 35 (.slice (some ⟨g, off, none⟩) n cap) (some (.int .i64 k)) (some (.int .i64 h)) none).run Tryz.prog w = .ok (.slice (some ⟨g, off + k, none⟩) (h - k) (cap - k)) w := by
  rw [run_cut_lh 35 5 Tryz.underlying35 (by kernel_rfl) w (some ⟨g, off, none⟩) n cap k h h1 h2, if_neg (by omega)]
  have hadd : (⟨g, off, none⟩ : Addr).add k = ⟨g, off + k, none⟩ := by unfold Addr.add; split <;> simp_all
  simp [hadd]
theorem BytesAt.cut {w : World} {g off : Nat} {L : List UInt8} (h : BytesAt w g off L) (k m : Nat) : BytesAt w g (off + k) ((L.drop k).take m) := by
  intro j hj
  rw [List.length_take, List.length_drop] at hj
  rw [Nat.add_assoc, h (k + j) (by omega)]
  simp
theorem rune_fffd : Lib.runeCells 65533 = Lib.byteCells [239, 191, 189] := by
  rw [← Lib.byteCells_encodeRune]
  have : Lib.encodeRune 65533 = [239, 191, 189] := by decide
  rw [this]
theorem byteCells_append (a b : List UInt8) : Lib.byteCells a ++ Lib.byteCells b = Lib.byteCells (a ++ b) := by simp [Lib.byteCells]
theorem look_le (l : List UInt8) (h : l ≠ []) : (lookU (natsU l)).1 ≤ l.length := by
  have hc : ∀ need lo hi n (r : List Nat), (contU need lo hi n r).1 ≤ n + r.length := by
    intro need
    induction need with
    | zero => intro lo hi n r; simp [contU]
    | succ k ih =>
      intro lo hi n r
      cases r with
      | nil => simp [contU]
      | cons c r =>
        unfold contU
        split
        · simp
        · have := ih 0x80 0xbf (n + 1) r
          simp only [List.length_cons]
          omega
  have hl : (natsU l).length = l.length := by unfold natsU; simp
  rw [← hl]
  cases hb : natsU l with
  | nil => exact absurd hb (nats_ne h)
  | cons c r =>
    rw [look_cons]
    simp only [List.length_cons]
    repeat' split
    all_goals first
      | (have := hc 1 0x80 0xbf 1 r; omega)
      | (have := hc 2 0xa0 0xbf 1 r; omega)
      | (have := hc 2 0x80 0x9f 1 r; omega)
      | (have := hc 2 0x80 0xbf 1 r; omega)
      | (have := hc 3 0x90 0xbf 1 r; omega)
      | (have := hc 3 0x80 0xbf 1 r; omega)
      | (have := hc 3 0x80 0x8f 1 r; omega)
      | (simp only; omega)
structure DcdAt (L : List UInt8) (B k : Nat) (w wx : World) (o : List UInt8) : Prop where
  le : k ≤ L.length
  bld : Lib.IsBuilderF 112 5 B B (Lib.byteCells o) wx
  bel : Below B w wx
  out : o ++ decU (L.drop k) = decU L
theorem DcdAt.len {L : List UInt8} {B k : Nat} {w wx : World} {o : List UInt8} (h : DcdAt L B k w wx o) : o.length ≤ 3 * L.length := by
  have := congrArg List.length h.out
  rw [List.length_append] at this
  have h2 := dec_len L.length L (Nat.le_refl _)
  omega
set_option maxRecDepth 100000 in
set_option maxHeartbeats 2000000 in
theorem decode_any (g off cap : Nat) (L : List UInt8) (hL : L.length ≤ 1000000000) (hcap : L.length ≤ cap) (w : World) (hB : Hid (BytesAt w g off L)) (hg : g < w.heap.size) :
    Calls Tryz.prog 77 #[.slice (some ⟨g, off, none⟩) L.length cap] w fun e w' => e = .returned (.string ⟨(decU L).toArray⟩) ∧ Below w.heap.size w w' := by
  go_enter Tryz.func77, Tryz.ntmps77
  go_wp2
  go_loopw [4] (fun i wx => ∃ k : Nat, i = .int .i64 k ∧ ∃ o, Hid (DcdAt L w.heap.size k w wx o)) (fun i _ => L.length - (intOf i).toNat)
  case atStart =>
    refine ⟨0, rfl, [], ⟨Nat.zero_le _, ?_, (Below.refl _ w).alloc (Nat.le_refl _) _, rfl⟩⟩
    exact .inl ⟨Nat.le_refl _, .slice none 0 0, heap_alloc_new w _, World.ownsRowF_nil _ _ _ _, by simp [Value.ownBlock]⟩
  case round =>
    obtain ⟨k, rfl, o, hD⟩ := hrel
    have hk := hD.out.le
    rcases Nat.lt_or_ge k L.length with hlt | hge
    · have hBr : Hid (BytesAt wr g off L) := hB.out.below hD.out.bel hg
      have hne : L.drop k ≠ [] := by
        intro e
        have := congrArg List.length e
        rw [List.length_drop] at this
        simp at this
        omega
      have hst := dec_step (L.drop k) hne
      have hpw := piece_whole (L.drop k) hne
      cases hlk : lookU (natsU (L.drop k)) with
      | mk m t =>
      rw [hlk] at hst hpw
      simp only at hst hpw
      have HLK : Hid (lookU (natsU (L.drop k)) = (m, t)) := hlk
      have hol := hD.out.len
      cases t with
      | true =>
        obtain ⟨_, hm1, hm2⟩ := hpw rfl
        rw [List.length_drop] at hm2
        have hmax : max m 1 = m := by omega
        rw [if_pos rfl, hmax] at hst
        have HST := Lib.hid hst
        have hsl := slice_eq g off cap k (k + m) L.length (by omega) (by omega) (by omega)
        have hkm : k + m - k = m := by omega
        rw [hkm] at hsl
        rw [Int.natCast_add] at hsl
        clear hst hpw hlk hmax hne hkm
        go_wp2_with fail
        refine (look_any g off cap k m true L _ hBr hlt (by omega) HLK).mono ?_
        rintro e w' ⟨rfl, rfl⟩
        go_wp2_with fail
        refine (bwrite w.heap.size w.heap.size (Lib.byteCells o) g (off + k) (cap - k) m ((L.drop k).take m) (by rw [List.length_take, List.length_drop]; omega) _ hD.out.bld (Lib.hid (hBr.out.cut k m)) hg (by rw [byteCells_len, List.length_take, List.length_drop]; omega) hD.out.bel.size).mono ?_
        rintro e w2 ⟨rfl, b1, b2, b3⟩
        have HN : Hid (DcdAt L w.heap.size (k + m) w w2 (o ++ (L.drop k).take m)) := by
          refine ⟨by omega, .inr (by rw [← byteCells_append]; exact b1), hD.out.bel.trans b2, ?_⟩
          have := hD.out.out
          rw [HST.out, List.drop_drop] at this
          rw [List.append_assoc]
          exact this
        clear b1 b2 b3
        go_wp2
        refine ⟨⟨k + m, by congr 1; omega, _, HN⟩, ?_⟩
        simp [intOf]; omega
      | false =>
        rw [if_neg (by simp), List.drop_drop] at hst
        have HST := Lib.hid hst
        clear hst hpw hlk hne
        go_wp2_with fail
        refine (look_any g off cap k m false L _ hBr hlt (by omega) HLK).mono ?_
        rintro e w' ⟨rfl, rfl⟩
        go_wp2_with fail
        refine (Tryz.Builder_WriteRune_k w.heap.size w.heap.size (Lib.byteCells o) 65533 (by omega) (by omega) _ hD.out.bld (by rw [byteCells_len]; omega) hD.out.bel.size).mono ?_
        rintro e w2 ⟨rfl, b1, b2, b3⟩
        have HN : Hid (k + max m 1 ≤ L.length → DcdAt L w.heap.size (k + max m 1) w w2 (o ++ [239, 191, 189])) := by
          intro hle
          refine ⟨hle, .inr (by rw [← byteCells_append, ← rune_fffd]; exact b1), hD.out.bel.trans b2, ?_⟩
          have := hD.out.out
          rw [HST.out] at this
          rw [List.append_assoc]
          exact this
        have hle : m ≤ L.length - k := by
          have := look_le (L.drop k) (by intro e; have := congrArg List.length e; rw [List.length_drop] at this; simp at this; omega)
          rw [HLK.out, List.length_drop] at this
          exact this
        clear b1 b2 b3
        go_wp2
        refine ⟨⟨k + max m 1, by congr 1; omega, _, HN.out (by omega)⟩, ?_⟩
        simp [intOf]; omega
    · have hE : o = decU L := by
        have := hD.out.out
        rw [List.drop_eq_nil_of_le (by omega), dec_nil, List.append_nil] at this
        exact this
      have HE := Lib.hid hE
      clear hE
      go_wp2_with fail
      refine (Tryz.Builder_String_any_k w.heap.size w.heap.size o _ hD.out.bld hD.out.bel.size).mono ?_
      rintro e w2 ⟨rfl, b1, b2, b3⟩
      clear b1 b3
      go_wp2
      go_ret
      refine ⟨?_, hD.out.bel.trans b2⟩
      rw [HE.out]
      rfl
end Go.Proofs.YtcfgbdhpcboikaaGreatDoor

namespace Go.Proofs.YtcfgbdhpcboikaaGreatDoor
open Go.RowKit PU8

structure FolAt (L : List UInt8) (i k v0 j v : Nat) : Prop where
  lo : 1 ≤ j
  hi : j ≤ k
  bd : v < 256 * 64 ^ (j - 1)
  out : PU8.follow (k - 1) v0 (natsU (L.drop (i + 1))) = PU8.follow (k - j) v (natsU (L.drop (i + j)))
theorem pow_at (j : Nat) (h1 : 1 ≤ j) (h : j ≤ 4) : 256 * 64 ^ (j - 1) ≤ 67108864 := by
  have : j = 1 ∨ j = 2 ∨ j = 3 ∨ j = 4 := by omega
  rcases this with rfl | rfl | rfl | rfl <;> decide
theorem FolAt.le {L : List UInt8} {i k v0 j v : Nat} (h : FolAt L i k v0 j v) (hk : k ≤ 4) : v < 67108864 := by
  have h1 := h.bd
  have h2 := pow_at j h.lo (by have := h.hi; omega)
  omega
theorem FolAt.start (L : List UInt8) (i k v0 : Nat) (hk : 1 ≤ k) (hv : v0 < 256) : FolAt L i k v0 1 v0 := ⟨Nat.le_refl _, hk, by simpa using hv, rfl⟩
theorem nats_at (L : List UInt8) (i : Nat) (h : i < L.length) : natsU (L.drop i) = L[i].toNat :: natsU (L.drop (i + 1)) := by
  rw [List.drop_eq_getElem_cons h]
  rfl
theorem FolAt.next {L : List UInt8} {i k v0 j v : Nat} (h : FolAt L i k v0 j v) (hj : j < k) (hl : i + j < L.length) (c : Nat) (hc : L[i + j].toNat = c) (h1 : 128 ≤ c) (h2 : c ≤ 191) : FolAt L i k v0 (j + 1) (v * 64 + c - 128) := by
  refine ⟨by omega, by omega, ?_, ?_⟩
  · have hb := h.bd
    have hlo := h.lo
    have : 64 ^ (j + 1 - 1) = 64 ^ (j - 1) * 64 := by rw [← Nat.pow_succ]; congr 1; omega
    rw [this]
    omega
  · rw [h.out, nats_at L (i + j) hl, hc, show k - j = (k - (j + 1)) + 1 from by omega]
    conv => lhs; unfold PU8.follow
    rw [if_neg (by omega), Nat.add_assoc]
theorem FolAt.none {L : List UInt8} {i k v0 j v : Nat} (h : FolAt L i k v0 j v) (hj : j < k) (hl : i + j < L.length) (c : Nat) (hc : L[i + j].toNat = c) (h1 : c < 128 ∨ 191 < c) : PU8.follow (k - 1) v0 (natsU (L.drop (i + 1))) = .none := by
  rw [h.out, nats_at L (i + j) hl, hc, show k - j = (k - (j + 1)) + 1 from by omega]
  unfold PU8.follow
  rw [if_pos (by omega)]
theorem FolAt.done {L : List UInt8} {i k v0 j v : Nat} (h : FolAt L i k v0 j v) (hj : k ≤ j) : PU8.follow (k - 1) v0 (natsU (L.drop (i + 1))) = some v := by
  rw [h.out, show k - j = 0 from by omega]
  rfl
structure WidAt (n k v j lo hi : Nat) : Prop where
  le1 : k ≤ j
  le2 : j ≤ n
  bl : lo < 67108864 * 64 ^ (j - k)
  bh : hi < 67108864 * 64 ^ (j - k)
  out : PU8.widen (n - k) v v = PU8.widen (n - j) lo hi
theorem wpow_at (j : Nat) (h : j ≤ 3) : 67108864 * 64 ^ j ≤ 17592186044416 := by
  have : j = 0 ∨ j = 1 ∨ j = 2 ∨ j = 3 := by omega
  rcases this with rfl | rfl | rfl | rfl <;> decide
theorem WidAt.le {n k v j lo hi : Nat} (h : WidAt n k v j lo hi) (hk : 1 ≤ k) (hn : n ≤ 4) : lo < 17592186044416 ∧ hi < 17592186044416 := by
  have h1 := h.bl
  have h3 := h.bh
  have h2 := wpow_at (j - k) (by have := h.le1; have := h.le2; omega)
  omega
theorem WidAt.start (n k v : Nat) (hk : k ≤ n) (hv : v < 67108864) : WidAt n k v k v v := ⟨Nat.le_refl _, hk, by simpa using hv, by simpa using hv, rfl⟩
theorem WidAt.next {n k v j lo hi : Nat} (h : WidAt n k v j lo hi) (hj : j < n) : WidAt n k v (j + 1) (lo * 64) (hi * 64 + 63) := by
  have h1 := h.le1
  have hp : 64 ^ (j + 1 - k) = 64 ^ (j - k) * 64 := by rw [← Nat.pow_succ]; congr 1; omega
  have hb := h.bl
  have hh := h.bh
  refine ⟨by omega, by omega, by rw [hp]; omega, by rw [hp]; omega, ?_⟩
  rw [h.out, show n - j = (n - (j + 1)) + 1 from by omega]
  rfl
theorem WidAt.done {n k v j lo hi : Nat} (h : WidAt n k v j lo hi) (hj : n ≤ j) : PU8.widen (n - k) v v = (lo, hi) := by
  rw [h.out, show n - j = 0 from by omega]
  rfl
end Go.Proofs.YtcfgbdhpcboikaaGreatDoor

namespace Go.Proofs.YtcfgbdhpcboikaaGreatDoor
open Go.RowKit PU8

theorem ret_bii {x y : Bool} {a b c d : Int} (h0 : x = y) (h : a = c) (h2 : b = d) : Ending.returned (.tuple #[.bool x, .int .i64 a, .int .i64 b]) = .returned (.tuple #[.bool y, .int .i64 c, .int .i64 d]) := by rw [h0, h, h2]
theorem size_le (c : Nat) (h : c < 256) : (PU8.size c).1 ≤ 4 ∧ (PU8.size c).2 < 256 := by
  unfold PU8.size
  by_cases h1 : c < 128
  · rw [if_pos h1]; simp only; omega
  rw [if_neg h1]
  by_cases h2 : 192 ≤ c ∧ c < 224
  · rw [if_pos h2]; simp only; omega
  rw [if_neg h2]
  by_cases h3 : 224 ≤ c ∧ c < 240
  · rw [if_pos h3]; simp only; omega
  rw [if_neg h3]
  by_cases h4 : 240 ≤ c ∧ c < 248
  · rw [if_pos h4]; simp only; omega
  rw [if_neg h4]
  simp only; omega
set_option maxRecDepth 100000 in
set_option maxHeartbeats 1000000 in
theorem rbegins_none (g off cap i k n0 v0 : Nat) (L : List UInt8) (w : World) (hB : Hid (BytesAt w g off L)) (hi : i < L.length) (hL : L.length ≤ 140737488355328) (hk : 1 ≤ k) (hk4 : k ≤ 4)
    (hs : Hid (PU8.size (L[i]'hi).toNat = (n0, v0))) (hn4 : n0 ≤ 4) (hn : n0 = 0 ∨ n0 < k ∨ L.length < i + k) :
    Calls Tryz.prog 141 #[.slice (some ⟨g, off, none⟩) L.length cap, .int .i64 i, .int .i64 k] w fun e w' => e = .returned (.tuple #[.bool false, .int .i64 0, .int .i64 0]) ∧ w = w' := by
  have hc := hB.out i hi
  by_cases h0 : n0 = 0
  · subst h0
    go_enter Tryz.func141, Tryz.ntmps141
    go_wp2_with (go_at_call 180; refine (rsize_any _ _ _ _ hs).mono ?_; rintro e w' ⟨rfl, rfl⟩)
    go_ret3
    exact ⟨rfl, rfl⟩
  · have t0 : ((n0 : Int) == 0) = false := by simp; omega
    by_cases h1 : n0 < k
    · have t1 : decide ((n0 : Int) < (k : Int)) = true := by simp; omega
      go_enter Tryz.func141, Tryz.ntmps141
      go_wp2_with (go_at_call 180; refine (rsize_any _ _ _ _ hs).mono ?_; rintro e w' ⟨rfl, rfl⟩)
      go_ret3
      exact ⟨rfl, rfl⟩
    · have h2 : L.length < i + k := by omega
      have t1 : decide ((n0 : Int) < (k : Int)) = false := by simp; omega
      go_enter Tryz.func141, Tryz.ntmps141
      go_wp2_with (go_at_call 180; refine (rsize_any _ _ _ _ hs).mono ?_; rintro e w' ⟨rfl, rfl⟩)
      go_ret3
      exact ⟨rfl, rfl⟩
theorem begins_of (L : List UInt8) (i k n0 v0 : Nat) (hi : i < L.length) (_hk : 1 ≤ k) (hs : PU8.size (L[i]'hi).toNat = (n0, v0)) (h0 : n0 ≠ 0) (hkn : k ≤ n0) (hl : i + k ≤ L.length) :
    begins (natsU (L.drop i)) k = match PU8.follow (k - 1) v0 (natsU (L.drop (i + 1))) with
      | none => (false, 0, 0)
      | some v => (decide (max (PU8.widen (n0 - k) v v).1 (PU8.least n0) ≤ min (PU8.widen (n0 - k) v v).2 0x10ffff) && !(decide (0xd800 ≤ max (PU8.widen (n0 - k) v v).1 (PU8.least n0)) && decide (min (PU8.widen (n0 - k) v v).2 0x10ffff ≤ 0xdfff)), n0, v) := by
  rw [nats_at L i hi, begins_at _ _ k n0 v0 hs h0 hkn (by unfold natsU; rw [List.length_map, List.length_drop]; omega)]
  cases PU8.follow (k - 1) v0 (natsU (L.drop (i + 1))) <;> rfl
set_option maxRecDepth 100000 in
set_option maxHeartbeats 2000000 in
theorem rbegins_read (g off cap i k n0 v0 : Nat) (b : Bool) (n v : Nat) (L : List UInt8) (w : World) (hB : Hid (BytesAt w g off L)) (hi : i < L.length) (hL : L.length ≤ 140737488355328) (hk : 1 ≤ k) (hk4 : k ≤ 4)
    (hs : Hid (PU8.size (L[i]'hi).toNat = (n0, v0))) (hn4 : n0 ≤ 4) (hv0 : v0 < 256) (h0 : n0 ≠ 0) (hkn : k ≤ n0) (hl : i + k ≤ L.length) (hr : Hid (begins (natsU (L.drop i)) k = (b, n, v))) :
    Calls Tryz.prog 141 #[.slice (some ⟨g, off, none⟩) L.length cap, .int .i64 i, .int .i64 k] w fun e w' => e = .returned (.tuple #[.bool b, .int .i64 n, .int .i64 v]) ∧ w = w' := by
  have hc := hB.out i hi
  have t0 : ((n0 : Int) == 0) = false := by simp; omega
  have t1 : decide ((n0 : Int) < (k : Int)) = false := by simp; omega
  have hb := Lib.hid (begins_of L i k n0 v0 hi hk hs.out h0 hkn hl)
  go_enter Tryz.func141, Tryz.ntmps141
  go_wp2_with (go_at_call 180; refine (rsize_any _ _ _ _ hs).mono ?_; rintro e w' ⟨rfl, rfl⟩)
  clear hc
  go_loop [6, 7, 8, 10, 11] (fun r6 r7 r8 a j => r6 = .bool false ∧ r7 = .int .i64 0 ∧ r8 = .int .i64 0 ∧ ∃ v' j' : Nat, a = .int .i64 v' ∧ j = .int .i64 j' ∧ Hid (FolAt L i k v0 j' v')) (fun _ _ _ _ j => k - (intOf j).toNat)
  case atStart => exact ⟨rfl, rfl, rfl, v0, 1, rfl, rfl, Lib.hid (FolAt.start L i k v0 hk hv0)⟩
  case round =>
    obtain ⟨rfl, rfl, rfl, v', j, rfl, rfl, hF⟩ := hrel
    have hvb := hF.out.le hk4
    have hj1 := hF.out.lo
    have hj2 := hF.out.hi
    rcases Nat.lt_or_ge j k with hjk | hjk
    · have hij : i + j < L.length := by omega
      have hcj := hB.out (i + j) hij
      have hcb := (L[i + j]'hij).toNat_lt
      obtain ⟨c, hcc⟩ : ∃ c, (L[i + j]'hij).toNat = c := ⟨_, rfl⟩
      rw [hcc] at hcj hcb
      have HC := Lib.hid hcc
      clear hcc
      by_cases hc1 : c < 128
      · have hz := hb.out
        rw [hr.out, hF.out.none hjk hij c HC.out (.inl hc1)] at hz
        simp only [Prod.mk.injEq] at hz
        obtain ⟨rfl, rfl, rfl⟩ := hz
        go_wp2
        go_ret3
        exact ⟨rfl, rfl⟩
      · by_cases hc2 : 191 < c
        · have hz := hb.out
          rw [hr.out, hF.out.none hjk hij c HC.out (.inr hc2)] at hz
          simp only [Prod.mk.injEq] at hz
          obtain ⟨rfl, rfl, rfl⟩ := hz
          go_wp2
          go_ret3
          exact ⟨rfl, rfl⟩
        · have HN := Lib.hid (hF.out.next hjk hij c HC.out (by omega) (by omega))
          go_wp2
          go_round
          case rel => exact ⟨_, _, _, _, _, ⟨rfl, rfl, rfl, v' * 64 + c - 128, rfl, j + 1, rfl, HN⟩, rfl, rfl, rfl, by congr 1; omega, by congr 1⟩
          case measure => simp [intOf]; omega
    · have HF := Lib.hid (hF.out.done hjk)
      go_wp2
      go_loop [12, 13, 14] (fun a b j => ∃ lo hi j' : Nat, a = .int .i64 lo ∧ b = .int .i64 hi ∧ j = .int .i64 j' ∧ Hid (WidAt n0 k v' j' lo hi)) (fun _ _ j => n0 - (intOf j).toNat)
      case atStart => exact ⟨v', v', k, rfl, rfl, rfl, Lib.hid (WidAt.start n0 k v' hkn hvb)⟩
      case round =>
        obtain ⟨lo, hi', jj, rfl, rfl, rfl, hW⟩ := hrel
        obtain ⟨hlo, hhi⟩ := hW.out.le hk hn4
        rcases Nat.lt_or_ge jj n0 with hjn | hjn
        · have HN := Lib.hid (hW.out.next hjn)
          go_wp2
          go_round
          case rel => exact ⟨lo * 64, hi' * 64 + 63, jj + 1, by go_num, by go_num, by go_num, HN⟩
          case measure => simp [intOf]; omega
        · have HW := Lib.hid (hW.out.done hjn)
          have hz := hb.out
          rw [hr.out, HF.out] at hz
          simp only at hz
          rw [HW.out] at hz
          simp only [Prod.mk.injEq] at hz
          obtain ⟨hz, rfl, rfl⟩ := hz
          have HZ := Lib.hid hz
          clear hz
          go_wp2_with (go_at_call 181; refine (rleast_any n hn4 _).mono ?_; rintro e w' ⟨rfl, rfl⟩)
          all_goals
            go_ret3
            refine ⟨ret_bii ?_ rfl rfl, rfl⟩
            rw [HZ.out, Bool.eq_iff_iff]
            simp
            omega
theorem rbegins_any (g off cap i k : Nat) (b : Bool) (n v : Nat) (L : List UInt8) (w : World) (hB : Hid (BytesAt w g off L)) (hi : i < L.length) (hL : L.length ≤ 140737488355328) (hk : 1 ≤ k) (hk4 : k ≤ 4) (hr : Hid (begins (natsU (L.drop i)) k = (b, n, v))) :
    Calls Tryz.prog 141 #[.slice (some ⟨g, off, none⟩) L.length cap, .int .i64 i, .int .i64 k] w fun e w' => e = .returned (.tuple #[.bool b, .int .i64 n, .int .i64 v]) ∧ w = w' := by
  obtain ⟨h4, h256⟩ := size_le (L[i]'hi).toNat (L[i]'hi).toNat_lt
  obtain ⟨n0, v0, hs⟩ : ∃ n0 v0, PU8.size (L[i]'hi).toNat = (n0, v0) := ⟨_, _, rfl⟩
  rw [hs] at h4 h256
  by_cases hn : n0 = 0 ∨ n0 < k ∨ L.length < i + k
  · have hz : begins (natsU (L.drop i)) k = (false, 0, 0) := by
      have hlen : (natsU (L.drop i)).length = L.length - i := by unfold natsU; rw [List.length_map, List.length_drop]
      have hlen2 : (natsU (L.drop (i + 1))).length = L.length - (i + 1) := by unfold natsU; rw [List.length_map, List.length_drop]
      rw [nats_at L i hi]
      unfold begins
      simp only [hs]
      rw [if_pos (by simp only [List.length_cons]; omega)]
    have h2 := hr.out
    rw [hz] at h2
    simp only [Prod.mk.injEq] at h2
    obtain ⟨rfl, rfl, rfl⟩ := h2
    exact rbegins_none g off cap i k n0 v0 L w hB hi hL hk hk4 (Lib.hid hs) h4 hn
  · exact rbegins_read g off cap i k n0 v0 b n v L w hB hi hL hk hk4 (Lib.hid hs) h4 h256 (by omega) (by omega) (by omega) hr
end Go.Proofs.YtcfgbdhpcboikaaGreatDoor

namespace Go.Proofs.YtcfgbdhpcboikaaGreatDoor
open Go.RowKit PU8

theorem ret_iib {x y : Bool} {a b c d : Int} (h : a = c) (h2 : b = d) (h0 : x = y) : Ending.returned (.tuple #[.int .i64 a, .int .i64 b, .bool x]) = .returned (.tuple #[.int .i64 c, .int .i64 d, .bool y]) := by rw [h0, h, h2]
structure PieceAt (b : List Nat) (k m : Nat) : Prop where
  lo : 1 ≤ k
  hi : k ≤ 5
  out : pieceU b = pieceFrom b (5 - k) k m
theorem PieceAt.hit {b : List Nat} {k m v : Nat} (h : PieceAt b k m) (hk : k < 5) (hb : begins b k = (true, k, v)) : pieceU b = (k, v, true) := by
  rw [h.out, show 5 - k = (5 - (k + 1)) + 1 from by omega]
  unfold pieceFrom
  rw [hb, if_pos ⟨rfl, rfl⟩]
theorem PieceAt.some {b : List Nat} {k m n v : Nat} (h : PieceAt b k m) (hk : k < 5) (hb : begins b k = (true, n, v)) (hn : n ≠ k) : PieceAt b (k + 1) k := by
  have hlo := h.lo
  refine ⟨by omega, by omega, ?_⟩
  rw [h.out, show 5 - k = (5 - (k + 1)) + 1 from by omega]
  conv => lhs; unfold pieceFrom
  rw [hb, if_neg (fun hh => hn hh.2), if_pos rfl]
theorem PieceAt.no {b : List Nat} {k m n v : Nat} (h : PieceAt b k m) (hk : k < 5) (hb : begins b k = (false, n, v)) : PieceAt b (k + 1) m := by
  have hlo := h.lo
  refine ⟨by omega, by omega, ?_⟩
  rw [h.out, show 5 - k = (5 - (k + 1)) + 1 from by omega]
  conv => lhs; unfold pieceFrom
  rw [hb, if_neg (fun hh => by cases hh.1), if_neg (by simp)]
theorem PieceAt.done {b : List Nat} {k m : Nat} (h : PieceAt b k m) (hk : 5 ≤ k) : pieceU b = (m, 0xfffd, false) := by
  rw [h.out, show 5 - k = 0 from by omega]
  rfl
set_option maxRecDepth 100000 in
set_option maxHeartbeats 1000000 in
theorem rpiece_any (g off cap i : Nat) (n v : Nat) (t : Bool) (L : List UInt8) (w : World) (hB : Hid (BytesAt w g off L)) (hi : i < L.length) (hL : L.length ≤ 140737488355328) (hr : Hid (pieceU (natsU (L.drop i)) = (n, v, t))) :
    Calls Tryz.prog 82 #[.slice (some ⟨g, off, none⟩) L.length cap, .int .i64 i] w fun e w' => e = .returned (.tuple #[.int .i64 n, .int .i64 v, .bool t]) ∧ w = w' := by
  go_enter Tryz.func82, Tryz.ntmps82
  go_wp2
  go_loop [4, 5, 6, 7, 8] (fun r4 r5 r6 m k => r4 = .int .i64 0 ∧ r5 = .int .i64 0 ∧ r6 = .bool false ∧ ∃ m' k' : Nat, m = .int .i64 m' ∧ k = .int .i64 k' ∧ Hid (PieceAt (natsU (L.drop i)) k' m')) (fun _ _ _ _ k => 5 - (intOf k).toNat)
  case atStart => exact ⟨rfl, rfl, rfl, 1, 1, rfl, rfl, Lib.hid ⟨Nat.le_refl _, by omega, rfl⟩⟩
  case round =>
    obtain ⟨rfl, rfl, rfl, m, k, rfl, rfl, hP⟩ := hrel
    have hk1 := hP.out.lo
    have hk5 := hP.out.hi
    rcases Nat.lt_or_ge k 5 with hk | hk
    · obtain ⟨b0, n0, v0, hb⟩ : ∃ b0 n0 v0, begins (natsU (L.drop i)) k = (b0, n0, v0) := ⟨_, _, _, rfl⟩
      have HB := Lib.hid hb
      cases b0 with
      | true =>
        by_cases hn : n0 = k
        · subst hn
          have hz := hP.out.hit hk hb
          rw [hr.out] at hz
          simp only [Prod.mk.injEq] at hz
          obtain ⟨rfl, rfl, rfl⟩ := hz
          clear hb
          go_wp2_with (go_at_call 141; refine (rbegins_any g off cap i n true n v L _ hB hi hL (by omega) (by omega) HB).mono ?_; rintro e w' ⟨rfl, rfl⟩)
          go_ret3
          exact ⟨rfl, rfl⟩
        · have HN := Lib.hid (hP.out.some hk hb hn)
          have hne : ((n0 : Int) == (k : Int)) = false := by rw [beq_eq_false_iff_ne]; omega
          clear hb
          go_wp2_with (go_at_call 141; refine (rbegins_any g off cap i k true n0 v0 L _ hB hi hL (by omega) (by omega) HB).mono ?_; rintro e w' ⟨rfl, rfl⟩)
          go_round
          case rel => exact ⟨rfl, rfl, rfl, k, k + 1, rfl, by go_num, HN⟩
          case measure => simp [intOf]; omega
      | false =>
        have HN := Lib.hid (hP.out.no hk hb)
        clear hb
        go_wp2_with (go_at_call 141; refine (rbegins_any g off cap i k false n0 v0 L _ hB hi hL (by omega) (by omega) HB).mono ?_; rintro e w' ⟨rfl, rfl⟩)
        go_round
        case rel => exact ⟨rfl, rfl, rfl, m, k + 1, rfl, by go_num, HN⟩
        case measure => simp [intOf]; omega
    · have hz := hP.out.done hk
      rw [hr.out] at hz
      simp only [Prod.mk.injEq] at hz
      obtain ⟨rfl, rfl, rfl⟩ := hz
      go_wp2
      go_ret3
      exact ⟨ret_iib rfl (by simp) rfl, rfl⟩
end Go.Proofs.YtcfgbdhpcboikaaGreatDoor

namespace Go.Proofs.YtcfgbdhpcboikaaGreatDoor
open Go.RowKit PU8

theorem piece_full (r : Nat) (h : Val r) (t : List UInt8) : pieceU (natsU (encU r ++ t)) = ((encU r).length, r, true) := by
  obtain ⟨h1, h2⟩ := piece_enc r h t
  have h3 : (pieceU (natsU (encU r ++ t))).2.2 = true := by
    rw [(sameU _ (nats_ne (enc_ne r t))).ok, nats_append, nats_enc r h, look_enc r h]
  exact Prod.ext h2 (Prod.ext h1 h3)
structure FltAt (rs : List Nat) (L : List UInt8) (j k : Nat) : Prop where
  le : j ≤ rs.length
  rest : L.drop k = (rs.drop j).flatMap encU
  lek : k ≤ L.length
theorem FltAt.start (rs : List Nat) : FltAt rs (rs.flatMap encU) 0 0 := ⟨Nat.zero_le _, rfl, Nat.zero_le _⟩
theorem FltAt.next {rs : List Nat} {L : List UInt8} {j k : Nat} (h : FltAt rs L j k) (hv : ∀ r ∈ rs, Val r) (hk : k < L.length) : ∃ n v, pieceU (natsU (L.drop k)) = (n, v, true) ∧ 1 ≤ n ∧ k + n ≤ L.length ∧ v ≤ 1114111 ∧ FltAt rs L (j + 1) (k + n) := by
  have hj : j < rs.length := by
    rcases Nat.lt_or_ge j rs.length with h1 | h1
    · exact h1
    · have := h.rest
      rw [List.drop_eq_nil_of_le h1] at this
      have := congrArg List.length this
      rw [List.length_drop] at this
      simp at this
      omega
  have hr := h.rest
  rw [List.drop_eq_getElem_cons hj, List.flatMap_cons] at hr
  have hval := hv rs[j] (List.getElem_mem hj)
  have hlen := congrArg List.length hr
  rw [List.length_drop, List.length_append] at hlen
  refine ⟨(encU rs[j]).length, rs[j], by rw [hr]; exact piece_full _ hval _, (enc_len _).1, by omega, hval.2, hj, ?_, by omega⟩
  rw [← List.drop_drop, hr, List.drop_left]
set_option maxRecDepth 100000 in
set_option maxHeartbeats 1000000 in
theorem fault_plain (g off cap : Nat) (rs : List Nat) (hv : Hid (∀ r ∈ rs, Val r)) (L : List UInt8) (hL : Hid (L = rs.flatMap encU)) (hl : L.length ≤ 140737488355328) (w : World) (hB : Hid (BytesAt w g off L)) :
    Calls Tryz.prog 36 #[.slice (some ⟨g, off, none⟩) L.length cap] w fun e w' => e = .returned (.int .i64 L.length) ∧ w = w' := by
  go_enter Tryz.func36, Tryz.ntmps36
  go_wp2
  go_loop [2, 3] (fun r i => r = .int .i64 0 ∧ ∃ j k : Nat, i = .int .i64 k ∧ Hid (FltAt rs L j k)) (fun _ i => L.length - (intOf i).toNat)
  case atStart => exact ⟨rfl, 0, 0, rfl, Lib.hid (by rw [hL.out]; exact FltAt.start rs)⟩
  case round =>
    obtain ⟨rfl, j, k, rfl, hF⟩ := hrel
    have hk := hF.out.lek
    rcases Nat.lt_or_ge k L.length with hlt | hge
    · obtain ⟨n, v, hp, h1, h2, h3, h4⟩ := hF.out.next hv.out hlt
      have HP := Lib.hid hp
      have HN := Lib.hid h4
      clear hp h4
      go_wp2_with fail
      refine (rpiece_any g off cap k n v true L _ hB hlt hl HP).mono ?_
      rintro e w' ⟨rfl, rfl⟩
      go_wp2
      go_round
      case rel => exact ⟨rfl, j + 1, k + n, by go_num, HN⟩
      case measure => simp [intOf]; omega
    · go_wp2
      go_ret
      exact ⟨rfl, rfl⟩
end Go.Proofs.YtcfgbdhpcboikaaGreatDoor
