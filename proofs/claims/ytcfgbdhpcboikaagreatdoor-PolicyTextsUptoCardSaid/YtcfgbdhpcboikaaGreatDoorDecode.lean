/-
  utf8.Decode: bytes made whole.
-/
import Derived.Test.YtcfgbdhpcboikaaGreatDoorLookX
import Derived.Test.YtcfgbdhpcboikaaGreatDoorBWrite
import Derived.Test.YtcfgbdhpcboikaaGreatDoorShelf
import Derived.Test.YtcfgbdhpcboikaaGreatDoorCut
namespace Go.Proofs.YtcfgbdhpcboikaaGreatDoor
open Go.RowKit PU8

/-- A cut of bytes, its address written out. -/
theorem slice_eq (g off cap k h : Nat) (n : Nat) (hk : k < cap) (h1 : k ≤ h) (h2 : h ≤ cap) (w : World) :
    (Instr.slice 35 (.slice (some ⟨g, off, none⟩) n cap) (some (.int .i64 k)) (some (.int .i64 h)) none).run Tryz.prog w = .ok (.slice (some ⟨g, off + k, none⟩) (h - k) (cap - k)) w := by
  rw [run_cut_lh 35 5 Tryz.underlying35 (by kernel_rfl) w (some ⟨g, off, none⟩) n cap k h h1 h2, if_neg (by omega)]
  have hadd : (⟨g, off, none⟩ : Addr).add k = ⟨g, off + k, none⟩ := by unfold Addr.add; split <;> simp_all
  simp [hadd]
theorem BytesAt.cut {w : World} {g off : Nat} {L : List UInt8} (h : BytesAt w g off L) (k m : Nat) : BytesAt w g (off + k) ((L.drop k).take m) := by
  intro j hj
  rw [List.length_take, List.length_drop] at hj
  rw [Nat.add_assoc, h (k + j) (by omega)]
  simp
theorem rune_fffd : Lib.runeCells 65533 = Lib.byteCells [239, 191, 189] := by
  rw [← Lib.byteCells_encodeRune]
  have : Lib.encodeRune 65533 = [239, 191, 189] := by decide
  rw [this]
theorem byteCells_append (a b : List UInt8) : Lib.byteCells a ++ Lib.byteCells b = Lib.byteCells (a ++ b) := by simp [Lib.byteCells]
theorem look_le (l : List UInt8) (h : l ≠ []) : (lookU (nats l)).1 ≤ l.length := by
  have hc : ∀ need lo hi n (r : List Nat), (contU need lo hi n r).1 ≤ n + r.length := by
    intro need
    induction need with
    | zero => intro lo hi n r; simp [contU]
    | succ k ih =>
      intro lo hi n r
      cases r with
      | nil => simp [contU]
      | cons c r =>
        unfold contU
        split
        · simp
        · have := ih 0x80 0xbf (n + 1) r
          simp only [List.length_cons]
          omega
  have hl : (nats l).length = l.length := by unfold nats; simp
  rw [← hl]
  cases hb : nats l with
  | nil => exact absurd hb (nats_ne h)
  | cons c r =>
    rw [look_cons]
    simp only [List.length_cons]
    repeat' split
    all_goals first
      | (have := hc 1 0x80 0xbf 1 r; omega)
      | (have := hc 2 0xa0 0xbf 1 r; omega)
      | (have := hc 2 0x80 0x9f 1 r; omega)
      | (have := hc 2 0x80 0xbf 1 r; omega)
      | (have := hc 3 0x90 0xbf 1 r; omega)
      | (have := hc 3 0x80 0xbf 1 r; omega)
      | (have := hc 3 0x80 0x8f 1 r; omega)
      | (simp only; omega)
structure DecAt (L : List UInt8) (B k : Nat) (w wx : World) (o : List UInt8) : Prop where
  le : k ≤ L.length
  bld : Lib.IsBuilderF 112 5 B B (Lib.byteCells o) wx
  bel : Below B w wx
  out : o ++ decU (L.drop k) = decU L
theorem DecAt.len {L : List UInt8} {B k : Nat} {w wx : World} {o : List UInt8} (h : DecAt L B k w wx o) : o.length ≤ 3 * L.length := by
  have := congrArg List.length h.out
  rw [List.length_append] at this
  have h2 := dec_len L.length L (Nat.le_refl _)
  omega
set_option maxRecDepth 100000 in
set_option maxHeartbeats 2000000 in
theorem decode_any (g off cap : Nat) (L : List UInt8) (hL : L.length ≤ 1000000000) (hcap : L.length ≤ cap) (w : World) (hB : Hid (BytesAt w g off L)) (hg : g < w.heap.size) :
    Calls Tryz.prog 77 #[.slice (some ⟨g, off, none⟩) L.length cap] w fun e w' => e = .returned (.string ⟨(decU L).toArray⟩) ∧ Below w.heap.size w w' := by
  go_enter Tryz.func77, Tryz.ntmps77
  go_wp2
  go_loopw [4] (fun i wx => ∃ k : Nat, i = .int .i64 k ∧ ∃ o, Hid (DecAt L w.heap.size k w wx o)) (fun i _ => L.length - (intOf i).toNat)
  case atStart =>
    refine ⟨0, rfl, [], ⟨Nat.zero_le _, ?_, (Below.refl _ w).alloc (Nat.le_refl _) _, rfl⟩⟩
    exact .inl ⟨Nat.le_refl _, .slice none 0 0, heap_alloc_new w _, World.ownsRowF_nil _ _ _ _, by simp [Value.ownBlock]⟩
  case round =>
    obtain ⟨k, rfl, o, hD⟩ := hrel
    have hk := hD.out.le
    rcases Nat.lt_or_ge k L.length with hlt | hge
    · have hBr : Hid (BytesAt wr g off L) := hB.out.below hD.out.bel hg
      have hne : L.drop k ≠ [] := by
        intro e
        have := congrArg List.length e
        rw [List.length_drop] at this
        simp at this
        omega
      have hst := dec_step (L.drop k) hne
      have hpw := piece_whole (L.drop k) hne
      cases hlk : lookU (nats (L.drop k)) with
      | mk m t =>
      rw [hlk] at hst hpw
      simp only at hst hpw
      have HLK : Hid (lookU (nats (L.drop k)) = (m, t)) := hlk
      have hol := hD.out.len
      cases t with
      | true =>
        obtain ⟨_, hm1, hm2⟩ := hpw rfl
        rw [List.length_drop] at hm2
        have hmax : max m 1 = m := by omega
        rw [if_pos rfl, hmax] at hst
        have HST := Lib.hid hst
        have hsl := slice_eq g off cap k (k + m) L.length (by omega) (by omega) (by omega)
        have hkm : k + m - k = m := by omega
        rw [hkm] at hsl
        rw [Int.natCast_add] at hsl
        clear hst hpw hlk hmax hne hkm
        go_wp2_with fail
        refine (look_any g off cap k m true L _ hBr hlt (by omega) HLK).mono ?_
        rintro e w' ⟨rfl, rfl⟩
        go_wp2_with fail
        refine (bwrite w.heap.size w.heap.size (Lib.byteCells o) g (off + k) (cap - k) m ((L.drop k).take m) (by rw [List.length_take, List.length_drop]; omega) _ hD.out.bld (Lib.hid (hBr.out.cut k m)) hg (by rw [byteCells_len, List.length_take, List.length_drop]; omega) hD.out.bel.size).mono ?_
        rintro e w2 ⟨rfl, b1, b2, b3⟩
        have HN : Hid (DecAt L w.heap.size (k + m) w w2 (o ++ (L.drop k).take m)) := by
          refine ⟨by omega, .inr (by rw [← byteCells_append]; exact b1), hD.out.bel.trans b2, ?_⟩
          have := hD.out.out
          rw [HST.out, List.drop_drop] at this
          rw [List.append_assoc]
          exact this
        clear b1 b2 b3
        go_wp2
        refine ⟨⟨k + m, by congr 1; omega, _, HN⟩, ?_⟩
        simp [intOf]; omega
      | false =>
        rw [if_neg (by simp), List.drop_drop] at hst
        have HST := Lib.hid hst
        clear hst hpw hlk hne
        go_wp2_with fail
        refine (look_any g off cap k m false L _ hBr hlt (by omega) HLK).mono ?_
        rintro e w' ⟨rfl, rfl⟩
        go_wp2_with fail
        refine (Tryz.Builder_WriteRune_k w.heap.size w.heap.size (Lib.byteCells o) 65533 (by omega) (by omega) _ hD.out.bld (by rw [byteCells_len]; omega) hD.out.bel.size).mono ?_
        rintro e w2 ⟨rfl, b1, b2, b3⟩
        have HN : Hid (k + max m 1 ≤ L.length → DecAt L w.heap.size (k + max m 1) w w2 (o ++ [239, 191, 189])) := by
          intro hle
          refine ⟨hle, .inr (by rw [← byteCells_append, ← rune_fffd]; exact b1), hD.out.bel.trans b2, ?_⟩
          have := hD.out.out
          rw [HST.out] at this
          rw [List.append_assoc]
          exact this
        have hle : m ≤ L.length - k := by
          have := look_le (L.drop k) (by intro e; have := congrArg List.length e; rw [List.length_drop] at this; simp at this; omega)
          rw [HLK.out, List.length_drop] at this
          exact this
        clear b1 b2 b3
        go_wp2
        refine ⟨⟨k + max m 1, by congr 1; omega, _, HN.out (by omega)⟩, ?_⟩
        simp [intOf]; omega
    · have hE : o = decU L := by
        have := hD.out.out
        rw [List.drop_eq_nil_of_le (by omega), dec_nil, List.append_nil] at this
        exact this
      have HE := Lib.hid hE
      clear hE
      go_wp2_with fail
      refine (Tryz.Builder_String_any_k w.heap.size w.heap.size o _ hD.out.bld hD.out.bel.size).mono ?_
      rintro e w2 ⟨rfl, b1, b2, b3⟩
      clear b1 b3
      go_wp2
      go_ret
      refine ⟨?_, hD.out.bel.trans b2⟩
      rw [HE.out]
      rfl
end Go.Proofs.YtcfgbdhpcboikaaGreatDoor
