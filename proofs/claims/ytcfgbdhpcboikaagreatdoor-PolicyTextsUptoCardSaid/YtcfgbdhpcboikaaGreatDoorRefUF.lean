/-
  The document's utf8: Runes (the characters of bytes).
  The document's utf8: Encode (the bytes of numbers that are characters).
  The document's Text: what it answers.
  The document's Small, Lower and Scheme: what they answer.
  The document's Link: what it answers.
-/
import Derived.Test.YtcfgbdhpcboikaaGreatDoorRefUA
import Derived.Test.YtcfgbdhpcboikaaGreatDoorOwnV
import Derived.Test.YtcfgbdhpcboikaaGreatDoorTextW
import Derived.Test.YtcfgbdhpcboikaaGreatDoorSchemeX
import Derived.Test.YtcfgbdhpcboikaaGreatDoorRefIn
import Derived.Test.YtcfgbdhpcboikaaGreatDoorLinkW
namespace Go.Proofs.YtcfgbdhpcboikaaGreatDoor
open Go.RowKit PU8

def runeV (r : Nat) : Value := .int .i32 (r : Nat)
theorem Tryz.info21 : (Tryz.prog.info? 21).map (fun i => (i.zero, i.size, i.bytes)) = some (some (.int .i32 0), 1, 4) := by kernel_rfl
theorem drop_ne {L : List UInt8} {k : Nat} (h : k < L.length) : L.drop k ≠ [] := by
  intro e
  have := congrArg List.length e
  rw [List.length_drop] at this
  simp at this
  omega
structure RunAt (L : List UInt8) (k : Nat) (rs : List Nat) : Prop where
  le : k ≤ L.length
  len : rs.length ≤ k
  out : rs ++ runesU (L.drop k) = runesU L
theorem RunAt.start (L : List UInt8) : RunAt L 0 [] := ⟨Nat.zero_le _, Nat.le_refl _, rfl⟩
theorem RunAt.next {L : List UInt8} {k : Nat} {rs : List Nat} {n v : Nat} {t : Bool} (h : RunAt L k rs) (hk : k < L.length) (hp : pieceU (nats (L.drop k)) = (n, v, t)) : 1 ≤ n ∧ k + n ≤ L.length ∧ v ≤ 1114111 ∧ RunAt L (k + n) (rs ++ [v]) := by
  have hne := drop_ne hk
  have h1 := piece_pos _ hne
  have h2 := piece_num _ hne
  have h3 := piece_val _ hne
  have h4 := look_le _ hne
  have h5 := runes_step _ hne
  rw [hp] at h1 h2 h3 h5
  simp only at h1 h2 h3 h5
  rw [List.length_drop] at h4
  refine ⟨h1, by omega, h3.2, by omega, ?_, ?_⟩
  · have := h.len; simp; omega
  · rw [List.append_assoc, List.singleton_append, ← List.drop_drop, ← h5]
    exact h.out
theorem RunAt.done {L : List UInt8} {k : Nat} {rs : List Nat} (h : RunAt L k rs) (hk : L.length ≤ k) : rs = runesU L := by
  have := h.out
  rw [List.drop_eq_nil_of_le hk, runes_nil, List.append_nil] at this
  exact this
def RunesPost (L : List UInt8) (w : World) (e : Ending) (w' : World) : Prop := ∃ v, e = .returned v ∧ OwnV w.heap.size 21 1 v (runesU L).length ((runesU L).map runeV) w w'
set_option maxRecDepth 100000 in
set_option maxHeartbeats 1000000 in
theorem rrunes_any (g off cap : Nat) (L : List UInt8) (w : World) (hB : Hid (BytesAt w g off L)) (hg : g < w.heap.size) (hL : L.length ≤ 1000000000) :
    Calls Tryz.prog 78 #[.slice (some ⟨g, off, none⟩) L.length cap] w (RunesPost L w) := by
  obtain ⟨i0, hi, hz0, hz1, hz2⟩ := info_parts Tryz.info21
  go_enter Tryz.func78, Tryz.ntmps78
  go_wp2
  go_loopw [3, 4] (fun o i wx => ∃ (k : Nat) (rs : List Nat), i = .int .i64 k ∧ Hid (RunAt L k rs) ∧ Hid (OwnV w.heap.size 21 1 o rs.length (rs.map runeV) w wx)) (fun _ i _ => L.length - (intOf i).toNat)
  case atStart => exact ⟨0, [], rfl, Lib.hid (RunAt.start L), Lib.hid (OwnV.nil w 21 1)⟩
  case round =>
    obtain ⟨k, rs, rfl, hR, hO⟩ := hrel
    have hk := hR.out.le
    have hkl := hR.out.len
    rcases Nat.lt_or_ge k L.length with hlt | hge
    · have hBr : Hid (BytesAt wr g off L) := hB.out.below hO.out.bel hg
      obtain ⟨n, v, t, hp⟩ : ∃ n v t, pieceU (nats (L.drop k)) = (n, v, t) := ⟨_, _, _, rfl⟩
      obtain ⟨hn1, hn2, hv, hN⟩ := hR.out.next hlt hp
      have HN := Lib.hid hN
      have HP := Lib.hid hp
      clear hp hN
      go_wp2_with fail
      refine (rpiece_any g off cap k n v t L wr hBr hlt (by omega) HP).mono ?_
      rintro e w' ⟨rfl, rfl⟩
      go_wp2_with (at_builtin; refine wpList_append_one (by rfl) _ _ 85 (by rfl) 21 i0 (.int .i32 0) 1 4 Tryz.underlying85 hi hz0 hz1 hz2 rfl (by decide) _ _ _ rfl hO.out #[.int .i32 v] rfl rfl rfl rfl (by omega) (by omega) ?_)
      intro v' w' hO' _
      go_wp2
      go_roundw
      case rel => exact ⟨k + n, rs ++ [v], by go_num, HN, Lib.hid (hO'.out.cast (by simp) (by simp [runeV]))⟩
      case measure => simp [intOf]; omega
    · have HE := Lib.hid (hR.out.done hge)
      go_wp2
      go_ret
      exact ⟨_, rfl, by rw [← HE.out]; exact hO.out⟩
end Go.Proofs.YtcfgbdhpcboikaaGreatDoor

namespace Go.Proofs.YtcfgbdhpcboikaaGreatDoor
open Go.RowKit PU8

structure EncAt (rs : List Nat) (k : Nat) (bs : List UInt8) : Prop where
  le : k ≤ rs.length
  len : bs.length ≤ 4 * k
  out : bs = (rs.take k).flatMap encU
theorem EncAt.start (rs : List Nat) : EncAt rs 0 [] := ⟨Nat.zero_le _, Nat.le_refl _, rfl⟩
theorem EncAt.next {rs : List Nat} {k : Nat} {bs : List UInt8} (h : EncAt rs k bs) (hk : k < rs.length) : EncAt rs (k + 1) (bs ++ encU rs[k]) := by
  refine ⟨hk, ?_, ?_⟩
  · have := h.len; have := (enc_len rs[k]).2; simp; omega
  · rw [List.take_succ_eq_append_getElem hk, List.flatMap_append, ← h.out]; simp
theorem byteCells_V (L : List UInt8) : Lib.byteCells L = L.map byteV := rfl
theorem isV_row (w : World) (cs : List Value) (E : TypeId) : ∀ j u, cs[j]? = some u → (w.alloc (.cells cs.toArray E)).cell? ((⟨w.heap.size, 0, none⟩ : Addr).add j) = some u := by
  intro j u hj
  have hadd : (⟨w.heap.size, 0, none⟩ : Addr).add j = ⟨w.heap.size, j, none⟩ := by unfold Addr.add; split <;> simp_all
  rw [hadd, cell_of_row _ _ j cs.toArray E (0, 0) (heap_alloc_new w _)]
  simpa using hj
theorem byteCells_all (L : List UInt8) : (Lib.byteCells L).all (fun u => u.oneCell') = true := List.all_eq_true.2 (byteCells_one L)
set_option maxRecDepth 100000 in
set_option maxHeartbeats 1000000 in
theorem rencode_any (rs : List Nat) (hv : Hid (∀ r ∈ rs, Val r)) (hl : rs.length ≤ 1000000000) (v : Value) (w : World) (hV : Hid (VecAt w v rs.length (rs.map runeV))) :
    Calls Tryz.prog 79 #[v] w fun e w' => e = .returned (.string ⟨(rs.flatMap encU).toArray⟩) ∧ Below w.heap.size w w' := by
  obtain ⟨i0, hi, hz0, hz1, hz2⟩ := info_parts Tryz.info5
  obtain ⟨a, c, rfl, _⟩ := hV.out
  go_enter Tryz.func79, Tryz.ntmps79
  go_wp2
  go_loopw [3, 4] (fun o i wx => ∃ (k : Nat) (bs : List UInt8), i = .int .i64 k ∧ Hid (EncAt rs k bs) ∧ Hid (OwnV w.heap.size 5 1 o bs.length (Lib.byteCells bs) w wx)) (fun _ i _ => rs.length - (intOf i).toNat)
  case atStart => exact ⟨0, [], rfl, Lib.hid (EncAt.start rs), Lib.hid (OwnV.nil w 5 1)⟩
  case round =>
    obtain ⟨k, bs, rfl, hE, hO⟩ := hrel
    have hk := hE.out.le
    have hkl := hE.out.len
    rcases Nat.lt_or_ge k rs.length with hlt | hge
    · obtain ⟨g, off, c', hva, hcell⟩ := (hV.out.below hO.out.bel (Nat.le_refl _)).get k (by simpa using hlt)
      simp only [Value.slice.injEq, true_and] at hva
      obtain ⟨rfl, rfl⟩ := hva
      rw [List.getElem_map] at hcell
      have hval := hv.out rs[k] (List.getElem_mem hlt)
      have HN := Lib.hid (hE.out.next hlt)
      have hle := hval.2
      have HVAL := Lib.hid hval
      have HEL := Lib.hid (enc_len rs[k])
      generalize rs[k] = r at *
      unfold runeV at hcell
      clear hval
      have hel := HEL.out.2
      go_wp2_with fail
      refine (rchar_yes r HVAL.out wr).mono ?_
      rintro e w' ⟨rfl, rfl⟩
      go_wp2_with fail
      refine (rbytes_any r hle wr).mono ?_
      rintro e w' ⟨rfl, rfl⟩
      go_wp2_with (at_builtin; refine wpList_append_vec (by rfl) _ _ 35 (by rfl) 5 i0 (.int .u8 0) 1 1 Tryz.underlying35 hi hz0 hz1 hz2 rfl (by decide) _ _ _ rfl (hO.out.alloc _) ⟨wr.heap.size, 0, none⟩ (encU r).length (encU r).length (Lib.byteCells (encU r)) rfl (by rw [byteCells_len, Nat.mul_one]) (isV_row wr _ 5) (byteCells_all _) (by omega) (by omega) ?_)
      intro v' w' hO' _
      go_wp2
      go_roundw
      case rel => exact ⟨k + 1, bs ++ encU r, by go_num, HN, Lib.hid (hO'.out.cast (by simp) (byteCells_append _ _))⟩
      case measure => simp [intOf]; omega
    · have hk' : k = rs.length := by omega
      have hX : bs = rs.flatMap encU := by
        have := hE.out.out
        rw [hk', List.take_length] at this
        exact this
      have HX := Lib.hid hX
      obtain ⟨a1, c1, rfl, _, _⟩ := hO.out.slice
      have hcv := run_convB (P := Tryz.prog) wr 35 5 9 Tryz.underlying35 Tryz.underlying5 Tryz.underlying9 a1 bs bs.length c1 rfl (hO.out.isB rfl)
      clear hX
      go_wp2
      go_ret
      refine ⟨?_, hO.out.bel⟩
      rw [HX.out]
      rfl
end Go.Proofs.YtcfgbdhpcboikaaGreatDoor

namespace Go.Proofs.YtcfgbdhpcboikaaGreatDoor
open Go.RowKit PU8

structure KeepAt (rs : List Nat) (k : Nat) (ks : List Nat) : Prop where
  le : k ≤ rs.length
  len : ks.length ≤ k
  out : ks = (rs.take k).filter keepR
theorem KeepAt.start (rs : List Nat) : KeepAt rs 0 [] := ⟨Nat.zero_le _, Nat.le_refl _, rfl⟩
theorem KeepAt.yes {rs : List Nat} {k : Nat} {ks : List Nat} (h : KeepAt rs k ks) (hk : k < rs.length) (hr : keepR rs[k] = true) : KeepAt rs (k + 1) (ks ++ [rs[k]]) := by
  refine ⟨hk, ?_, ?_⟩
  · have := h.len; simp; omega
  · rw [List.take_succ_eq_append_getElem hk, List.filter_append, ← h.out]; simp [hr]
theorem KeepAt.no {rs : List Nat} {k : Nat} {ks : List Nat} (h : KeepAt rs k ks) (hk : k < rs.length) (hr : keepR rs[k] = false) : KeepAt rs (k + 1) ks := by
  refine ⟨hk, ?_, ?_⟩
  · have := h.len; omega
  · rw [List.take_succ_eq_append_getElem hk, List.filter_append, ← h.out]; simp [hr]
theorem runes_len (L : List UInt8) : (runesU L).length ≤ L.length := by
  have h : ∀ (n : Nat) (l : List UInt8), l.length ≤ n → (runesU l).length ≤ l.length := by
    intro n
    induction n with
    | zero => intro l hl; rw [List.eq_nil_of_length_eq_zero (by omega : l.length = 0)]; exact Nat.le_refl _
    | succ n ih =>
      intro l hl
      by_cases hne : l = []
      · subst hne; exact Nat.le_refl _
      · rw [runes_step l hne, List.length_cons]
        have h1 := piece_pos l hne
        have h2 := ih (l.drop (pieceU (nats l)).1) (by rw [List.length_drop]; omega)
        rw [List.length_drop] at h2
        have : 1 ≤ l.length := by rcases l with _ | ⟨_, _⟩; exact absurd rfl hne; simp
        omega
  exact h L.length L (Nat.le_refl _)
set_option maxRecDepth 100000 in
set_option maxHeartbeats 2000000 in
theorem rtext_any (s : ByteArray) (hs : s.size ≤ 1000000000) (w : World) : Calls Tryz.prog 33 #[.string s] w fun e w' => e = .returned (.string ⟨(textL s.data.toList).toArray⟩) ∧ Below w.heap.size w w' := by
  obtain ⟨i0, hi, hz0, hz1, hz2⟩ := info_parts Tryz.info21
  obtain ⟨cap, W, hrun, hb, hby, hcap, hsz⟩ := conv_bytes s w
  have hsl : s.data.toList.length = s.size := rfl
  have hrl := runes_len s.data.toList
  have hrv := runes_val s.data.toList.length s.data.toList (Nat.le_refl _)
  have C := rrunes_any w.heap.size 0 cap s.data.toList W (Lib.hid hby) hsz (by omega)
  rw [hsl] at C hrl
  have hT : textL s.data.toList = ((runesU s.data.toList).filter keepR).flatMap encU := rfl
  unfold RunesPost at C
  rw [hT]
  generalize runesU s.data.toList = rs at C hrl hrv
  have HB := Lib.hid hb
  have HC := Lib.hid C
  have HV := Lib.hid hrv
  clear hb hby hcap hsz C hrv hsl hT
  go_enter Tryz.func33, Tryz.ntmps33
  go_wp2_with fail
  refine HC.out.mono ?_
  rintro e W1 ⟨v, rfl, hO1⟩
  have HB1 := Lib.hid (HB.out.trans (hO1.bel.mono HB.out.size))
  have HV1 := Lib.hid hO1.vec
  clear hO1
  obtain ⟨a, c, rfl, _⟩ := HV1.out
  go_wp2
  go_loopw [4, 5] (fun o i wx => ∃ (k : Nat) (ks : List Nat), i = .int .i64 k ∧ Hid (KeepAt rs k ks) ∧ Hid (OwnV W1.heap.size 21 1 o ks.length (ks.map runeV) W1 wx)) (fun _ i _ => rs.length - (intOf i).toNat)
  case atStart => exact ⟨0, [], rfl, Lib.hid (KeepAt.start rs), Lib.hid (OwnV.nil W1 21 1)⟩
  case round =>
    obtain ⟨k, ks, rfl, hK, hO⟩ := hrel
    have hk := hK.out.le
    have hkl := hK.out.len
    rcases Nat.lt_or_ge k rs.length with hlt | hge
    · obtain ⟨g, off, c', hva, hcell⟩ := (HV1.out.below hO.out.bel (Nat.le_refl _)).get k (by simpa using hlt)
      simp only [Value.slice.injEq, true_and] at hva
      obtain ⟨rfl, rfl⟩ := hva
      rw [List.getElem_map] at hcell
      have hle := (HV.out rs[k] (List.getElem_mem hlt)).2
      have HY := Lib.hid (hK.out.yes hlt)
      have HN := Lib.hid (hK.out.no hlt)
      generalize rs[k] = r at *
      unfold runeV at hcell
      have hcases : r < 9 ∨ r = 9 ∨ r = 10 ∨ (10 < r ∧ r < 32) ∨ (32 ≤ r ∧ r < 127) ∨ (127 ≤ r ∧ r ≤ 159) ∨ 159 < r := by omega
      rcases hcases with h | rfl | rfl | ⟨h, h2⟩ | ⟨h, h2⟩ | ⟨h, h2⟩ | h
      · have HF := Lib.hid (HN.out (by unfold keepR; simp; omega))
        have t1 : ((r : Int) == 9) = false := by rw [beq_eq_false_iff_ne]; omega
        have t2 : ((r : Int) == 10) = false := by rw [beq_eq_false_iff_ne]; omega
        go_wp2
        go_roundw
        case rel => exact ⟨k + 1, ks, by go_num, HF, hO⟩
        case measure => simp [intOf]; omega
      · have HF := Lib.hid (HY.out rfl)
        go_wp2_with (at_builtin; refine wpList_append_one (by rfl) _ _ 85 (by rfl) 21 i0 (.int .i32 0) 1 4 Tryz.underlying85 hi hz0 hz1 hz2 rfl (by decide) _ _ _ rfl hO.out #[.int .i32 (9 : Nat)] rfl rfl rfl rfl (by omega) (by omega) ?_)
        intro v' w' hO' _
        go_wp2
        go_roundw
        case rel => exact ⟨k + 1, ks ++ [9], by go_num, HF, Lib.hid (hO'.out.cast (by simp) (by simp [runeV]))⟩
        case measure => simp [intOf]; omega
      · have HF := Lib.hid (HY.out rfl)
        go_wp2_with (at_builtin; refine wpList_append_one (by rfl) _ _ 85 (by rfl) 21 i0 (.int .i32 0) 1 4 Tryz.underlying85 hi hz0 hz1 hz2 rfl (by decide) _ _ _ rfl hO.out #[.int .i32 (10 : Nat)] rfl rfl rfl rfl (by omega) (by omega) ?_)
        intro v' w' hO' _
        go_wp2
        go_roundw
        case rel => exact ⟨k + 1, ks ++ [10], by go_num, HF, Lib.hid (hO'.out.cast (by simp) (by simp [runeV]))⟩
        case measure => simp [intOf]; omega
      · have HF := Lib.hid (HN.out (by unfold keepR; simp; omega))
        have t1 : ((r : Int) == 9) = false := by rw [beq_eq_false_iff_ne]; omega
        have t2 : ((r : Int) == 10) = false := by rw [beq_eq_false_iff_ne]; omega
        go_wp2
        go_roundw
        case rel => exact ⟨k + 1, ks, by go_num, HF, hO⟩
        case measure => simp [intOf]; omega
      · have HF := Lib.hid (HY.out (by unfold keepR; simp; omega))
        have t1 : ((r : Int) == 9) = false := by rw [beq_eq_false_iff_ne]; omega
        have t2 : ((r : Int) == 10) = false := by rw [beq_eq_false_iff_ne]; omega
        go_wp2_with (at_builtin; refine wpList_append_one (by rfl) _ _ 85 (by rfl) 21 i0 (.int .i32 0) 1 4 Tryz.underlying85 hi hz0 hz1 hz2 rfl (by decide) _ _ _ rfl hO.out #[.int .i32 r] rfl rfl rfl rfl (by omega) (by omega) ?_)
        intro v' w' hO' _
        go_wp2
        go_roundw
        case rel => exact ⟨k + 1, ks ++ [r], by go_num, HF, Lib.hid (hO'.out.cast (by simp) (by simp [runeV]))⟩
        case measure => simp [intOf]; omega
      · have HF := Lib.hid (HN.out (by unfold keepR; simp; omega))
        have t1 : ((r : Int) == 9) = false := by rw [beq_eq_false_iff_ne]; omega
        have t2 : ((r : Int) == 10) = false := by rw [beq_eq_false_iff_ne]; omega
        go_wp2
        go_roundw
        case rel => exact ⟨k + 1, ks, by go_num, HF, hO⟩
        case measure => simp [intOf]; omega
      · have HF := Lib.hid (HY.out (by unfold keepR; simp; omega))
        have t1 : ((r : Int) == 9) = false := by rw [beq_eq_false_iff_ne]; omega
        have t2 : ((r : Int) == 10) = false := by rw [beq_eq_false_iff_ne]; omega
        go_wp2_with (at_builtin; refine wpList_append_one (by rfl) _ _ 85 (by rfl) 21 i0 (.int .i32 0) 1 4 Tryz.underlying85 hi hz0 hz1 hz2 rfl (by decide) _ _ _ rfl hO.out #[.int .i32 r] rfl rfl rfl rfl (by omega) (by omega) ?_)
        intro v' w' hO' _
        go_wp2
        go_roundw
        case rel => exact ⟨k + 1, ks ++ [r], by go_num, HF, Lib.hid (hO'.out.cast (by simp) (by simp [runeV]))⟩
        case measure => simp [intOf]; omega
    · have hX : ks = rs.filter keepR := by
        have := hK.out.out
        rw [show k = rs.length by omega, List.take_length] at this
        exact this
      have hkv : ∀ r ∈ ks, Val r := fun r hr => by rw [hX] at hr; exact HV.out r (List.mem_filter.1 hr).1
      have HX := Lib.hid hX
      have HKV := Lib.hid hkv
      have HW := Lib.hid hO.out.vec
      have HB2 := Lib.hid (HB1.out.trans (hO.out.bel.mono HB1.out.size))
      clear hX hkv
      go_wp2_with fail
      refine (rencode_any ks HKV (by omega) _ wr HW).mono ?_
      rintro e W2 ⟨rfl, B2⟩
      have HB3 := Lib.hid (HB2.out.trans (B2.mono HB2.out.size))
      clear B2
      go_wp2
      go_ret
      refine ⟨?_, HB3.out⟩
      rw [HX.out]
      rfl
end Go.Proofs.YtcfgbdhpcboikaaGreatDoor

namespace Go.Proofs.YtcfgbdhpcboikaaGreatDoor
open Go.RowKit

theorem ret_u8 {a b : Int} (h : a = b) : Ending.returned (.int .u8 a) = .returned (.int .u8 b) := by rw [h]
set_option maxRecDepth 100000 in
theorem rsmall_any (c : UInt8) (d : Nat) (hd : Hid ((smallB c).toNat = d)) (w : World) : Calls Tryz.prog 73 #[.int .u8 c.toNat] w fun e w' => e = .returned (.int .u8 d) ∧ w = w' := by
  have hn := smallB_nat c
  rw [hd.out] at hn
  have hc := c.toNat_lt
  generalize c.toNat = n at *
  have hcases : n < 65 ∨ (65 ≤ n ∧ n ≤ 90) ∨ 90 < n := by omega
  rcases hcases with h | ⟨h, h2⟩ | h
  · rw [if_neg (by omega)] at hn
    subst hn
    go_enter Tryz.func73, Tryz.ntmps73
    go_wp2
    go_ret
    exact ⟨rfl, rfl⟩
  · rw [if_pos (by omega)] at hn
    have HN := Lib.hid hn
    clear hn
    go_enter Tryz.func73, Tryz.ntmps73
    go_wp2
    go_ret
    exact ⟨ret_u8 (by rw [HN.out]; omega), rfl⟩
  · rw [if_neg (by omega)] at hn
    subst hn
    go_enter Tryz.func73, Tryz.ntmps73
    go_wp2
    go_ret
    exact ⟨rfl, rfl⟩
set_option maxRecDepth 100000 in
set_option maxHeartbeats 1000000 in
theorem rlower_any (s : ByteArray) (hs : s.size ≤ 140737488355328) (w : World) : Calls Tryz.prog 74 #[.string s] w fun e w' => e = .returned (.string ⟨(smallL s.data.toList).toArray⟩) ∧ Below w.heap.size w w' := by
  obtain ⟨cap, W, hrun, hb, hrow, hcap⟩ := conv_row s w
  have H0 : Hid (SmallAt s.data.toList w.heap.size 0 w W) := ⟨Nat.zero_le _, hrow, hb⟩
  have HC := Lib.hid hcap
  clear hb hrow hcap
  go_enter Tryz.func74, Tryz.ntmps74
  go_wp2
  go_loopw [4] (fun i wx => ∃ k : Nat, i = .int .i64 k ∧ Hid (SmallAt s.data.toList w.heap.size k w wx)) (fun i _ => s.size - (intOf i).toNat)
  case atStart => exact ⟨0, rfl, H0⟩
  case round =>
    obtain ⟨k, rfl, hR⟩ := hrel
    rcases Nat.lt_or_ge k s.size with hlt | hge
    · obtain ⟨c, hcell, hfree, h1, h2⟩ := small_cell _ _ _ _ _ hR.out hlt
      have H2 := Lib.hid h2
      have hb8 := c.toNat_lt
      clear h1 h2
      obtain ⟨d, hd⟩ : ∃ d, (smallB c).toNat = d := ⟨_, rfl⟩
      have HD := Lib.hid hd
      have hd8 : d < 256 := by rw [← hd]; exact (smallB c).toNat_lt
      clear hd
      go_wp2_with (go_at_call 73; refine (rsmall_any c d HD _).mono ?_; rintro e w' ⟨rfl, rfl⟩)
      go_roundw
      case rel => exact ⟨k + 1, by go_num, H2.out _ (by rw [HD.out])⟩
      case measure => simp [intOf]; omega
    · have hR2 := hR.out.2.1
      have hk : k = s.data.toList.length := Nat.le_antisymm hR.out.1 hge
      rw [hk, List.take_length, List.drop_length, List.append_nil] at hR2
      have hlen : (smallL s.data.toList).length = s.size := by unfold smallL; simp
      have hcv : (convert 35 9 (.slice (some ⟨w.heap.size, 0, none⟩) s.size cap)).run Tryz.prog wr = .ok (.string ⟨(smallL s.data.toList).toArray⟩) wr := by
        rw [← hlen]
        refine run_convert_bytes_back wr 35 9 5 _ cap _ Tryz.underlying35 Tryz.underlying5 Tryz.underlying9 ?_
        intro j hj
        have hadd : (⟨w.heap.size, 0, none⟩ : Addr).add j = ⟨w.heap.size, 0 + j, none⟩ := by unfold Addr.add; split <;> simp_all
        rw [hadd]
        exact hR2.bytes j hj
      clear hR2 hlen hk
      go_wp2
      go_ret
      exact ⟨rfl, hR.out.2.2⟩

/-! ### Scheme -/
theorem schemeB_of (c : UInt8) (d k : Nat) (h : (smallB c).toNat = d) : schemeB (smallB c) k = ((decide (97 ≤ d) && decide (d ≤ 122)) || (decide (0 < k) && ((decide (48 ≤ d) && decide (d ≤ 57)) || decide (d = 43) || decide (d = 45) || decide (d = 46)))) := by
  unfold schemeB
  rw [h]
theorem small_58 (c : UInt8) (h : (smallB c).toNat = 58) : c = 58 := by
  rw [smallB_nat] at h
  split at h
  · omega
  · exact UInt8.toNat_inj.1 (by rw [h]; rfl)
theorem sch_hyp {p : List UInt8} {k : Nat} (h : SchRel p k) : ∀ j c, j < k → p[j]? = some c → schemeB (smallB c) j = true := by
  intro j c hj hc
  have hl : j < p.length := (List.getElem?_eq_some_iff.1 hc).1
  rw [List.getElem?_eq_getElem hl] at hc
  cases hc
  exact h.2 j hl hj
structure SchStep (s : ByteArray) (k d : Nat) : Prop where
  yes : ((decide (97 ≤ d) && decide (d ≤ 122)) || (decide (0 < k) && ((decide (48 ≤ d) && decide (d ≤ 57)) || decide (d = 43) || decide (d = 45) || decide (d = 46)))) = true → SchRel s.data.toList (k + 1)
  no : ((decide (97 ≤ d) && decide (d ≤ 122)) || (decide (0 < k) && ((decide (48 ≤ d) && decide (d ≤ 57)) || decide (d = 43) || decide (d = 45) || decide (d = 46)))) = false → (d = 58 → k = 0) → schemeV s.data.toList = .tuple #[.string ⟨#[]⟩, .bool false]
  colon : d = 58 → 0 < k → schemeV s.data.toList = .tuple #[.string ⟨(smallL (s.data.toList.take k)).toArray⟩, .bool true]
theorem SchStep.of (s : ByteArray) (k d : Nat) (hk : k < s.size) (h : SchRel s.data.toList k) (hd : (smallB s[k]).toNat = d) : SchStep s k d := by
  have hl : k < s.data.toList.length := hk
  have hg : s.data.toList[k]? = some s[k] := by rw [List.getElem?_eq_getElem hl]; rfl
  have he : s.data.toList[k] = s[k] := by rw [List.getElem?_eq_getElem hl] at hg; exact Option.some.inj hg
  refine ⟨fun hy => ?_, fun hn h58 => ?_, fun h58 h0 => ?_⟩
  · rw [← schemeB_of s[k] d k hd, ← he] at hy
    exact h.step hl hy
  · rw [← schemeB_of s[k] d k hd] at hn
    exact schemeV_none (scheme_bad _ k s[k] hg hn (fun e => h58 (by rw [← hd, e]; rfl)) (sch_hyp h))
  · have hc : s[k] = 58 := small_58 _ (by rw [hd, h58])
    rw [hc] at hg
    exact schemeV_some (scheme_colon _ k h0 hg (sch_hyp h))
theorem extract_take (s : ByteArray) (k : Nat) (_hk : k ≤ s.size) : (s.extract 0 k).data.toList = s.data.toList.take k := by
  have := extract_piece s 0 k
  rw [toList_data] at this
  rw [this]
  unfold pieceB
  simp
def SchPost (s : ByteArray) (w : World) (e : Ending) (w' : World) : Prop := e = .returned (schemeV s.data.toList) ∧ Below w.heap.size w w'
set_option maxRecDepth 100000 in
set_option maxHeartbeats 4000000 in
theorem rscheme_any (s : ByteArray) (hs : s.size ≤ 140737488355328) (w : World) : Calls Tryz.prog 31 #[.string s] w (SchPost s w) := by
  go_enter Tryz.func31, Tryz.ntmps31
  go_wp2
  go_loop [2, 3, 4] (fun r2 r3 i => r2 = .string ⟨#[]⟩ ∧ r3 = .bool false ∧ ∃ k : Nat, i = .int .i64 k ∧ Hid (SchRel s.data.toList k)) (fun _ _ i => s.size - (intOf i).toNat)
  case atStart => exact ⟨rfl, rfl, 0, rfl, Lib.hid ⟨Nat.zero_le _, fun j hj h0 => absurd h0 (by omega)⟩⟩
  case round =>
    obtain ⟨rfl, rfl, k, rfl, hR⟩ := hrel
    rcases Nat.lt_or_ge k s.size with hlt | hge
    · obtain ⟨d, hd⟩ : ∃ d, (smallB s[k]).toNat = d := ⟨_, rfl⟩
      have HD := Lib.hid hd
      have hd8 : d < 256 := by rw [← hd]; exact (smallB s[k]).toNat_lt
      have HS := Lib.hid (SchStep.of s k d hlt hR.out hd)
      clear hd
      have hcases : (97 ≤ d ∧ d ≤ 122) ∨ 122 < d ∨ (58 < d ∧ d < 97) ∨ d = 58 ∨ (48 ≤ d ∧ d ≤ 57) ∨ d = 47 ∨ d = 46 ∨ d = 45 ∨ d = 44 ∨ d = 43 ∨ d < 43 := by omega
      rcases Nat.eq_zero_or_pos k with hk0 | hk0
      · subst hk0
        rcases hcases with ⟨h, h2⟩ | h | ⟨h, h2⟩ | rfl | ⟨h, h2⟩ | rfl | rfl | rfl | rfl | rfl | h
        · have HF := Lib.hid (HS.out.yes (by simp; omega))
          have t58 : ((d : Int) == 58) = false := by rw [beq_eq_false_iff_ne]; omega
          go_wp2_with (go_at_call 73; refine (rsmall_any _ _ HD _).mono ?_; rintro e w' ⟨rfl, rfl⟩)
          go_round
          case rel => exact ⟨rfl, rfl, 1, by go_num, HF⟩
          case measure => simp [intOf]; omega
        · have HF := Lib.hid (HS.out.no (by simp; omega) (by omega))
          have t58 : ((d : Int) == 58) = false := by rw [beq_eq_false_iff_ne]; omega
          go_wp2_with (go_at_call 73; refine (rsmall_any _ _ HD _).mono ?_; rintro e w' ⟨rfl, rfl⟩)
          go_ret2
          exact ⟨by rw [HF.out]; rfl, Below.refl _ _⟩
        · have HF := Lib.hid (HS.out.no (by simp; omega) (by omega))
          have t58 : ((d : Int) == 58) = false := by rw [beq_eq_false_iff_ne]; omega
          go_wp2_with (go_at_call 73; refine (rsmall_any _ _ HD _).mono ?_; rintro e w' ⟨rfl, rfl⟩)
          go_ret2
          exact ⟨by rw [HF.out]; rfl, Below.refl _ _⟩
        · have HF := Lib.hid (HS.out.no (by simp) (by simp))
          go_wp2_with (go_at_call 73; refine (rsmall_any _ _ HD _).mono ?_; rintro e w' ⟨rfl, rfl⟩)
          go_ret2
          exact ⟨by rw [HF.out]; rfl, Below.refl _ _⟩
        · have HF := Lib.hid (HS.out.no (by simp; omega) (by omega))
          have t58 : ((d : Int) == 58) = false := by rw [beq_eq_false_iff_ne]; omega
          go_wp2_with (go_at_call 73; refine (rsmall_any _ _ HD _).mono ?_; rintro e w' ⟨rfl, rfl⟩)
          go_ret2
          exact ⟨by rw [HF.out]; rfl, Below.refl _ _⟩
        all_goals
          have HF := Lib.hid (HS.out.no (by simp; try omega) (by omega))
          try have t58 : ((d : Int) == 58) = false := by rw [beq_eq_false_iff_ne]; omega
          go_wp2_with (go_at_call 73; refine (rsmall_any _ _ HD _).mono ?_; rintro e w' ⟨rfl, rfl⟩)
          go_ret2
          exact ⟨by rw [HF.out]; rfl, Below.refl _ _⟩
      · rcases hcases with ⟨h, h2⟩ | h | ⟨h, h2⟩ | rfl | ⟨h, h2⟩ | rfl | rfl | rfl | rfl | rfl | h
        · have HF := Lib.hid (HS.out.yes (by simp; omega))
          have t58 : ((d : Int) == 58) = false := by rw [beq_eq_false_iff_ne]; omega
          go_wp2_with (go_at_call 73; refine (rsmall_any _ _ HD _).mono ?_; rintro e w' ⟨rfl, rfl⟩)
          go_round
          case rel => exact ⟨rfl, rfl, k + 1, by go_num, HF⟩
          case measure => simp [intOf]; omega
        · have HF := Lib.hid (HS.out.no (by simp; omega) (by omega))
          have t58 : ((d : Int) == 58) = false := by rw [beq_eq_false_iff_ne]; omega
          have t43 : ((d : Int) == 43) = false := by rw [beq_eq_false_iff_ne]; omega
          have t45 : ((d : Int) == 45) = false := by rw [beq_eq_false_iff_ne]; omega
          have t46 : ((d : Int) == 46) = false := by rw [beq_eq_false_iff_ne]; omega
          go_wp2_with (go_at_call 73; refine (rsmall_any _ _ HD _).mono ?_; rintro e w' ⟨rfl, rfl⟩)
          go_ret2
          exact ⟨by rw [HF.out]; rfl, Below.refl _ _⟩
        · have HF := Lib.hid (HS.out.no (by simp; omega) (by omega))
          have t58 : ((d : Int) == 58) = false := by rw [beq_eq_false_iff_ne]; omega
          have t43 : ((d : Int) == 43) = false := by rw [beq_eq_false_iff_ne]; omega
          have t45 : ((d : Int) == 45) = false := by rw [beq_eq_false_iff_ne]; omega
          have t46 : ((d : Int) == 46) = false := by rw [beq_eq_false_iff_ne]; omega
          go_wp2_with (go_at_call 73; refine (rsmall_any _ _ HD _).mono ?_; rintro e w' ⟨rfl, rfl⟩)
          go_ret2
          exact ⟨by rw [HF.out]; rfl, Below.refl _ _⟩
        · have HF := Lib.hid (HS.out.colon rfl hk0)
          have hxs : (s.extract 0 k).size ≤ 140737488355328 := by rw [ByteArray.size_extract]; omega
          have L := rlower_any (s.extract 0 k) hxs w
          rw [extract_take s k (by omega)] at L
          have HL := Lib.hid L
          clear L hxs
          go_wp2_with (go_at_call 73; refine (rsmall_any _ _ HD _).mono ?_; rintro e w' ⟨rfl, rfl⟩)
          refine HL.out.mono ?_
          rintro e W2 ⟨rfl, B2⟩
          have HB2 := Lib.hid B2
          clear B2
          go_wp2
          go_ret2
          exact ⟨by rw [HF.out]; rfl, HB2.out⟩
        · have HF := Lib.hid (HS.out.yes (by simp; omega))
          have t58 : ((d : Int) == 58) = false := by rw [beq_eq_false_iff_ne]; omega
          go_wp2_with (go_at_call 73; refine (rsmall_any _ _ HD _).mono ?_; rintro e w' ⟨rfl, rfl⟩)
          go_round
          case rel => exact ⟨rfl, rfl, k + 1, by go_num, HF⟩
          case measure => simp [intOf]; omega
        · have HF := Lib.hid (HS.out.no (by simp) (by omega))
          go_wp2_with (go_at_call 73; refine (rsmall_any _ _ HD _).mono ?_; rintro e w' ⟨rfl, rfl⟩)
          go_ret2
          exact ⟨by rw [HF.out]; rfl, Below.refl _ _⟩
        · have HF := Lib.hid (HS.out.yes (by simp; omega))
          go_wp2_with (go_at_call 73; refine (rsmall_any _ _ HD _).mono ?_; rintro e w' ⟨rfl, rfl⟩)
          go_round
          case rel => exact ⟨rfl, rfl, k + 1, by go_num, HF⟩
          case measure => simp [intOf]; omega
        · have HF := Lib.hid (HS.out.yes (by simp; omega))
          go_wp2_with (go_at_call 73; refine (rsmall_any _ _ HD _).mono ?_; rintro e w' ⟨rfl, rfl⟩)
          go_round
          case rel => exact ⟨rfl, rfl, k + 1, by go_num, HF⟩
          case measure => simp [intOf]; omega
        · have HF := Lib.hid (HS.out.no (by simp) (by omega))
          go_wp2_with (go_at_call 73; refine (rsmall_any _ _ HD _).mono ?_; rintro e w' ⟨rfl, rfl⟩)
          go_ret2
          exact ⟨by rw [HF.out]; rfl, Below.refl _ _⟩
        · have HF := Lib.hid (HS.out.yes (by simp; omega))
          go_wp2_with (go_at_call 73; refine (rsmall_any _ _ HD _).mono ?_; rintro e w' ⟨rfl, rfl⟩)
          go_round
          case rel => exact ⟨rfl, rfl, k + 1, by go_num, HF⟩
          case measure => simp [intOf]; omega
        · have HF := Lib.hid (HS.out.no (by simp; omega) (by omega))
          have t58 : ((d : Int) == 58) = false := by rw [beq_eq_false_iff_ne]; omega
          have t43 : ((d : Int) == 43) = false := by rw [beq_eq_false_iff_ne]; omega
          have t45 : ((d : Int) == 45) = false := by rw [beq_eq_false_iff_ne]; omega
          have t46 : ((d : Int) == 46) = false := by rw [beq_eq_false_iff_ne]; omega
          go_wp2_with (go_at_call 73; refine (rsmall_any _ _ HD _).mono ?_; rintro e w' ⟨rfl, rfl⟩)
          go_ret2
          exact ⟨by rw [HF.out]; rfl, Below.refl _ _⟩
    · have hX : schemeV s.data.toList = .tuple #[.string ⟨#[]⟩, .bool false] := schemeV_none (scheme_end _ (fun j c hj hc => sch_hyp hR.out j c (by have : s.data.toList.length = s.size := rfl; omega) hc))
      have HX := Lib.hid hX
      clear hX
      go_wp2
      go_ret2
      exact ⟨by rw [HX.out]; rfl, Below.refl _ _⟩
end Go.Proofs.YtcfgbdhpcboikaaGreatDoor

namespace Go.Proofs.YtcfgbdhpcboikaaGreatDoor
open Go.RowKit

def bareP (b : UInt8) : Bool := b != 9 && b != 10
structure BareAt (t : List UInt8) (k : Nat) (bs : List UInt8) : Prop where
  le : k ≤ t.length
  len : bs.length ≤ k
  out : bs = (t.take k).filter bareP
theorem BareAt.start (t : List UInt8) : BareAt t 0 [] := ⟨Nat.zero_le _, Nat.le_refl _, rfl⟩
theorem BareAt.yes {t : List UInt8} {k : Nat} {bs : List UInt8} (h : BareAt t k bs) (hk : k < t.length) (hr : bareP t[k] = true) : BareAt t (k + 1) (bs ++ [t[k]]) := by
  refine ⟨hk, ?_, ?_⟩
  · have := h.len; simp; omega
  · rw [List.take_succ_eq_append_getElem hk, List.filter_append, ← h.out]; simp [hr]
theorem BareAt.no {t : List UInt8} {k : Nat} {bs : List UInt8} (h : BareAt t k bs) (hk : k < t.length) (hr : bareP t[k] = false) : BareAt t (k + 1) bs := by
  refine ⟨hk, ?_, ?_⟩
  · have := h.len; omega
  · rw [List.take_succ_eq_append_getElem hk, List.filter_append, ← h.out]; simp [hr]
theorem byte_u8 (c : UInt8) (n : Nat) (h : c.toNat = n) (hn : n < 256) : c = UInt8.ofNat n := UInt8.toNat_inj.1 (by rw [h]; simp; omega)
structure LowAt (O : List UInt8) (f : Nat) : Prop where
  le : f ≤ O.length
  low : ∀ j b, j < f → O[j]? = some b → b.toNat ≤ 32
theorem LowAt.next {O : List UInt8} {f : Nat} (h : LowAt O f) (hf : f < O.length) (hb : O[f].toNat ≤ 32) : LowAt O (f + 1) := by
  refine ⟨hf, fun j b hj he => ?_⟩
  rcases Nat.lt_or_ge j f with h1 | h1
  · exact h.low j b h1 he
  · obtain rfl : j = f := by omega
    rw [List.getElem?_eq_getElem hf] at he
    cases he
    exact hb
structure HighAt (O : List UInt8) (f t : Nat) : Prop where
  ge : f ≤ t
  le : t ≤ O.length
  low : ∀ j b, t ≤ j → O[j]? = some b → b.toNat ≤ 32
theorem HighAt.start {O : List UInt8} {f : Nat} (h : f ≤ O.length) : HighAt O f O.length := ⟨h, Nat.le_refl _, fun j b hj he => by rw [List.getElem?_eq_none hj] at he; cases he⟩
theorem HighAt.next {O : List UInt8} {f t : Nat} (h : HighAt O f (t + 1)) (hf : f < t + 1) (hb : ∀ ht : t < O.length, O[t].toNat ≤ 32) : HighAt O f t := by
  have hle := h.le
  refine ⟨by omega, by omega, fun j b hj he => ?_⟩
  rcases Nat.lt_or_ge t j with h1 | h1
  · exact h.low j b h1 he
  · obtain rfl : j = t := by omega
    rw [List.getElem?_eq_getElem (by omega)] at he
    cases he
    exact hb (by omega)
theorem link_found (L : List UInt8) (f t : Nat) (hl : LowAt (bareL L) f) (hh : HighAt (bareL L) f t) (h1 : ∀ h : f < (bareL L).length, 32 < (bareL L)[f].toNat) (h2 : f < t → ∀ h : t - 1 < (bareL L).length, 32 < (bareL L)[t - 1].toNat) :
    linkL L = ((bareL L).drop f).take (t - f) := by
  have e : ((bareL L).drop f).take (t - f) = ((bareL L).take t).drop f := by
    rw [List.drop_take]
  rw [e]
  have hle := hh.le
  have hge := hh.ge
  refine trim_found (bareL L) f t (bare_low L) hge hle hl.low (fun hft => ?_) hh.low (fun hft => ?_) (fun hft => ?_)
  · exact ⟨_, List.getElem?_eq_getElem (by omega), h1 (by omega)⟩
  · exact ⟨_, List.getElem?_eq_getElem (by omega), h2 hft (by omega)⟩
  · rcases Nat.lt_or_ge f (bareL L).length with h | h
    · have a := h1 h
      have b := hh.low f _ (by omega) (List.getElem?_eq_getElem h)
      omega
    · omega
theorem BytesAt.isB {w : World} {g off : Nat} {L : List UInt8} (h : BytesAt w g off L) : IsB w (some ⟨g, off, none⟩) L := by
  intro j b hb
  have hj : j < L.length := (List.getElem?_eq_some_iff.1 hb).1
  rw [List.getElem?_eq_getElem hj] at hb
  cases hb
  refine ⟨_, rfl, ?_⟩
  have hadd : (⟨g, off, none⟩ : Addr).add j = ⟨g, off + j, none⟩ := by unfold Addr.add; split <;> simp_all
  rw [hadd]
  exact h j hj
theorem byteV_eq (b : UInt8) : byteV b = .int .u8 b.toNat := rfl
set_option maxRecDepth 100000 in
set_option maxHeartbeats 4000000 in
theorem rlink_any (s : ByteArray) (hs : s.size ≤ 1000000000) (w : World) : Calls Tryz.prog 35 #[.string s] w fun e w' => e = .returned (.string ⟨(linkL s.data.toList).toArray⟩) ∧ Below w.heap.size w w' := by
  obtain ⟨i0, hi, hz0, hz1, hz2⟩ := info_parts Tryz.info5
  have HTX := Lib.hid (rtext_any s hs w)
  have htl := text_size s.data.toList
  have hsl : s.data.toList.length = s.size := rfl
  have hbl := bare_filter s.data.toList
  have HLF := Lib.hid (link_found s.data.toList)
  obtain ⟨t, ht⟩ : ∃ t : ByteArray, t = ⟨(textL s.data.toList).toArray⟩ := ⟨_, rfl⟩
  have htt : t.data.toList = textL s.data.toList := by rw [ht]
  have htz : t.size ≤ 3000000000 := by rw [ht, bytes_size]; omega
  rw [← ht] at HTX
  rw [← htt] at hbl
  have HBL := Lib.hid hbl
  clear htl hsl hbl htt ht
  generalize bareL s.data.toList = O at *
  go_enter Tryz.func35, Tryz.ntmps35
  go_wp2_with fail
  refine HTX.out.mono ?_
  rintro e W1 ⟨rfl, B1⟩
  have HB1 := Lib.hid B1
  clear B1
  go_wp2
  go_loopw [4, 5] (fun o i wx => ∃ (k : Nat) (bs : List UInt8), i = .int .i64 k ∧ Hid (BareAt t.data.toList k bs) ∧ Hid (OwnV W1.heap.size 5 1 o bs.length (bs.map byteV) W1 wx)) (fun _ i _ => t.size - (intOf i).toNat)
  case atStart => exact ⟨0, [], rfl, Lib.hid (BareAt.start _), Lib.hid (OwnV.nil W1 5 1)⟩
  case round =>
    obtain ⟨k, bs, rfl, hK, hO⟩ := hrel
    have hkl := hK.out.len
    have hkt : k ≤ t.size := hK.out.le
    rcases Nat.lt_or_ge k t.size with hlt | hge
    · have HY := Lib.hid (hK.out.yes hlt)
      have HN := Lib.hid (hK.out.no hlt)
      have e : t.data.toList[k]'hlt = t[k] := rfl
      rw [e] at HY HN
      have hb8 := t[k].toNat_lt
      by_cases h9 : t[k].toNat = 9
      · have HF := Lib.hid (HN.out (by rw [byte_u8 _ _ h9 (by omega)]; rfl))
        have t1 : ((t[k].toNat : Int) == 9) = true := by rw [h9]; rfl
        have t1' : ((t[k].toNat : Int) != 9) = false := by rw [h9]; rfl
        clear h9
        go_wp2
        go_roundw
        case rel => exact ⟨k + 1, bs, by go_num, HF, hO⟩
        case measure => simp [intOf]; omega
      · have t1 : ((t[k].toNat : Int) == 9) = false := by rw [beq_eq_false_iff_ne]; omega
        have t1' : ((t[k].toNat : Int) != 9) = true := by rw [bne_iff_ne]; omega
        by_cases h10 : t[k].toNat = 10
        · have HF := Lib.hid (HN.out (by rw [byte_u8 _ _ h10 (by omega)]; rfl))
          have t2 : ((t[k].toNat : Int) == 10) = true := by rw [h10]; rfl
          have t2' : ((t[k].toNat : Int) != 10) = false := by rw [h10]; rfl
          clear h9 h10
          go_wp2
          go_roundw
          case rel => exact ⟨k + 1, bs, by go_num, HF, hO⟩
          case measure => simp [intOf]; omega
        · have t2 : ((t[k].toNat : Int) == 10) = false := by rw [beq_eq_false_iff_ne]; omega
          have t2' : ((t[k].toNat : Int) != 10) = true := by rw [bne_iff_ne]; omega
          have HF := Lib.hid (HY.out (by
            unfold bareP
            rw [Bool.and_eq_true, bne_iff_ne, bne_iff_ne]
            exact ⟨fun e => h9 (by rw [e]; rfl), fun e => h10 (by rw [e]; rfl)⟩))
          clear h9 h10
          go_wp2_with (at_builtin; refine wpList_append_one (by rfl) _ _ 35 (by rfl) 5 i0 (.int .u8 0) 1 1 Tryz.underlying35 hi hz0 hz1 hz2 rfl (by decide) _ _ _ rfl hO.out #[.int .u8 t[k].toNat] rfl rfl rfl rfl (by omega) (by omega) ?_)
          intro v' w' hO' _
          go_wp2
          go_roundw
          case rel => exact ⟨k + 1, bs ++ [t[k]], by go_num, HF, Lib.hid (hO'.out.cast (by simp) (by simp [byteV]))⟩
          case measure => simp [intOf]; omega
    · have hX : bs = O := by
        have := hK.out.out
        rw [List.take_of_length_le (by exact hge)] at this
        rw [this, HBL.out]
        rfl
      subst hX
      have HB2 := Lib.hid (HB1.out.trans (hO.out.bel.mono HB1.out.size))
      obtain ⟨a, c, rfl, hac, _⟩ := hO.out.slice
      have HI := Lib.hid (hO.out.isB rfl)
      have HV := Lib.hid hO.out.vec
      go_wp2
      go_loop [6] (fun x => ∃ f : Nat, x = .int .i64 f ∧ Hid (LowAt bs f)) (fun x => bs.length - (intOf x).toNat)
      case atStart => exact ⟨0, rfl, Lib.hid ⟨Nat.zero_le _, fun j b hj => absurd hj (by omega)⟩⟩
      case round =>
        obtain ⟨f, rfl, hF⟩ := hrel
        have hfl := hF.out.le
        rcases Nat.lt_or_ge f bs.length with hlt | hge'
        · obtain ⟨g, off, c', hva, hcell⟩ := HV.out.get f (by simpa using hlt)
          simp only [Value.slice.injEq, true_and] at hva
          obtain ⟨rfl, rfl⟩ := hva
          rw [List.getElem_map, byteV_eq] at hcell
          have hb8 := bs[f].toNat_lt
          have HFN := Lib.hid (hF.out.next hlt)
          have HFX := Lib.hid (fun (hh : 32 < bs[f].toNat) => (fun _ => hh : ∀ h : f < bs.length, 32 < bs[f].toNat))
          have HBF : Hid (∀ h : f < bs.length, bs[f] = bs[f]) := fun _ => rfl
          obtain ⟨bf, hbf⟩ : ∃ bf, bs[f].toNat = bf := ⟨_, rfl⟩
          have HBFE := Lib.hid hbf
          rw [hbf] at hcell hb8
          clear hbf
          rcases Nat.lt_or_ge 32 bf with hhi | hlo
          · have HG := Lib.hid (HFX.out (by rw [HBFE.out]; exact hhi))
            have HBY : Hid (BytesAt wr g off bs) := by
              intro j hj
              obtain ⟨g', off', c'', hva', hcell'⟩ := HV.out.get j (by simpa using hj)
              simp only [Value.slice.injEq, Option.some.injEq, Addr.mk.injEq, true_and, and_true] at hva'
              obtain ⟨⟨rfl, rfl⟩, _⟩ := hva'
              rw [List.getElem_map, byteV_eq] at hcell'
              exact hcell'
            go_wp2
            go_loop [7] (fun x => ∃ u : Nat, x = .int .i64 u ∧ Hid (HighAt bs f u)) (fun x => (intOf x).toNat)
            case atStart => exact ⟨bs.length, rfl, Lib.hid (HighAt.start hfl)⟩
            case round =>
              obtain ⟨u, rfl, hU⟩ := hrel
              have hul := hU.out.le
              have huf : f < u := by
                rcases Nat.lt_or_ge f u with h | h
                · exact h
                · have := hU.out.low f _ h (List.getElem?_eq_getElem hlt)
                  have := HG.out hlt
                  omega
              obtain ⟨q, rfl⟩ : ∃ q, u = q + 1 := ⟨u - 1, by omega⟩
              have hcq := HBY.out q (by omega)
              have hq8 := (bs[q]'(by omega)).toNat_lt
              obtain ⟨bq, hbq⟩ : ∃ bq, (bs[q]'(by omega)).toNat = bq := ⟨_, rfl⟩
              have HBQ := Lib.hid hbq
              rw [hbq] at hcq hq8
              clear hbq
              rcases Nat.lt_or_ge 32 bq with hqh | hql
              · have HR := Lib.hid (HLF.out f (q + 1) hF.out hU.out HG.out (fun _ _ => by simp only [Nat.add_sub_cancel]; rw [HBQ.out]; exact hqh))
                have hsl := slice_eq g off c f (q + 1) bs.length (by omega) (by omega) (by omega) wr
                have hcv := run_convB (P := Tryz.prog) wr 35 5 9 Tryz.underlying35 Tryz.underlying5 Tryz.underlying9 (some ⟨g, off + f, none⟩) ((bs.drop f).take (q + 1 - f)) (q + 1 - f) (c - f) (by rw [List.length_take, List.length_drop]; omega) (HBY.out.cut f (q + 1 - f)).isB
                rw [Int.natCast_add] at hsl
                go_wp2
                go_ret
                refine ⟨?_, HB2.out⟩
                rw [HR.out]
                rfl
              · have HN := Lib.hid (hU.out.next huf (fun _ => by rw [HBQ.out]; exact hql))
                go_wp2
                go_round
                case rel => exact ⟨q, by go_num, HN⟩
                case measure => simp [intOf]
          · have HN := Lib.hid (HFN.out (by rw [HBFE.out]; exact hlo))
            go_wp2
            go_round
            case rel => exact ⟨f + 1, by go_num, HN⟩
            case measure => simp [intOf]; omega
        · obtain rfl : f = bs.length := by omega
          have HR := Lib.hid (HLF.out bs.length bs.length hF.out ⟨Nat.le_refl _, Nat.le_refl _, fun j b hj he => by rw [List.getElem?_eq_none hj] at he; cases he⟩ (fun h => absurd h (Nat.lt_irrefl _)) (fun h => absurd h (Nat.lt_irrefl _)))
          have hsl := run_cut_lh 35 5 Tryz.underlying35 (by kernel_rfl) wr a bs.length c bs.length bs.length (Nat.le_refl _) hac
          generalize (if c = bs.length then a else a.map (·.add bs.length)) = a' at hsl
          rw [Nat.sub_self] at hsl
          have hcv := run_convB (P := Tryz.prog) wr 35 5 9 Tryz.underlying35 Tryz.underlying5 Tryz.underlying9 a' [] 0 (c - bs.length) rfl (IsB.nil _ _)
          go_wp2
          go_loop [7] (fun x => x = .int .i64 bs.length) (fun _ => 0)
          case atStart => rfl
          case round =>
            subst hrel
            go_wp2
            go_ret
            refine ⟨?_, HB2.out⟩
            rw [HR.out]
            simp
end Go.Proofs.YtcfgbdhpcboikaaGreatDoor
