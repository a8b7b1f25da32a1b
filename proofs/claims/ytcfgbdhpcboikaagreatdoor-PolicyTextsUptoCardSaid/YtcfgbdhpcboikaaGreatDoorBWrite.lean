/-
  strings.Builder's Write: bytes of a slice that lies below the builder.
-/
import Derived.Test.YtcfgbdhpcboikaaGreatDoorShelfB
import Derived.Test.YtcfgbdhpcboikaaGreatDoorLookW
import Derived.Lib.FrozenHead2
namespace Go.Proofs.YtcfgbdhpcboikaaGreatDoor
open Go.RowKit

theorem Tryz.info5 : (Tryz.prog.info? 5).map (fun i => (i.zero, i.size, i.bytes)) = some (some (.int .u8 0), 1, 1) := by kernel_rfl
theorem BytesAt.below {w w' : World} {g off B : Nat} {L : List UInt8} (h : BytesAt w g off L) (hb : Below B w w') (hg : g < B) : BytesAt w' g off L := by
  intro j hj
  rw [hb.cell (p := ⟨g, off + j, none⟩) hg]
  exact h j hj
theorem BytesAt.news {w : World} {g off : Nat} {L : List UInt8} (h : BytesAt w g off L) : ∀ j u, (Lib.byteCells L)[j]? = some u → w.cell? ((⟨g, off, none⟩ : Addr).add j) = some u := by
  intro j u hu
  unfold Lib.byteCells at hu
  rw [List.getElem?_map] at hu
  rcases Nat.lt_or_ge j L.length with hj | hj
  · rw [List.getElem?_eq_getElem hj] at hu
    simp at hu
    have hadd : (⟨g, off, none⟩ : Addr).add j = ⟨g, off + j, none⟩ := by unfold Addr.add; split <;> simp_all
    rw [hadd, h j hj, hu]
  · rw [List.getElem?_eq_none hj] at hu
    simp at hu
theorem byteCells_one (L : List UInt8) : ∀ u ∈ Lib.byteCells L, u.oneCell' = true := by
  intro u hu
  unfold Lib.byteCells at hu
  obtain ⟨b, _, rfl⟩ := List.mem_map.1 hu
  rfl
theorem byteCells_len (L : List UInt8) : (Lib.byteCells L).length = L.length := by unfold Lib.byteCells; simp
set_option maxRecDepth 100000 in
set_option maxHeartbeats 1000000 in
theorem bwrite (B b : Nat) (bs : List Value) (g off cap n : Nat) (L : List UInt8) (hn : L.length = n) (w : World) (h : Lib.IsBuilderF 112 5 B b bs w) (hsrc : Hid (BytesAt w g off L)) (hgB : g < B) (hlen : bs.length + L.length ≤ 140737488355328) (hBw : B ≤ w.heap.size) :
    Calls Tryz.prog 130 #[.pointer (some ⟨b, 0, none⟩), .slice (some ⟨g, off, none⟩) n cap] w fun e w' => e = .returned (.tuple #[.int .i64 n, .nilIface]) ∧ (Lib.BuilderAtF 112 5 B b (.pointer (some ⟨b, 0, none⟩)) (bs ++ Lib.byteCells L) w' ∧ Below B w w' ∧ Lib.OthersKept 5 (some b) w w') := by
  subst hn
  obtain ⟨i0, hi, hz0, hz1, hz2⟩ := info_parts Tryz.info5
  go_enter Tryz.func130, Tryz.ntmps130
  go_wp2_with (go_at_call 156; refine (Tryz.Builder_copyCheck_k B b bs _ h).mono ?_)
  rintro e w1 ⟨rfl, h1, hb1, hk1⟩
  obtain ⟨hB, v, hbk, hown, hne⟩ := h1
  have hs1 : Hid (BytesAt w1 g off L) := hsrc.out.below hb1 hgB
  have c0 : w1.cell? ⟨b, 0, none⟩ = some (.pointer (some ⟨b, 0, none⟩)) := by rw [Lib.cell_of_heap hbk]; rfl
  have c1 : w1.cell? ⟨b, 1, none⟩ = some v := by rw [Lib.cell_of_heap hbk]; rfl
  go_wp2_with (at_builtin; refine wpList_append_ownF _ rfl _ _ 35 rfl B 5 i0 (.int .u8 0) 1 1 Tryz.underlying35 hi hz0 hz1 hz2 rfl (by decide) _ _ _ rfl hown ⟨g, off, none⟩ L.length cap (Lib.byteCells L) rfl ?c1 hs1.out.news (byteCells_one L) ?c3 ?c4 ?c5 ?_)
  case c1 => rw [byteCells_len, Nat.mul_one]
  case c3 => unfold maxLen; omega
  case c4 => omega
  case c5 => have := hb1.size; omega
  intro v' w2 hown' hgrow _
  have hlt : b < w1.heap.size := by
    rcases Nat.lt_or_ge b w1.heap.size with h' | h'
    · exact h'
    · simp [Array.getElem?_eq_none h'] at hbk
  have hb2 : w2.heap[b]? = some (.cells #[.pointer (some ⟨b, 0, none⟩), v] 112 (0, 0)) := by
    rw [hgrow.block b hlt (fun e => hne e.symm)]
    exact hbk
  have d0 : w2.cell? ⟨b, 0, none⟩ = some (.pointer (some ⟨b, 0, none⟩)) := by rw [Lib.cell_of_heap hb2]; rfl
  have d1 : w2.cell? ⟨b, 1, none⟩ = some v := by rw [Lib.cell_of_heap hb2]; rfl
  have f1 : w2.frozen? ⟨b, 1, none⟩ = false := Lib.frozen_of_heap hb2 1
  obtain ⟨ao, n', cap', rfl⟩ : ∃ ao n' cap, v' = .slice ao n' cap := by
    rcases hown'.2 with ⟨hv, _⟩ | ⟨g, cap, cur, fz, hv, _⟩
    · exact ⟨_, _, _, hv⟩
    · exact ⟨_, _, _, hv⟩
  go_wp2
  go_ret2
  refine ⟨rfl, ?_, ?_, (hk1.grown hgrow (Lib.ownsRowF_kind hown)).setCell ⟨b, 1, none⟩ rfl _⟩
  · exact Lib.BuilderAtF.put (T := 112) (e := 5) hB hb2 (bs' := bs ++ Lib.byteCells L) (by simpa [byteCells_len] using hown') (by decide)
  · exact (hb1.grown hgrow (by have := hb1.size; omega) (fun k hk => (hown.lt k hk).1)).setCell (p := ⟨b, 1, none⟩) hB _
end Go.Proofs.YtcfgbdhpcboikaaGreatDoor
