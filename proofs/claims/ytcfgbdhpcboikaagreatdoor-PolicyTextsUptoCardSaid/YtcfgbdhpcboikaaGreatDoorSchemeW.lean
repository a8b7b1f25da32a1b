/-
  policy.small and Scheme: what they answer.
-/
import Derived.Test.YtcfgbdhpcboikaaGreatDoorLinkW
import Derived.Laws.IdiomStrings
namespace Go.Proofs.YtcfgbdhpcboikaaGreatDoor
open Go.RowKit

def SmallAt (L : List UInt8) (B k : Nat) (w wx : World) : Prop := k ≤ L.length ∧ RowAt wx B (smallL (L.take k) ++ L.drop k) ∧ Below B w wx
theorem small_len (L : List UInt8) (k : Nat) (h : k ≤ L.length) : (smallL (L.take k) ++ L.drop k).length = L.length := by
  unfold smallL
  simp
  omega
theorem small_at (L : List UInt8) (k : Nat) (h : k < L.length) : (smallL (L.take k) ++ L.drop k)[k]'(by rw [small_len L k (by omega)]; exact h) = L[k] := by
  have hl : (smallL (L.take k)).length = k := by unfold smallL; simp; omega
  rw [List.getElem_append_right (by omega)]
  simp [hl]
theorem small_step (L : List UInt8) (k : Nat) (h : k < L.length) : (smallL (L.take k) ++ L.drop k).set k (smallB L[k]) = smallL (L.take (k + 1)) ++ L.drop (k + 1) := by
  have hl : (smallL (L.take k)).length = k := by unfold smallL; simp; omega
  rw [List.set_append_right _ _ (by omega), hl, Nat.sub_self, List.drop_eq_getElem_cons h, List.set_cons_zero, List.take_succ_eq_append_getElem h]
  unfold smallL
  rw [List.map_append, List.map_cons, List.map_nil, List.append_assoc, List.singleton_append]
theorem small_keep (L : List UInt8) (k : Nat) (h : k < L.length) (hs : smallB L[k] = L[k]) : smallL (L.take k) ++ L.drop k = smallL (L.take (k + 1)) ++ L.drop (k + 1) := by
  rw [← small_step L k h, hs]
  have := small_at L k h
  conv => rhs; rw [← this]
  rw [List.set_getElem_self]
theorem small_cell (L : List UInt8) (B k : Nat) (w wx : World) (h : SmallAt L B k w wx) (hk : k < L.length) : ∃ c : UInt8, wx.cell? ⟨B, k, none⟩ = some (.int .u8 (c.toNat : Nat)) ∧ wx.frozen? ⟨B, k, none⟩ = false ∧
    (smallB c = c → SmallAt L B (k + 1) w wx) ∧ (∀ v, v = .int .u8 ((smallB c).toNat : Nat) → SmallAt L B (k + 1) w (wx.setCell ⟨B, k, none⟩ v)) := by
  obtain ⟨h1, h2, h3⟩ := h
  have hl := small_len L k h1
  refine ⟨L[k], ?_, h2.free (by omega), fun e => ⟨hk, by rw [← small_keep L k hk e]; exact h2, h3⟩, fun v hv => ⟨hk, ?_, h3.setCell (p := ⟨B, k, none⟩) (Nat.le_refl _) _⟩⟩
  · have := h2.bytes k (by omega)
    rw [small_at L k hk, Nat.zero_add] at this
    exact this
  · rw [← small_step L k hk]
    exact h2.set k (by omega) _ v hv
set_option maxRecDepth 100000 in
set_option maxHeartbeats 1000000 in
theorem small_any (s : ByteArray) (hs : s.size ≤ 140737488355328) (w : World) : Calls Tryz.prog 72 #[.string s] w fun e w' => e = .returned (.string ⟨(smallL s.data.toList).toArray⟩) ∧ Below w.heap.size w w' := by
  obtain ⟨cap, W, hrun, hb, hrow, hcap⟩ := conv_row s w
  have H0 : Hid (SmallAt s.data.toList w.heap.size 0 w W) := ⟨Nat.zero_le _, hrow, hb⟩
  have HC := Lib.hid hcap
  clear hb hrow hcap
  go_enter Tryz.func72, Tryz.ntmps72
  go_wp2
  go_loopw [10] (fun i wx => ∃ k : Nat, i = .int .i64 k ∧ Hid (SmallAt s.data.toList w.heap.size k w wx)) (fun i _ => s.size - (intOf i).toNat)
  case atStart => exact ⟨0, rfl, H0⟩
  case round =>
    obtain ⟨k, rfl, hR⟩ := hrel
    rcases Nat.lt_or_ge k s.size with hlt | hge
    · obtain ⟨c, hcell, hfree, h1, h2⟩ := small_cell _ _ _ _ _ hR.out hlt
      have H1 := Lib.hid h1
      have H2 := Lib.hid h2
      have hb8 := c.toNat_lt
      have HN := Lib.hid (smallB_nat c)
      clear h1 h2
      by_cases hc : 65 ≤ c.toNat ∧ c.toNat ≤ 90
      · have hc1 : 65 ≤ c.toNat := hc.1
        have hc2 : c.toNat ≤ 90 := hc.2
        have l1 : decide (65 ≤ (c.toNat : Int)) = true := by simp; omega
        have l2 : decide ((c.toNat : Int) ≤ 90) = true := by simp; omega
        have HE : Hid ((smallB c).toNat = c.toNat + 32) := by
          show _ = _
          rw [HN.out, if_pos hc]
        clear hc
        go_wp2
        refine ⟨⟨k + 1, by congr 1, H2.out _ (by rw [HE.out]; congr 1)⟩, ?_⟩
        simp [intOf]; omega
      · have HE : Hid (smallB c = c) := by
          show _ = _
          apply UInt8.toNat_inj.1
          rw [HN.out, if_neg hc]
        rcases Nat.lt_or_ge c.toNat 65 with hc1 | hc1
        · have l1 : decide (65 ≤ (c.toNat : Int)) = false := by simp; omega
          clear hc
          go_wp2
          refine ⟨⟨k + 1, by congr 1, H1.out HE.out⟩, ?_⟩
          simp [intOf]; omega
        · have l1 : decide (65 ≤ (c.toNat : Int)) = true := by simp; omega
          have l2 : decide ((c.toNat : Int) ≤ 90) = false := by simp; omega
          clear hc
          go_wp2
          refine ⟨⟨k + 1, by congr 1, H1.out HE.out⟩, ?_⟩
          simp [intOf]; omega
    · have hR2 := hR.out.2.1
      have hk : k = s.data.toList.length := Nat.le_antisymm hR.out.1 hge
      rw [hk, List.take_length, List.drop_length, List.append_nil] at hR2
      have hlen : (smallL s.data.toList).length = s.size := by unfold smallL; simp
      have hcv : (convert 35 9 (.slice (some ⟨w.heap.size, 0, none⟩) s.size cap)).run Tryz.prog wr = .ok (.string ⟨(smallL s.data.toList).toArray⟩) wr := by
        rw [← hlen]
        refine run_convert_bytes_back wr 35 9 5 _ cap _ Tryz.underlying35 Tryz.underlying5 Tryz.underlying9 ?_
        intro j hj
        have hadd : (⟨w.heap.size, 0, none⟩ : Addr).add j = ⟨w.heap.size, 0 + j, none⟩ := by unfold Addr.add; split <;> simp_all
        rw [hadd]
        exact hR2.bytes j hj
      clear hR2 hlen hk
      go_wp2
      go_ret
      exact ⟨rfl, hR.out.2.2⟩
end Go.Proofs.YtcfgbdhpcboikaaGreatDoor
