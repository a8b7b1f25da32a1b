/-
  The document's Kind, has: what they answer (printed by wip/gen/rk.py).
-/
import Derived.Test.YtcfgbdhpcboikaaGreatDoorRefIn
import Derived.Test.YtcfgbdhpcboikaaGreatDoorMayW
namespace Go.Proofs.YtcfgbdhpcboikaaGreatDoor
open Go.RowKit

def kindStr (j : Nat) : ByteArray := ⟨(kindLists.getD j []).toArray⟩
def KindsAt (w W : World) (b : Nat) : Prop := Below w.heap.size w W ∧ ∀ j, j < 15 → W.cell? ⟨b, j, none⟩ = some (.string (kindStr j))
theorem kinds_cells (w : World) (j : Nat) (h : j < 15) : (w.alloc (.cells (kindLists.map fun l => Value.string ⟨l.toArray⟩).toArray 9)).cell? ⟨w.heap.size, j, none⟩ = some (.string (kindStr j)) := by
  rw [cell_of_row _ w.heap.size j _ 9 (0, 0) (heap_alloc_new w _)]
  have : ∀ j < 15, (kindLists.map fun l => Value.string ⟨l.toArray⟩).toArray[j]? = some (Value.string (kindStr j)) := by
    intro j hj
    have hl : kindLists.length = 15 := rfl
    rw [List.getElem?_toArray, List.getElem?_map, List.getElem?_eq_getElem (by omega)]
    unfold kindStr
    simp [List.getD_eq_getElem?_getD, List.getElem?_eq_getElem (show j < kindLists.length by omega)]
  exact this j h
set_option maxRecDepth 100000 in
theorem kinds_any (w : World) : Calls Tryz.prog 68 #[] w fun e w' => e = .returned (.slice (some ⟨w.heap.size, 0, none⟩) 15 15) ∧ Hid (KindsAt w w' w.heap.size) := by
  go_enter Tryz.func68, Tryz.ntmps68
  go_wp2
  go_ret
  exact ⟨rfl, (Below.refl _ w).alloc (Nat.le_refl _) _, fun j hj => kinds_cells w j hj⟩

set_option maxRecDepth 100000 in
theorem has_0 (w : World) : Calls Tryz.prog 70 #[.int .i64 0] w fun e w' => e = .returned (.int .i64 0) ∧ w = w' := by
  go_enter Tryz.func70, Tryz.ntmps70
  go_wp2
  go_ret
  exact ⟨rfl, rfl⟩

set_option maxRecDepth 100000 in
theorem has_1 (w : World) : Calls Tryz.prog 70 #[.int .i64 1] w fun e w' => e = .returned (.int .i64 0) ∧ w = w' := by
  go_enter Tryz.func70, Tryz.ntmps70
  go_wp2
  go_ret
  exact ⟨rfl, rfl⟩

set_option maxRecDepth 100000 in
theorem has_2 (w : World) : Calls Tryz.prog 70 #[.int .i64 2] w fun e w' => e = .returned (.int .i64 765) ∧ w = w' := by
  go_enter Tryz.func70, Tryz.ntmps70
  go_wp2
  go_ret
  exact ⟨rfl, rfl⟩

set_option maxRecDepth 100000 in
theorem has_3 (w : World) : Calls Tryz.prog 70 #[.int .i64 3] w fun e w' => e = .returned (.int .i64 49) ∧ w = w' := by
  go_enter Tryz.func70, Tryz.ntmps70
  go_wp2
  go_ret
  exact ⟨rfl, rfl⟩

set_option maxRecDepth 100000 in
theorem has_4 (w : World) : Calls Tryz.prog 70 #[.int .i64 4] w fun e w' => e = .returned (.int .i64 49) ∧ w = w' := by
  go_enter Tryz.func70, Tryz.ntmps70
  go_wp2
  go_ret
  exact ⟨rfl, rfl⟩

set_option maxRecDepth 100000 in
theorem has_5 (w : World) : Calls Tryz.prog 70 #[.int .i64 5] w fun e w' => e = .returned (.int .i64 0) ∧ w = w' := by
  go_enter Tryz.func70, Tryz.ntmps70
  go_wp2
  go_ret
  exact ⟨rfl, rfl⟩

set_option maxRecDepth 100000 in
theorem has_6 (w : World) : Calls Tryz.prog 70 #[.int .i64 6] w fun e w' => e = .returned (.int .i64 0) ∧ w = w' := by
  go_enter Tryz.func70, Tryz.ntmps70
  go_wp2
  go_ret
  exact ⟨rfl, rfl⟩

set_option maxRecDepth 100000 in
theorem has_7 (w : World) : Calls Tryz.prog 70 #[.int .i64 7] w fun e w' => e = .returned (.int .i64 256) ∧ w = w' := by
  go_enter Tryz.func70, Tryz.ntmps70
  go_wp2
  go_ret
  exact ⟨rfl, rfl⟩

set_option maxRecDepth 100000 in
theorem has_8 (w : World) : Calls Tryz.prog 70 #[.int .i64 8] w fun e w' => e = .returned (.int .i64 765) ∧ w = w' := by
  go_enter Tryz.func70, Tryz.ntmps70
  go_wp2
  go_ret
  exact ⟨rfl, rfl⟩

set_option maxRecDepth 100000 in
theorem has_9 (w : World) : Calls Tryz.prog 70 #[.int .i64 9] w fun e w' => e = .returned (.int .i64 3072) ∧ w = w' := by
  go_enter Tryz.func70, Tryz.ntmps70
  go_wp2
  go_ret
  exact ⟨rfl, rfl⟩

set_option maxRecDepth 100000 in
theorem has_10 (w : World) : Calls Tryz.prog 70 #[.int .i64 10] w fun e w' => e = .returned (.int .i64 49) ∧ w = w' := by
  go_enter Tryz.func70, Tryz.ntmps70
  go_wp2
  go_ret
  exact ⟨rfl, rfl⟩

set_option maxRecDepth 100000 in
theorem has_11 (w : World) : Calls Tryz.prog 70 #[.int .i64 11] w fun e w' => e = .returned (.int .i64 4096) ∧ w = w' := by
  go_enter Tryz.func70, Tryz.ntmps70
  go_wp2
  go_ret
  exact ⟨rfl, rfl⟩

set_option maxRecDepth 100000 in
theorem has_12 (w : World) : Calls Tryz.prog 70 #[.int .i64 12] w fun e w' => e = .returned (.int .i64 8192) ∧ w = w' := by
  go_enter Tryz.func70, Tryz.ntmps70
  go_wp2
  go_ret
  exact ⟨rfl, rfl⟩

set_option maxRecDepth 100000 in
theorem has_13 (w : World) : Calls Tryz.prog 70 #[.int .i64 13] w fun e w' => e = .returned (.int .i64 765) ∧ w = w' := by
  go_enter Tryz.func70, Tryz.ntmps70
  go_wp2
  go_ret
  exact ⟨rfl, rfl⟩

set_option maxRecDepth 100000 in
theorem has_14 (w : World) : Calls Tryz.prog 70 #[.int .i64 14] w fun e w' => e = .returned (.int .i64 765) ∧ w = w' := by
  go_enter Tryz.func70, Tryz.ntmps70
  go_wp2
  go_ret
  exact ⟨rfl, rfl⟩

theorem idx_step (s : List UInt8) (k : Nat) (h : k < 15) : idxGo s (kindLists.drop k) k = if inB s (kindLists.getD k []) then k else idxGo s (kindLists.drop (k + 1)) (k + 1) := by
  have hl : kindLists.length = 15 := rfl
  rw [List.drop_eq_getElem_cons (by omega)]
  have e : kindLists.getD k [] = kindLists[k]'(by omega) := by simp [List.getD_eq_getElem?_getD, List.getElem?_eq_getElem (show k < kindLists.length by omega)]
  rw [e]
  conv => lhs; unfold idxGo
theorem kindStr_size (k : Nat) : (kindStr k).size ≤ 1000000000 := by
  have h : ∀ k < 15, (kindLists.getD k []).length ≤ 1000 := by decide +kernel
  have e : (kindStr k).size = (kindLists.getD k []).length := rfl
  rw [e]
  rcases Nat.lt_or_ge k 15 with hk | hk
  · have := h k hk; omega
  · have hl : kindLists.length = 15 := rfl
    rw [List.getD_eq_getElem?_getD, List.getElem?_eq_none (by omega)]
    simp
def RKRel (s : ByteArray) (r k : Nat) : Prop := k ≤ 15 ∧ idxGo s.data.toList (kindLists.drop k) k = r
set_option maxRecDepth 100000 in
set_option maxHeartbeats 1000000 in
theorem refkind_at (s : ByteArray) (r : Nat) (hr : Hid (kindL s.data.toList = r)) (w : World) : Calls Tryz.prog 25 #[.string s] w fun e w' => e = .returned (.int .i64 (r : Nat)) ∧ Below w.heap.size w w' := by
  go_enter Tryz.func25, Tryz.ntmps25
  go_wp2_with fail
  refine (kinds_any _).mono ?_
  rintro e W ⟨rfl, hK⟩
  have hg : Hid (w.heap.size = w.heap.size) := rfl
  generalize w.heap.size = b at hK
  go_wp2
  go_loop [2, 4] (fun v i => v = .int .i64 0 ∧ ∃ k : Nat, i = .int .i64 k ∧ Hid (RKRel s r k)) (fun _ i => 15 - (intOf i).toNat)
  case atStart => exact ⟨rfl, 0, rfl, ⟨Nat.zero_le _, (kind_same s.data.toList).trans hr.out⟩⟩
  case round =>
    obtain ⟨rfl, k, rfl, hR⟩ := hrel
    rcases Nat.lt_or_ge k 15 with hk | hk
    · have hcell := hK.out.2 k hk
      have hst := idx_step s.data.toList k hk
      have h2 := hR.out.2
      rw [hst] at h2
      cases hb : inB s.data.toList (kindLists.getD k []) with
      | true =>
        rw [hb, if_pos rfl] at h2
        have HB : Hid (inB s.data.toList (kindStr k).data.toList = true) := hb
        have H2 := Lib.hid h2
        clear h2 hst hb
        go_wp2_with (go_at_call 69; refine (in_any s (kindStr k) true HB (kindStr_size k) _).mono ?_; rintro e w' ⟨rfl, rfl⟩)
        go_ret
        refine ⟨?_, hK.out.1⟩
        rw [← H2.out]
        rfl
      | false =>
        rw [hb, if_neg (by simp)] at h2
        have HB : Hid (inB s.data.toList (kindStr k).data.toList = false) := hb
        have H2 := Lib.hid h2
        clear h2 hst hb
        go_wp2_with (go_at_call 69; refine (in_any s (kindStr k) false HB (kindStr_size k) _).mono ?_; rintro e w' ⟨rfl, rfl⟩)
        go_round
        case rel => exact ⟨rfl, k + 1, by go_num, ⟨hk, H2.out⟩⟩
        case measure => simp [intOf]; omega
    · have hz : r = 0 := by
        have h2 := hR.out.2
        have : k = 15 := by have := hR.out.1; omega
        subst this
        rw [← h2]
        rfl
      have HZ := Lib.hid hz
      clear hz
      go_wp2
      go_ret
      refine ⟨?_, hK.out.1⟩
      rw [HZ.out]
      rfl
theorem refkind_any (s : ByteArray) (w : World) : Calls Tryz.prog 25 #[.string s] w fun e w' => e = .returned (.int .i64 (kindL s.data.toList : Nat)) ∧ Below w.heap.size w w' := refkind_at s _ (Lib.hid rfl) w
end Go.Proofs.YtcfgbdhpcboikaaGreatDoor
