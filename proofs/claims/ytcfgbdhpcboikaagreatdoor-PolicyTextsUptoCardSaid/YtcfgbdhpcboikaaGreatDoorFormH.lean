/-
  policy.form at a's href.
-/
import Derived.Test.YtcfgbdhpcboikaaGreatDoorValueW
namespace Go.Proofs.YtcfgbdhpcboikaaGreatDoor
open Go.RowKit

theorem cat_a : (⟨#[97]⟩ : ByteArray) ++ ⟨#[32]⟩ = ⟨#[97, 32]⟩ := by decide
theorem cat_ahref : (⟨#[97, 32]⟩ : ByteArray) ++ ⟨#[104, 114, 101, 102]⟩ = ⟨#[97, 32, 104, 114, 101, 102]⟩ := by decide
def zHref : List ByteArray := [⟨#[104, 116, 116, 112]⟩, ⟨#[104, 116, 116, 112, 115]⟩, ⟨#[109, 97, 105, 108, 116, 111]⟩]
set_option maxRecDepth 100000 in
set_option maxHeartbeats 1000000 in
theorem form_ahref (v : ByteArray) (b : Bool) (hb : Hid (linkOk zHref (linkL v.data.toList) = b)) (hv : v.size ≤ 1000000000) : FormAt sA sHref v ⟨(linkL v.data.toList).toArray⟩ b := by
  intro w T
  have HT := Lib.hid T
  clear T
  unfold sA sHref
  have c1 := cat_a
  have c2 := cat_ahref
  go_enter Tryz.func83, Tryz.ntmps83
  go_wp2_with fail
  have hB : Below w.heap.size w (w.alloc (.cells #[Value.string ⟨#[104, 116, 116, 112]⟩, Value.string ⟨#[104, 116, 116, 112, 115]⟩, Value.string ⟨#[109, 97, 105, 108, 116, 111]⟩] 9)) := (Below.refl _ w).alloc (Nat.le_refl _) _
  have hS : StrsAt (w.alloc (.cells #[Value.string ⟨#[104, 116, 116, 112]⟩, Value.string ⟨#[104, 116, 116, 112, 115]⟩, Value.string ⟨#[109, 97, 105, 108, 116, 111]⟩] 9)) w.heap.size 0 zHref := by
    intro j hj
    rw [Nat.zero_add, cell_of_row _ w.heap.size j _ 9 (0, 0) (heap_alloc_new w _)]
    have : ∀ j < 3, (#[Value.string ⟨#[104, 116, 116, 112]⟩, Value.string ⟨#[104, 116, 116, 112, 115]⟩, Value.string ⟨#[109, 97, 105, 108, 116, 111]⟩] : Array Value)[j]? = some (Value.string (zHref.getD j ByteArray.empty)) := by
      intro j hj
      match j, hj with
      | 0, _ => rfl
      | 1, _ => rfl
      | 2, _ => rfl
    exact this j hj
  refine (linkf_any v hv w.heap.size 0 3 3 zHref rfl (by omega) _ (HT.out.below hB (Nat.le_refl _)) hS (by simp) b hb).mono ?_
  rintro x W1 ⟨rfl, B1⟩
  have HB1 := Lib.hid (hB.trans (B1.mono (by simp)))
  clear B1 hB hS
  go_wp2
  go_ret2
  exact ⟨rfl, HB1.out⟩

/-! ### The document's examples -/
def v1 : ByteArray := ⟨#[72, 84, 84, 80, 58, 47, 47, 97]⟩
def v2 : ByteArray := ⟨#[32, 74, 97, 118, 97, 9, 83, 99, 114, 105, 112, 116, 58, 120]⟩
theorem link_v1 : linkL v1.data.toList = v1.data.toList := by decide +kernel
theorem ok_v1 : linkOk zHref (linkL v1.data.toList) = true := by decide +kernel
theorem esc_v1 : (escB v1).size ≤ 120 := by decide +kernel
theorem link_v2 : linkL v2.data.toList = [74, 97, 118, 97, 83, 99, 114, 105, 112, 116, 58, 120] := by decide +kernel
theorem ok_v2 : linkOk zHref (linkL v2.data.toList) = false := by decide +kernel
theorem scheme_v2 : schemeL [74, 97, 118, 97, 83, 99, 114, 105, 112, 116, 58, 120] = some [106, 97, 118, 97, 115, 99, 114, 105, 112, 116] := by decide +kernel
theorem kind_sA : KindAt sA 4 := fun w => kind_any sA w
theorem value_v1 (w : World) (T : Tabs w) : Calls Tryz.prog 37 #[.string sA, .string sHref, .string v1] w fun x w' => x = .returned (.tuple #[.string v1, .bool true]) ∧ Below w.heap.size w w' := by
  have F := form_ahref v1 true (Lib.hid ok_v1) (by decide)
  rw [link_v1] at F
  exact value_yes sA sHref v1 v1 4 (Lib.hid kind_sA) (by omega) rfl (Lib.hid F) (by decide) (Lib.hid esc_v1) w T
theorem value_v2 (w : World) (T : Tabs w) : Calls Tryz.prog 37 #[.string sA, .string sHref, .string v2] w fun x w' => x = .returned (.tuple #[.string ⟨#[]⟩, .bool false]) ∧ Below w.heap.size w w' := by
  have F := form_ahref v2 false (Lib.hid ok_v2) (by decide)
  exact value_no sA sHref v2 _ 4 (Lib.hid kind_sA) (by omega) rfl (Lib.hid F) w T
theorem links_v2 (w : World) (T : Tabs w) : Calls Tryz.prog 34 #[.string v2] w fun x w' => x = .returned (.string ⟨#[74, 97, 118, 97, 83, 99, 114, 105, 112, 116, 58, 120]⟩) ∧ Below w.heap.size w w' := by
  have L := link_any v2 (by decide) w T
  rw [link_v2] at L
  exact L
theorem schemes_v2 (w : World) (T : Tabs w) : Calls Tryz.prog 30 #[.string ⟨#[74, 97, 118, 97, 83, 99, 114, 105, 112, 116, 58, 120]⟩] w fun x w' => x = .returned (.tuple #[.string ⟨#[106, 97, 118, 97, 115, 99, 114, 105, 112, 116]⟩, .bool true]) ∧ Below w.heap.size w w' := by
  have S := scheme_any ⟨#[74, 97, 118, 97, 83, 99, 114, 105, 112, 116, 58, 120]⟩ (by decide) w T
  rw [show schemeV (⟨#[74, 97, 118, 97, 83, 99, 114, 105, 112, 116, 58, 120]⟩ : ByteArray).data.toList = .tuple #[.string ⟨#[106, 97, 118, 97, 115, 99, 114, 105, 112, 116]⟩, .bool true] from schemeV_some scheme_v2] at S
  exact S
end Go.Proofs.YtcfgbdhpcboikaaGreatDoor
