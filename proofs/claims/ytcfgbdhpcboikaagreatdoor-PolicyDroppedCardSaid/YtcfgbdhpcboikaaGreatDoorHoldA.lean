/-
  policy.elem, plain, text; Attrs and Equal of no attributes.
-/
import Derived.Test.YtcfgbdhpcboikaaGreatDoorNodes
import Derived.Test.YtcfgbdhpcboikaaGreatDoorMayW
import Derived.Test.YtcfgbdhpcboikaaGreatDoorSched
import Derived.Deep.QuietTactic
import Derived.BigQuiet
import Derived.Test.YtcfgbdhpcboikaaGreatDoorShelf
namespace Go.Proofs.YtcfgbdhpcboikaaGreatDoor
open Go.RowKit

def sMt : ByteArray := ⟨#[]⟩
set_option maxRecDepth 100000 in
theorem elem_yes (nm : ByteArray) (av kv : Value) (w : World) :
    Calls Tryz.prog 149 #[.agg #[.int .i64 1, .int .i64 0, .string nm, av, .string ⟨#[]⟩, kv]] w fun e w' => e = .returned (.bool true) ∧ Below w.heap.size w w' := by
  go_enter Tryz.func149, Tryz.ntmps149
  go_wp2
  go_ret
  exact ⟨rfl, (Below.refl _ w).alloc (Nat.le_refl _) _⟩
set_option maxRecDepth 100000 in
theorem plain_yes (nm : ByteArray) (a : Option Addr) (c : Nat) (a' : Option Addr) (n' c' : Nat) (w : World) :
    Calls Tryz.prog 90 #[.agg #[.int .i64 1, .int .i64 0, .string nm, .slice a 0 c, .string ⟨#[]⟩, .slice a' n' c'], .string nm] w fun e w' => e = .returned (.bool true) ∧ Below w.heap.size w w' := by
  go_enter Tryz.func90, Tryz.ntmps90
  go_wp2_with fail
  refine (elem_yes nm (.slice a 0 c) (.slice a' n' c') _).mono ?_
  rintro e W1 ⟨rfl, B1⟩
  have hB := (Below.refl w.heap.size w).alloc (Nat.le_refl _) (.cells #[.int .i64 1, .int .i64 0, .string nm, .slice a 0 c, .string ⟨#[]⟩, .slice a' n' c'] 45)
  have x2 : W1.cell? ⟨w.heap.size, 2, none⟩ = some (.string nm) := by rw [B1.cell (p := ⟨w.heap.size, 2, none⟩) (by simp), cell_of_row _ w.heap.size 2 _ 45 (0, 0) (heap_alloc_new w _)]; rfl
  have x3 : W1.cell? ⟨w.heap.size, 3, none⟩ = some (.slice a 0 c) := by rw [B1.cell (p := ⟨w.heap.size, 3, none⟩) (by simp), cell_of_row _ w.heap.size 3 _ 45 (0, 0) (heap_alloc_new w _)]; rfl
  have HB1 := Lib.hid (hB.trans (B1.mono (by simp)))
  clear B1 hB
  go_wp2
  go_ret
  refine ⟨?_, HB1.out⟩
  simp
set_option maxRecDepth 100000 in
theorem text_no (k : Int) (hk : (k == 2) = false) (sp : Int) (nm tx : ByteArray) (av kv : Value) (w : World) :
    Calls Tryz.prog 151 #[.agg #[.int .i64 k, .int .i64 sp, .string nm, av, .string tx, kv]] w fun e w' => e = .returned (.bool false) ∧ Below w.heap.size w w' := by
  go_enter Tryz.func151, Tryz.ntmps151
  go_wp2
  go_quiet (fail)
  go_wp2
  go_ret
  exact ⟨rfl, ((Below.refl _ w).alloc (Nat.le_refl _) _).trans ((below_drewNm _ nq).mono (by simp))⟩
set_option maxRecDepth 100000 in
theorem equal_nil (a b : Option Addr) (c d : Nat) (w : World) : Calls Tryz.prog 150 #[.slice a 0 c, .slice b 0 d] w fun e w' => e = .returned (.bool true) ∧ w = w' := by
  go_enter Tryz.func150, Tryz.ntmps150
  go_wp2
  refine wp_loop_rounds 1 ?_
  rw [rounds_succ]
  go_wp2
  go_ret
  exact ⟨rfl, rfl⟩
end Go.Proofs.YtcfgbdhpcboikaaGreatDoor
