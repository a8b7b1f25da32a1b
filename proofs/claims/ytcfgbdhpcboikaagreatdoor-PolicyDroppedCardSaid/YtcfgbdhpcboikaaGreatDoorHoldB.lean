/-
  The library's sort of no attributes; policy.Attrs of none.
-/
import Derived.Test.YtcfgbdhpcboikaaGreatDoorHoldA
namespace Go.Proofs.YtcfgbdhpcboikaaGreatDoor
open Go.RowKit

set_option maxRecDepth 100000 in
theorem insertion_nil (cmp : Value) (w : World) : Calls Tryz.prog 182 #[.slice none 0 0, .int .i64 0, .int .i64 0, cmp] w fun e w' => e = .returned (.tuple #[]) ∧ w = w' := by
  go_enter Tryz.func182, Tryz.ntmps182
  go_wp2
  refine wp_loop_rounds 1 ?_
  rw [rounds_succ]
  go_wp2
  go_end0
  exact ⟨rfl, rfl⟩
set_option maxRecDepth 100000 in
theorem pdq_nil (cmp : Value) (lim : Int) (w : World) : Calls Tryz.prog 146 #[.slice none 0 0, .int .i64 0, .int .i64 0, .int .i64 lim, cmp] w fun e w' => e = .returned (.tuple #[]) ∧ w = w' := by
  go_enter Tryz.func146, Tryz.ntmps146
  go_wp2
  refine wp_loop_rounds 1 ?_
  rw [rounds_succ]
  go_wp2_with fail
  refine (insertion_nil cmp w).mono ?_
  rintro e w' ⟨rfl, rfl⟩
  go_wp2
  trace_state
  exact bodyPost_ret (v := .tuple #[]) (by simp [results, Tryz.results146, go_sem]) rfl ⟨rfl, rfl⟩
theorem len_zero (w : World) : Calls Tryz.prog 147 #[.int .u64 0] w fun e w' => e = .returned (.int .i64 0) ∧ w = w' := by
  go_enter Tryz.func147, Tryz.ntmps147
  go_wp2_with fail
  refine (Tryz.bits_Len64 0 w (by omega) (by omega)).mono ?_
  rintro e w' ⟨rfl, hw⟩
  subst hw
  go_wp2
  go_ret
  exact ⟨rfl, rfl⟩
set_option maxRecDepth 100000 in
theorem sort_nil (cmp : Value) (w : World) : Calls Tryz.prog 86 #[.slice none 0 0, cmp] w fun e w' => e = .returned (.tuple #[]) ∧ w = w' := by
  go_enter Tryz.func86, Tryz.ntmps86
  go_wp2_with fail
  refine (len_zero w).mono ?_
  rintro e w' ⟨rfl, rfl⟩
  go_wp2_with fail
  refine (pdq_nil cmp _ w).mono ?_
  rintro e w' ⟨rfl, rfl⟩
  go_wp2
  go_end0
  exact ⟨rfl, rfl⟩
set_option maxRecDepth 100000 in
theorem attrs_nil (e : ByteArray) (a : Option Addr) (c : Nat) (w : World) : Calls Tryz.prog 38 #[.string e, .slice a 0 c] w fun e w' => e = .returned (.slice none 0 0) ∧ w = w' := by
  go_enter Tryz.func38, Tryz.ntmps38
  go_wp2
  refine wp_loop_rounds 1 ?_
  rw [rounds_succ]
  go_wp2_with fail
  refine (sort_nil _ w).mono ?_
  rintro x w' ⟨rfl, rfl⟩
  go_wp2
  go_ret
  exact ⟨rfl, rfl⟩
end Go.Proofs.YtcfgbdhpcboikaaGreatDoor
