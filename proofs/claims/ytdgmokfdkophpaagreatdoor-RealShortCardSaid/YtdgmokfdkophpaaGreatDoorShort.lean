/-
  The small functions of the unrounded scaling; prescale.
-/
import Derived.Test.YtdgmokfdkophpaaGreatDoorUsc
namespace Go.Proofs.YtdgmokfdkophpaaGreatDoor
open Go.RowKit

theorem ret_u64 {a b : Int} (h : a = b) : Ending.returned (.int .u64 a) = .returned (.int .u64 b) := by rw [h]
theorem log2_any (x : Int) (w : World) (h0 : -3000 ≤ x) (h1 : x ≤ 3000) : Calls Tryz.prog 122 #[.int .i64 x] w fun e w' => e = .returned (.int .i64 (x * 108853 / 32768)) ∧ w = w' := by
  go_enter Tryz.func122, Tryz.ntmps122
  go_wp2
  go_ret
  exact ⟨rfl, rfl⟩
theorem log10_any (x : Int) (w : World) (h0 : -3000 ≤ x) (h1 : x ≤ 3000) : Calls Tryz.prog 92 #[.int .i64 x] w fun e w' => e = .returned (.int .i64 (x * 78913 / 262144)) ∧ w = w' := by
  go_enter Tryz.func92, Tryz.ntmps92
  go_wp2
  go_ret
  exact ⟨rfl, rfl⟩
theorem skewed_any (x : Int) (w : World) (h0 : -3000 ≤ x) (h1 : x ≤ 3000) : Calls Tryz.prog 120 #[.int .i64 x] w fun e w' => e = .returned (.int .i64 ((x * 631305 - 261663) / 2097152)) ∧ w = w' := by
  go_enter Tryz.func120, Tryz.ntmps120
  go_wp2
  go_ret
  exact ⟨rfl, rfl⟩
theorem nudge_any (u : Nat) (d : Int) (w : World) (_hu : u < 18446744073709551616) : Calls Tryz.prog 124 #[.int .u64 u, .int .i64 d] w fun e w' => e = .returned (.int .u64 ((((u : Int) + d) % 18446744073709551616).toNat : Nat)) ∧ w = w' := by
  go_enter Tryz.func124, Tryz.ntmps124
  go_wp2
  go_ret
  refine ⟨ret_u64 ?_, rfl⟩
  rw [wrap_u64, wrap_u64]
  omega
theorem ceil_any (u : Nat) (w : World) (_hu : u < 18446744073709551616) : Calls Tryz.prog 125 #[.int .u64 u] w fun e w' => e = .returned (.int .u64 ((u + 3) % 18446744073709551616 / 4 : Nat)) ∧ w = w' := by
  go_enter Tryz.func125, Tryz.ntmps125
  go_wp2
  go_ret
  refine ⟨ret_u64 ?_, rfl⟩
  rw [wrap_u64]
  omega
theorem floor_any (u : Nat) (w : World) (hu : u < 18446744073709551616) : Calls Tryz.prog 126 #[.int .u64 u] w fun e w' => e = .returned (.int .u64 (u / 4 : Nat)) ∧ w = w' := by
  go_enter Tryz.func126, Tryz.ntmps126
  go_wp2
  go_ret
  refine ⟨ret_u64 ?_, rfl⟩
  omega
theorem and1_nat (n : Nat) (h : n < 18446744073709551616) : bits .and .u64 (n : Int) 1 = ((n % 2 : Nat) : Int) := by
  have := and_one_u64 (n : Int) (by omega) (by omega)
  rw [this]
  omega
theorem round_any (u : Nat) (w : World) (hu : u < 18446744073709551616) : Calls Tryz.prog 127 #[.int .u64 u] w fun e w' => e = .returned (.int .u64 ((u + 1 + u / 4 % 2) % 18446744073709551616 / 4 : Nat)) ∧ w = w' := by
  have ha := and1_nat (u / 4) (by omega)
  have e4 : ((u / 4 : Nat) : Int) = (u : Int) / 4 := by omega
  rw [e4] at ha
  have HA := Lib.hid ha
  clear ha e4
  go_enter Tryz.func127, Tryz.ntmps127
  go_wp2
  go_ret
  refine ⟨ret_u64 ?_, rfl⟩
  rw [HA.out, wrap_u64, wrap_u64]
  omega

set_option maxHeartbeats 1000000 in
theorem prescale_any (e lp s : Int) (i : Nat) (w : World) (g : Nat) (v0 v1 v2 : Value) (fz : Nat × Nat) (hg : w.heap[g]? = some (.cells #[v0, v1, v2] 163 fz)) (hf : fz = (0, 0)) (hi : i < 696) (_hne : 13 ≠ g)
    (T : Tabs w) (he : -3000 ≤ e) (he2 : e ≤ 3000) (hl : -3000 ≤ lp) (hl2 : lp ≤ 3000) (hs : -(e + lp + 3) = s) :
    Calls Tryz.prog 121 #[.pointer (some ⟨g, 0, none⟩), .int .i64 e, .int .i64 ((i : Int) - 348), .int .i64 lp] w
      fun e w' => e = .returned (.tuple #[]) ∧ w'.heap[g]? = some (.cells #[.int .u64 (p10hi i), .int .u64 (p10lo i), .int .i64 s] 163 (0, 0)) ∧ Kept (· = g) w w' := by
  subst hf
  obtain ⟨t0, t1⟩ := T.p10 i hi
  rw [Nat.mul_comm] at t0 t1
  have c0 := cell_of_row w g 0 _ _ _ hg
  have c1 := cell_of_row w g 1 _ _ _ hg
  have c2 := cell_of_row w g 2 _ _ _ hg
  have z0 := frozen_of_row w g 0 _ _ hg
  have z1 := frozen_of_row w g 1 _ _ hg
  have z2 := frozen_of_row w g 2 _ _ hg
  generalize p10hi i = H at *
  generalize p10lo i = L at *
  clear T
  have HG := Lib.hid hg
  clear hg
  simp at c0 c1 c2
  go_enter Tryz.func121, Tryz.ntmps121
  go_wp2
  go_end0
  refine ⟨rfl, ?_, (((Kept.refl (· = g) w).setCell ⟨g, 0, none⟩ _ (fun _ => rfl)).setCell ⟨g, 1, none⟩ _ (fun _ => rfl)).setCell ⟨g, 2, none⟩ _ (fun _ => rfl)⟩
  rw [heap_setCell_same _ _ _ _ _ _ (heap_setCell_same _ _ _ _ _ _ (heap_setCell_same _ _ _ _ _ _ HG.out))]
  simp
end Go.Proofs.YtdgmokfdkophpaaGreatDoor
