/-
  internal/strconv.special at what begins as a numeral; math.Abs, math.IsInf.
-/
import Derived.Test.YtdgmokfdkophpaaGreatDoorExact
import Derived.Handy
namespace Go.Proofs.YtdgmokfdkophpaaGreatDoor
open Go.RowKit

/-- No letter in front: nothing in common with a word in small letters. -/
theorem prefix_no (s p : ByteArray) (w : World) (h : 0 < s.size) (hs : s.size ≤ 40) (hp : 0 < p.size) (hp2 : p.size ≤ 40) (h1 : s[0].toNat ≤ 57) (hq : 97 ≤ p[0].toNat) :
    Calls Tryz.prog 140 #[.string s, .string p] w fun e w' => e = .returned (.int .i64 0) ∧ w = w' := by
  have h2 : ¬ 65 ≤ s[0].toNat := by omega
  have h3 : ((s[0].toNat : Int) != (p[0].toNat : Int)) = true := by simp; omega
  by_cases hle : p.size ≤ s.size
  all_goals
    go_enter Tryz.func140, Tryz.ntmps140
    go_wp2
    refine wp_loop_rounds 1 ?_
    rw [rounds_succ]
    go_wp2
    go_ret
    exact ⟨rfl, rfl⟩

set_option maxHeartbeats 1000000 in
theorem special_plain (s : ByteArray) (w : World) (h : 0 < s.size) (hs : s.size ≤ 40) (h1 : s[0].toNat ≤ 57) (h2 : ((s[0].toNat : Int) == 43) = false) (h3 : ((s[0].toNat : Int) == 45) = false) :
    Calls Tryz.prog 105 #[.string s] w fun e w' => e = .returned (.tuple #[.float .f64 0, .int .i64 0, .bool false]) ∧ w = w' := by
  have f1 : ((s[0].toNat : Int) == 105) = false := by simp; omega
  have f2 : ((s[0].toNat : Int) == 73) = false := by simp; omega
  have f3 : ((s[0].toNat : Int) == 110) = false := by simp; omega
  have f4 : ((s[0].toNat : Int) == 78) = false := by simp; omega
  have f0 : ((s.size : Int) == 0) = false := beq_eq_false_iff_ne.2 (by omega)
  go_enter Tryz.func105, Tryz.ntmps105
  go_wp2
  go_ret3
  exact ⟨rfl, rfl⟩

set_option maxHeartbeats 1000000 in
theorem special_minus (s : ByteArray) (w : World) (h : 1 < s.size) (hs : s.size ≤ 40) (h2 : ((s[0].toNat : Int) == 43) = false) (h3 : ((s[0].toNat : Int) == 45) = true) (h1 : s[1].toNat ≤ 57) :
    Calls Tryz.prog 105 #[.string s] w fun e w' => e = .returned (.tuple #[.float .f64 0, .int .i64 0, .bool false]) ∧ w = w' := by
  have f0 : ((s.size : Int) == 0) = false := beq_eq_false_iff_ne.2 (by omega)
  obtain ⟨s2, e2, z2, c2'⟩ := cut_from s 1 (by omega)
  have c2 : ∀ w, (Instr.slice 9 (.string s) (some (.int .i64 1)) none none).run Tryz.prog w = .ok (.string s2) w := c2'
  clear c2'
  have k2 : 0 < s2.size := by omega
  have k3 : s2.size ≤ 40 := by omega
  have g1 : s2[0].toNat ≤ 57 := by
    have : s2[0] = s[1] := by
      have a1 := List.getElem_of_eq e2 (i := 0) (by rw [← size_list]; exact k2)
      rw [List.getElem_drop] at a1
      exact a1
    rw [this]; exact h1
  have PR := fun w => prefix_no s2 ({ data := #[105, 110, 102, 105, 110, 105, 116, 121] } : ByteArray) w k2 k3 (Nat.le_of_ble_eq_true rfl) (Nat.le_of_ble_eq_true rfl) g1 (Nat.le_of_ble_eq_true rfl)
  have HPR := Lib.hid PR
  clear PR e2 z2
  go_enter Tryz.func105, Tryz.ntmps105
  go_wp2_with (go_at_call 140; refine (HPR.out _).mono ?_; rintro e w' ⟨rfl, rfl⟩)
  go_ret3
  exact ⟨rfl, rfl⟩
end Go.Proofs.YtdgmokfdkophpaaGreatDoor
