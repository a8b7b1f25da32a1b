/-
  The walk of RingPlays: two rings, played by any script by turns, against the document's.
-/
import Derived.Test.YtfkchmkaccjjoaaStepC
namespace Go.Proofs.Ytfkchmkaccjjoaa
open Go.RowKit

/-- One step of a script that came in. -/
structure OpAt (w : World) (sb so j : Nat) (d : Int) (sec : Bool) (x : Int) (oa : Option Addr) (ol oc : Nat) (bs : List UInt8) : Prop where
  c0 : w.cell? ⟨sb, so + j * 4, none⟩ = some (.int .i64 d)
  c1 : w.cell? ⟨sb, so + j * 4 + 1, none⟩ = some (.bool sec)
  c2 : w.cell? ⟨sb, so + j * 4 + 2, none⟩ = some (.int .i64 x)
  c3 : w.cell? ⟨sb, so + j * 4 + 3, none⟩ = some (.slice oa ol oc)
  hl : bs.length = ol
  le : ol ≤ oc
  top : oc ≤ 140737488351232
  hb : IsB w oa bs

set_option maxRecDepth 100000 in
set_option maxHeartbeats 1000000 in
theorem plays_nn (most other : Int) (sa : Option Addr) (sl sc : Nat) (w : World) (h1 : most < 1 ∨ 4096 < most) (h2 : other < 1 ∨ 4096 < other) :
    Calls Try.prog 4 #[.int .i64 most, .int .i64 other, .slice sa sl sc] w fun e w' => e = .returned (.bool true) ∧ Below w.heap.size w w' := by
  have r1 : decide (1 ≤ most ∧ most ≤ 4096) = false := decide_eq_false (by omega)
  have H1 := Lib.hid h1
  clear h1
  have r2 : decide (1 ≤ other ∧ other ≤ 4096) = false := decide_eq_false (by omega)
  have H2 := Lib.hid h2
  clear h2
  go_enter Try.func4, Try.ntmps4
  go_wp2_with fail
  refine (shown_any _).mono ?_
  rintro e w1 ⟨rfl, K1⟩
  have HK1 := Lib.hid K1
  clear K1
  go_wp2_with fail
  refine (new_no _ _ H1.out).mono ?_
  rintro e w2 ⟨rfl, rfl⟩
  go_wp2_with fail
  refine (new_no _ _ H2.out).mono ?_
  rintro e w3 ⟨rfl, rfl⟩
  go_wp2_with (go_at_call 13; refine (right_any _ _).mono ?_; rintro e w9 ⟨rfl, rfl⟩)
  go_ret
  exact ⟨rfl, HK1.out.below (Nat.le_refl _) (fun _ _ h => h.elim)⟩

set_option maxRecDepth 100000 in
set_option maxHeartbeats 1000000 in
theorem plays_yn (other : Int) (sa : Option Addr) (sl sc : Nat) (w : World) (m : Nat) (h1a : 1 ≤ m) (h1b : m ≤ 4096) (h2 : other < 1 ∨ 4096 < other) :
    Calls Try.prog 4 #[.int .i64 m, .int .i64 other, .slice sa sl sc] w fun e w' => e = .returned (.bool true) ∧ Below w.heap.size w w' := by
  have r1 : decide (1 ≤ (m : Int) ∧ (m : Int) ≤ 4096) = true := decide_eq_true (by omega)
  have r2 : decide (1 ≤ other ∧ other ≤ 4096) = false := decide_eq_false (by omega)
  have H2 := Lib.hid h2
  clear h2
  go_enter Try.func4, Try.ntmps4
  go_wp2_with fail
  refine (shown_any _).mono ?_
  rintro e w1 ⟨rfl, K1⟩
  have HK1 := Lib.hid K1
  clear K1
  go_wp2_with fail
  refine (ring_new _ m h1a h1b).mono ?_
  rintro e w2 ⟨r, g, rfl, _, _, _, K2⟩
  have HK2 := Lib.hid K2
  clear K2
  go_wp2_with fail
  refine (new_no _ _ H2.out).mono ?_
  rintro e w3 ⟨rfl, rfl⟩
  go_wp2_with (go_at_call 13; refine (right_any _ _).mono ?_; rintro e w9 ⟨rfl, rfl⟩)
  go_ret
  exact ⟨rfl, (HK1.out.trans HK2.out).below (Nat.le_refl _) (fun _ _ h => h.elim)⟩

set_option maxRecDepth 100000 in
set_option maxHeartbeats 1000000 in
theorem plays_ny (most : Int) (sa : Option Addr) (sl sc : Nat) (w : World) (m : Nat) (h2a : 1 ≤ m) (h2b : m ≤ 4096) (h1 : most < 1 ∨ 4096 < most) :
    Calls Try.prog 4 #[.int .i64 most, .int .i64 m, .slice sa sl sc] w fun e w' => e = .returned (.bool true) ∧ Below w.heap.size w w' := by
  have r1 : decide (1 ≤ most ∧ most ≤ 4096) = false := decide_eq_false (by omega)
  have H1 := Lib.hid h1
  clear h1
  have r1 : decide (1 ≤ (m : Int) ∧ (m : Int) ≤ 4096) = true := decide_eq_true (by omega)
  go_enter Try.func4, Try.ntmps4
  go_wp2_with fail
  refine (shown_any _).mono ?_
  rintro e w1 ⟨rfl, K1⟩
  have HK1 := Lib.hid K1
  clear K1
  go_wp2_with fail
  refine (new_no _ _ H1.out).mono ?_
  rintro e w2 ⟨rfl, rfl⟩
  go_wp2_with fail
  refine (ring_new _ m h2a h2b).mono ?_
  rintro e w3 ⟨r, g, rfl, _, _, _, K3⟩
  have HK3 := Lib.hid K3
  clear K3
  go_wp2_with (go_at_call 13; refine (right_any _ _).mono ?_; rintro e w9 ⟨rfl, rfl⟩)
  go_ret
  exact ⟨rfl, (HK1.out.trans HK3.out).below (Nat.le_refl _) (fun _ _ h => h.elim)⟩

end Go.Proofs.Ytfkchmkaccjjoaa
