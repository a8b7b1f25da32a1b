/-
  internal/strconv.atof64exact: the exact ways.
-/
import Derived.Test.YtcfgbdhpcboikaaGreatDoorTabs
import Derived.Laws.FloatArith
namespace Go.Proofs.YtcfgbdhpcboikaaGreatDoor
open Go.RowKit

/-- A whole number as a float, with a sign. -/
def signedF (neg : Bool) (m : Nat) : Nat := if neg then Op.negFloat .f64 (floatOfInt .f64 m) else floatOfInt .f64 m

theorem small_shift (m : Nat) (hm : m < 4503599627370496) : ((m : Int) / 4503599627370496 != 0) = false := by
  have : (m : Int) / 4503599627370496 = 0 := by omega
  rw [this]; rfl
theorem large_shift (m : Nat) (hm : 4503599627370496 ≤ m) : ((m : Int) / 4503599627370496 != 0) = true := by
  have : ¬ (m : Int) / 4503599627370496 = 0 := by omega
  simp [this]
theorem unary_negF (b : Nat) : Op.unary .neg (.float .f64 b) = pure (.float .f64 (Op.negFloat .f64 b)) := by unfold Op.unary; rfl
theorem signed_pos (m : Nat) : signedF false m = floatOfInt .f64 m := by
  unfold signedF
  rw [if_neg (by decide)]
theorem signed_neg (m : Nat) : signedF true m = Op.negFloat .f64 (floatOfInt .f64 m) := by
  unfold signedF
  rw [if_pos rfl]
/-- The float of a whole number with a sign, behind a name. -/
theorem signed_parts (neg : Bool) (m : Nat) : ∃ f0 f : Nat, signedF neg m = f ∧ floatOfInt .f64 m = f0 ∧ ((neg = false ∧ f = f0) ∨ (neg = true ∧ Op.negFloat .f64 f0 = f)) := by
  cases neg
  · refine ⟨_, _, signed_pos m, rfl, .inl ⟨rfl, rfl⟩⟩
  · refine ⟨_, _, signed_neg m, rfl, .inr ⟨rfl, rfl⟩⟩

set_option maxHeartbeats 2000000 in
theorem exact_int (m : Nat) (neg : Bool) (w : World) (T : Tabs w) (hm : m < 4503599627370496) :
    Calls Tryz.prog 244 #[.int .u64 m, .int .i64 0, .bool neg] w fun e w' => e = .returned (.tuple #[.float .f64 (signedF neg m), .bool true]) ∧ w = w' := by
  have h9 := T.info0
  have hs := small_shift m hm
  have un := unary_negF
  obtain ⟨f0, f, hf, h0, ⟨rfl, rfl⟩ | ⟨rfl, h1⟩⟩ := signed_parts neg m
  · rw [hf]
    clear hf T
    go_enter Tryz.func244, Tryz.ntmps244
    go_wp2
    go_ret2
    exact ⟨rfl, rfl⟩
  · rw [hf]
    clear hf T
    go_enter Tryz.func244, Tryz.ntmps244
    go_wp2
    go_ret2
    exact ⟨rfl, rfl⟩

/-- A float out of the call's reach: the second result is false. -/
def NoFloat (w : World) (e : Ending) (w' : World) : Prop := ∃ f, e = .returned (.tuple #[.float .f64 f, .bool false]) ∧ w = w'

set_option maxHeartbeats 2000000 in
theorem exact_large (m : Nat) (p : Int) (neg : Bool) (w : World) (T : Tabs w) (hm : 4503599627370496 ≤ m) :
    Calls Tryz.prog 244 #[.int .u64 m, .int .i64 p, .bool neg] w (NoFloat w) := by
  have h9 := T.info0
  have hs := large_shift m hm
  go_enter Tryz.func244, Tryz.ntmps244
  go_wp2
  go_ret2
  exact ⟨_, rfl, rfl⟩

set_option maxHeartbeats 2000000 in
theorem exact_far (m : Nat) (p : Int) (neg : Bool) (w : World) (T : Tabs w) (hm : m < 4503599627370496) (hp : p < -22 ∨ 37 < p) :
    Calls Tryz.prog 244 #[.int .u64 m, .int .i64 p, .bool neg] w (NoFloat w) := by
  have h9 := T.info0
  have hs := small_shift m hm
  have un := unary_negF
  have h1 : (p == 0) = false := by simp; omega
  rcases hp with hp | hp
  all_goals
    cases neg
    all_goals
      go_enter Tryz.func244, Tryz.ntmps244
      go_wp2
      go_ret2
      exact ⟨_, rfl, rfl⟩

set_option maxHeartbeats 4000000 in
theorem exact_mul (m p : Nat) (neg : Bool) (r : Nat) (w : World) (T : Tabs w) (hm : m < 4503599627370496) (p1 : 1 ≤ p) (p2 : p ≤ 22)
    (g1 : (FloatKind.f64.format.order (signedF neg m) 4831355200913801216 == some .gt) = false) (g2 : (FloatKind.f64.format.order (signedF neg m) 14054727237768577024 == some .lt) = false)
    (hr : floatBits .mul .f64 (signedF neg m) (f10s.getD p 0) = some r) :
    Calls Tryz.prog 244 #[.int .u64 m, .int .i64 p, .bool neg] w fun e w' => e = .returned (.tuple #[.float .f64 r, .bool true]) ∧ w = w' := by
  have h9 := T.info0
  obtain ⟨b, o, h12, hc⟩ := T.f10
  have hcp := hc p (by omega)
  have hs := small_shift m hm
  have un := unary_negF
  have hm2 : ∀ w, (binOp .mul 25 (.float .f64 (signedF neg m)) (.float .f64 (f10s.getD p 0))).run Tryz.prog w = .ok (.float .f64 r) w := fun w => run_float_arith w .mul 24 .f64 _ _ _ hr
  have hp : ((p : Int) == 0) = false := by simp; omega
  clear hc hr hm T
  generalize f10s.getD p 0 = z at hcp hm2
  obtain ⟨f0, f, hf, h0, ⟨rfl, rfl⟩ | ⟨rfl, h1⟩⟩ := signed_parts neg m
  · rw [hf] at g1 g2 hm2
    clear hf
    go_enter Tryz.func244, Tryz.ntmps244
    go_wp2
    go_ret2
    exact ⟨rfl, rfl⟩
  · rw [hf] at g1 g2 hm2
    clear hf
    go_enter Tryz.func244, Tryz.ntmps244
    go_wp2
    go_ret2
    exact ⟨rfl, rfl⟩

set_option maxHeartbeats 4000000 in
theorem exact_over (m p : Nat) (neg : Bool) (w : World) (T : Tabs w) (hm : m < 4503599627370496) (p1 : 1 ≤ p) (p2 : p ≤ 22)
    (g : (FloatKind.f64.format.order (signedF neg m) 4831355200913801216 == some .gt) = true ∨ ((FloatKind.f64.format.order (signedF neg m) 4831355200913801216 == some .gt) = false ∧ (FloatKind.f64.format.order (signedF neg m) 14054727237768577024 == some .lt) = true)) :
    Calls Tryz.prog 244 #[.int .u64 m, .int .i64 p, .bool neg] w (NoFloat w) := by
  have h9 := T.info0
  have hs := small_shift m hm
  have un := unary_negF
  have hp : ((p : Int) == 0) = false := by simp; omega
  clear hm T
  obtain ⟨f0, f, hf, h0, ⟨rfl, rfl⟩ | ⟨rfl, h1⟩⟩ := signed_parts neg m
  all_goals
    rw [hf] at g
    clear hf
    rcases g with g1 | ⟨g1, g2⟩
    all_goals
      go_enter Tryz.func244, Tryz.ntmps244
      go_wp2
      go_ret2
      exact ⟨_, rfl, rfl⟩

set_option maxHeartbeats 4000000 in
theorem exact_div (m p : Nat) (neg : Bool) (r : Nat) (w : World) (T : Tabs w) (hm : m < 4503599627370496) (p1 : 1 ≤ p) (p2 : p ≤ 22)
    (hr : floatBits .quo .f64 (signedF neg m) (f10s.getD p 0) = some r) :
    Calls Tryz.prog 244 #[.int .u64 m, .int .i64 (-(p : Int)), .bool neg] w fun e w' => e = .returned (.tuple #[.float .f64 r, .bool true]) ∧ w = w' := by
  have h9 := T.info0
  obtain ⟨b, o, h12, hc⟩ := T.f10
  have hcp := hc p (by omega)
  have hs := small_shift m hm
  have un := unary_negF
  have hm2 : ∀ w, (binOp .quo 25 (.float .f64 (signedF neg m)) (.float .f64 (f10s.getD p 0))).run Tryz.prog w = .ok (.float .f64 r) w := fun w => run_float_arith w .quo 24 .f64 _ _ _ hr
  have hp : (-(p : Int) == 0) = false := by simp; omega
  clear hc hr hm T
  generalize f10s.getD p 0 = z at hcp hm2
  obtain ⟨f0, f, hf, h0, ⟨rfl, rfl⟩ | ⟨rfl, h1⟩⟩ := signed_parts neg m
  all_goals
    rw [hf] at hm2
    clear hf
    go_enter Tryz.func244, Tryz.ntmps244
    go_wp2
    go_ret2
    exact ⟨rfl, rfl⟩

set_option maxHeartbeats 4000000 in
theorem exact_mul2 (m p q : Nat) (neg : Bool) (r1 r : Nat) (w : World) (T : Tabs w) (hm : m < 4503599627370496) (p1 : 22 < p) (p2 : p ≤ 37) (hq : q + 22 = p)
    (hr1 : floatBits .mul .f64 (signedF neg m) (f10s.getD q 0) = some r1)
    (g1 : (FloatKind.f64.format.order r1 4831355200913801216 == some .gt) = false) (g2 : (FloatKind.f64.format.order r1 14054727237768577024 == some .lt) = false)
    (hr : floatBits .mul .f64 r1 (f10s.getD 22 0) = some r) :
    Calls Tryz.prog 244 #[.int .u64 m, .int .i64 p, .bool neg] w fun e w' => e = .returned (.tuple #[.float .f64 r, .bool true]) ∧ w = w' := by
  have h9 := T.info0
  obtain ⟨b, o, h12, hc⟩ := T.f10
  have hcq := hc q (by omega)
  have hc22 := hc 22 (by omega)
  have hs := small_shift m hm
  have un := unary_negF
  have hm1 : ∀ w, (binOp .mul 25 (.float .f64 (signedF neg m)) (.float .f64 (f10s.getD q 0))).run Tryz.prog w = .ok (.float .f64 r1) w := fun w => run_float_arith w .mul 24 .f64 _ _ _ hr1
  have hm2 : ∀ w, (binOp .mul 25 (.float .f64 r1) (.float .f64 (f10s.getD 22 0))).run Tryz.prog w = .ok (.float .f64 r) w := fun w => run_float_arith w .mul 24 .f64 _ _ _ hr
  have hp : ((p : Int) == 0) = false := by simp; omega
  clear hc hr hr1 hm T
  generalize f10s.getD q 0 = z at hcq hm1
  generalize f10s.getD 22 0 = z2 at hc22 hm2
  subst hq
  obtain ⟨f0, f, hf, h0, ⟨rfl, rfl⟩ | ⟨rfl, h1⟩⟩ := signed_parts neg m
  all_goals
    rw [hf] at hm1
    clear hf
    go_enter Tryz.func244, Tryz.ntmps244
    go_wp2
    go_ret2
    exact ⟨rfl, rfl⟩

set_option maxHeartbeats 4000000 in
theorem exact_over2 (m p q : Nat) (neg : Bool) (r1 : Nat) (w : World) (T : Tabs w) (hm : m < 4503599627370496) (p1 : 22 < p) (p2 : p ≤ 37) (hq : q + 22 = p)
    (hr1 : floatBits .mul .f64 (signedF neg m) (f10s.getD q 0) = some r1)
    (g : (FloatKind.f64.format.order r1 4831355200913801216 == some .gt) = true ∨ ((FloatKind.f64.format.order r1 4831355200913801216 == some .gt) = false ∧ (FloatKind.f64.format.order r1 14054727237768577024 == some .lt) = true)) :
    Calls Tryz.prog 244 #[.int .u64 m, .int .i64 p, .bool neg] w (NoFloat w) := by
  have h9 := T.info0
  obtain ⟨b, o, h12, hc⟩ := T.f10
  have hcq := hc q (by omega)
  have hs := small_shift m hm
  have un := unary_negF
  have hm1 : ∀ w, (binOp .mul 25 (.float .f64 (signedF neg m)) (.float .f64 (f10s.getD q 0))).run Tryz.prog w = .ok (.float .f64 r1) w := fun w => run_float_arith w .mul 24 .f64 _ _ _ hr1
  have hp : ((p : Int) == 0) = false := by simp; omega
  clear hc hr1 hm T
  generalize f10s.getD q 0 = z at hcq hm1
  subst hq
  obtain ⟨f0, f, hf, h0, ⟨rfl, rfl⟩ | ⟨rfl, h1⟩⟩ := signed_parts neg m
  all_goals
    rw [hf] at hm1
    clear hf
    rcases g with g1 | ⟨g1, g2⟩
    all_goals
      go_enter Tryz.func244, Tryz.ntmps244
      go_wp2
      go_ret2
      exact ⟨_, rfl, rfl⟩
end Go.Proofs.YtcfgbdhpcboikaaGreatDoor
