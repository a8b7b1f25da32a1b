/-
  The walk of RealBack.
-/
import Derived.Test.YtdgmokfdkophpaaGreatDoorNumL
import Derived.Test.YtdgmokfdkophpaaGreatDoorZero
import Derived.Test.YtdgmokfdkophpaaGreatDoorWhole
namespace Go.Proofs.YtdgmokfdkophpaaGreatDoor
open Go.RowKit

theorem sub_self_num (neg : Bool) (b : Nat) (h : b < infR) : floatBits .sub .f64 (sgn neg + b) (sgn neg + b) = some 0 := by
  obtain ⟨mag, pl, e, _⟩ := read_vals neg b h
  have e' : FloatKind.f64.format.read (sgn neg + b) = .number neg mag pl := e
  show ((FloatKind.f64.format.read (sgn neg + b)).sum (FloatKind.f64.format.read (sgn neg + b)).opposite).map FloatKind.f64.format.write = _
  rw [e']
  show some (FloatKind.f64.format.write (.number _ _ _)) = _
  have ht : Ieee.signed neg mag (pl - min pl pl).toNat + Ieee.signed (!neg) mag (pl - min pl pl).toNat = 0 := by
    unfold Ieee.signed
    cases neg <;> simp <;> omega
  rw [ht]
  cases neg
  · simp
    unfold Ieee.Format.write Ieee.Format.nearest Ieee.Format.word
    simp
  · simp
    unfold Ieee.Format.write Ieee.Format.nearest Ieee.Format.word
    simp

theorem finite_num (neg : Bool) (b : Nat) (w : World) (h : b < infR) : Calls Tryz.prog 20 #[.float .f64 (sgn neg + b : Nat)] w fun e w' => e = .returned (.bool true) ∧ w = w' := by
  have hs := sub_self_num neg b h
  have hm : ∀ w, (binOp .sub 24 (.float .f64 (sgn neg + b)) (.float .f64 (sgn neg + b))).run Tryz.prog w = .ok (.float .f64 0) w := fun w => run_float_arith w .sub 24 .f64 _ _ _ hs
  have o0 : (FloatKind.f64.format.order 0 0 == some .eq) = true := by kernel_rfl
  obtain ⟨x, hx⟩ : ∃ x, sgn neg + b = x := ⟨_, rfl⟩
  rw [hx] at hm ⊢
  clear hx hs
  go_enter Tryz.func20, Tryz.ntmps20
  go_wp2
  go_ret
  exact ⟨rfl, rfl⟩

/-- A word that is no number. -/
theorem read_none (neg : Bool) (b : Nat) (h : infR ≤ b) (h2 : b < 9223372036854775808) : FloatKind.f64.format.read (sgn neg + b) = (if b = infR then .infinity neg else .nan neg (b - infR)) := by
  have ei : infR = 9218868437227405312 := rfl
  unfold Ieee.Format.read
  simp only [f64_sign, f64_binade, f64_inf, least]
  have r1 : (sgn neg + b) % 9223372036854775808 = b := by unfold sgn; cases neg <;> simp <;> omega
  have r2 : ((sgn neg + b) / 9223372036854775808 % 2 == 1) = neg := by
    unfold sgn
    cases neg
    · have : (0 + b) / 9223372036854775808 = 0 := by omega
      simp; omega
    · have : (9223372036854775808 + b) / 9223372036854775808 = 1 := by omega
      simp [this]
  rw [r1, r2, if_neg (by omega), if_neg (by omega), ei]
theorem sub_self_none (neg : Bool) (b : Nat) (h : infR ≤ b) (h2 : b < 9223372036854775808) : FloatKind.f64.format.sub (sgn neg + b) (sgn neg + b) = none := by
  unfold Ieee.Format.sub
  rw [read_none neg b h h2]
  split
  · show (Ieee.Datum.sum (.infinity neg) (.infinity (!neg))).map _ = none
    unfold Ieee.Datum.sum
    cases neg <;> rfl
  · rfl
theorem nan_word (t : Nat) : (FloatKind.f64.format.order ((t % 2) * 2 ^ 63 + 0x7ff0000000000000 + 1 + (t / 2) % (2 ^ 52 - 1)) 0 == some .eq) = false := by
  have p63 : (2 : Nat) ^ 63 = 9223372036854775808 := by decide
  have p52 : (2 : Nat) ^ 52 - 1 = 4503599627370495 := by decide
  rw [p63, p52]
  obtain ⟨neg, b, hb, h1, h2⟩ : ∃ (neg : Bool) (b : Nat), (t % 2) * 9223372036854775808 + 0x7ff0000000000000 + 1 + (t / 2) % 4503599627370495 = sgn neg + b ∧ infR < b ∧ b < 9223372036854775808 := by
    refine ⟨decide (t % 2 = 1), 0x7ff0000000000000 + 1 + (t / 2) % 4503599627370495, ?_, ?_, ?_⟩
    · unfold sgn
      by_cases h : t % 2 = 1
      · simp [h]; omega
      · have : t % 2 = 0 := by omega
        simp [this]
    · unfold infR; omega
    · omega
  rw [hb, order_key]
  have hc : cl (sgn neg + b) = 2 := by
    unfold cl
    rw [read_none neg b (by omega) h2, if_neg (by omega)]
    rfl
  rw [if_pos (.inl hc)]
  rfl
theorem finite_none (neg : Bool) (b : Nat) (w : World) (h : infR ≤ b) (h2 : b < 9223372036854775808) : Calls Tryz.prog 20 #[.float .f64 (sgn neg + b : Nat)] w fun e w' => e = .returned (.bool false) ∧ Below w.heap.size w w' := by
  have hs := sub_self_none neg b h h2
  obtain ⟨x, hx⟩ : ∃ x, sgn neg + b = x := ⟨_, rfl⟩
  rw [hx] at hs ⊢
  obtain ⟨r, hr, hm⟩ : ∃ r, (FloatKind.f64.format.order r 0 == some .eq) = false ∧ (binOp .sub 24 (.float .f64 x) (.float .f64 x)).run Tryz.prog w = .ok (.float .f64 r) w.drew := by
    refine ⟨_, nan_word (w.tape w.drawn (.nanBits .f64 x x)), ?_⟩
    simp [binOp, Op.floatArith, hs]
    rfl
  clear hx hs
  go_enter Tryz.func20, Tryz.ntmps20
  go_wp2
  go_ret
  exact ⟨rfl, rfl, rfl, rfl, Nat.le_refl _, fun _ _ => rfl⟩

/-- Print of what is no number. -/
theorem print_none (neg : Bool) (b : Nat) (w : World) (h : infR ≤ b) (h2 : b < 9223372036854775808) : Calls Tryz.prog 19 #[.float .f64 (sgn neg + b : Nat)] w fun e w' => e = .returned (.string { data := #[] }) ∧ w = w' := by
  by_cases hI : b = infR
  · have hinf : infF (sgn neg + b) = true := by
      unfold infF
      rw [abs_rung neg b h2, hI]
      kernel_rfl
    have hse : (FloatKind.f64.format.order (sgn neg + b) (sgn neg + b) != some .eq) = false := by
      rw [hI]
      cases neg <;> kernel_rfl
    have II := fun w => isInf_at (sgn neg + b) true w hinf
    have HII := Lib.hid II
    obtain ⟨x, hx⟩ : ∃ x, sgn neg + b = x := ⟨_, rfl⟩
    rw [hx] at hse HII ⊢
    clear II hx hinf hI h h2
    go_enter Tryz.func19, Tryz.ntmps19
    go_wp2_with (go_at_call 26; ((with_reducible refine (HII.out _).mono ?_); rintro e w' ⟨rfl, rfl⟩))
    go_ret
    exact ⟨rfl, rfl⟩
  · have hse : (FloatKind.f64.format.order (sgn neg + b) (sgn neg + b) != some .eq) = true := by
      rw [order_key]
      have hc : cl (sgn neg + b) = 2 := by
        unfold cl
        rw [read_none neg b h h2, if_neg hI]
        rfl
      rw [if_pos (.inl hc)]
      rfl
    obtain ⟨x, hx⟩ : ∃ x, sgn neg + b = x := ⟨_, rfl⟩
    rw [hx] at hse ⊢
    clear hx hI h h2
    go_enter Tryz.func19, Tryz.ntmps19
    go_wp2
    go_ret
    exact ⟨rfl, rfl⟩

theorem same_float (a : Nat) (w : World) : Calls Tryz.prog 16 #[.float .f64 a, .float .f64 a] w fun e w' => e = .returned (.bool true) ∧ w = w' := by
  have d23 := door23
  have hb : ((a : Int) == a) = true := beq_self_eq_true _
  go_enter Tryz.func16, Tryz.ntmps16
  go_wp2
  go_ret
  exact ⟨rfl, rfl⟩
theorem from_bits (n : Nat) (w : World) : (callFunc 11 #[.int .u64 (n : Int)]).run Tryz.prog w = .ok (.value (.float .f64 n)) w := by
  have := door11 (n : Int) w
  rwa [Int.toNat_natCast] at this

set_option maxRecDepth 100000 in
set_option maxHeartbeats 2000000 in
theorem back_num (neg : Bool) (b n : Nat) (hn : sgn neg + b = n) (h1 : 1 ≤ b) (h2 : b < infR) (w : World) (T : Tabs w) :
    Calls Tryz.prog 5 #[.int .u64 n] w fun e w' => e = .returned (.bool true) ∧ Below w.heap.size w w' := by
  obtain ⟨d, q, j, hSA, t, hte, ht, PR, PA, FX⟩ := back_all neg b h1 h2
  clear hSA hte
  have FN := fun w => finite_num neg b w h2
  have nz := nz_rung neg b h2 h1
  rw [hn] at PR PA FN nz
  have d11 := fun w => from_bits n w
  have t25 : (t.size : Int) ≤ 25 := by omega
  have HPR := Lib.hid PR
  have HPA := Lib.hid PA
  have HFX := Lib.hid FX
  have HFN := Lib.hid FN
  have HT := Lib.hid T
  clear PR PA FX FN T hn h1 h2 ht
  go_enter Tryz.func5, Tryz.ntmps5
  go_wp2_with fail
  refine (shown_any _ HT.out).mono ?_
  rintro e w1 ⟨rfl, B1⟩
  have HB1 := Lib.hid B1
  have HT1 := Lib.hid (HT.out.below B1 (Nat.le_refl _))
  clear B1
  go_wp2_with fail
  refine (HPR.out _ HT1.out).mono ?_
  rintro e w2 ⟨rfl, B2⟩
  have HB2 := Lib.hid (HB1.out.trans (B2.mono HB1.out.size))
  have HT2 := Lib.hid (HT.out.below HB2.out (Nat.le_refl _))
  clear B2
  go_wp2_with (go_at_call 20; ((with_reducible refine (HFN.out _).mono ?_); rintro e w' ⟨rfl, rfl⟩))
  refine (HPA.out _ HT2.out).mono ?_
  rintro e w3 ⟨rfl, B3⟩
  have HB3 := Lib.hid (HB2.out.trans (B3.mono HB2.out.size))
  have HT3 := Lib.hid (HT.out.below HB3.out (Nat.le_refl _))
  clear B3
  go_wp2_with fail
  refine (HFX.out _ HT3.out).mono ?_
  rintro e w4 ⟨rfl, B4⟩
  have HB4 := Lib.hid (HB3.out.trans (B4.mono HB3.out.size))
  clear B4
  go_wp2_with (go_at_call 16; ((with_reducible refine (same_float _ _).mono ?_); rintro e w' ⟨rfl, rfl⟩))
  go_ret
  exact ⟨rfl, HB4.out⟩

set_option maxRecDepth 100000 in
set_option maxHeartbeats 2000000 in
theorem back_none (neg : Bool) (b n : Nat) (hn : sgn neg + b = n) (h1 : infR ≤ b) (h2 : b < 9223372036854775808) (w : World) (T : Tabs w) :
    Calls Tryz.prog 5 #[.int .u64 n] w fun e w' => e = .returned (.bool true) ∧ Below w.heap.size w w' := by
  have PR := fun w => print_none neg b w h1 h2
  have FN := fun w => finite_none neg b w h1 h2
  rw [hn] at PR FN
  have d11 := fun w => from_bits n w
  have HPR := Lib.hid PR
  have HFN := Lib.hid FN
  have HT := Lib.hid T
  clear PR FN T hn h1 h2
  go_enter Tryz.func5, Tryz.ntmps5
  go_wp2_with fail
  refine (shown_any _ HT.out).mono ?_
  rintro e w1 ⟨rfl, B1⟩
  have HB1 := Lib.hid B1
  clear B1
  go_wp2_with fail
  refine (HPR.out _).mono ?_
  rintro e w2 ⟨rfl, rfl⟩
  go_wp2_with fail
  refine (HFN.out _).mono ?_
  rintro e w3 ⟨rfl, B3⟩
  have HB3 := Lib.hid (HB1.out.trans (B3.mono HB1.out.size))
  clear B3
  go_wp2
  go_ret
  exact ⟨rfl, HB3.out⟩

set_option maxRecDepth 100000 in
set_option maxHeartbeats 2000000 in
theorem back_zero (neg : Bool) (n : Nat) (hn : sgn neg + 0 = n) (w : World) (T : Tabs w) :
    Calls Tryz.prog 5 #[.int .u64 n] w fun e w' => e = .returned (.bool true) ∧ Below w.heap.size w w' := by
  have s1 := self_rung neg 0 (by decide)
  have s2 := inf_rung neg 0 (by decide)
  have s3 : (FloatKind.f64.format.order (sgn neg + 0) 0 == some .eq) = true := by cases neg <;> kernel_rfl
  have FN := fun w => finite_num neg 0 w (by decide)
  rw [hn] at s1 s2 s3 FN
  have s1' : (FloatKind.f64.format.order n n != some .eq) = false := by simp [bne, s1]
  have PR : ∀ w, Calls Tryz.prog 19 #[.float .f64 n] w fun e w' => e = .returned (.string { data := #[48] }) ∧ w = w' := fun w => print_zero n w s1' s2 s3
  have PA : ∀ w, Tabs w → Calls Tryz.prog 21 #[.string { data := #[48] }] w fun e w' => e = .returned (.tuple #[.float .f64 0, .bool true]) ∧ w = w' := parse0
  have FX : ∀ w, Tabs w → Calls Tryz.prog 22 #[.string { data := #[48] }] w fun e w' => e = .returned (.tuple #[.string { data := #[48] }, .bool true]) ∧ Below w.heap.size w w' := fix0
  have d11 := fun w => from_bits n w
  have HPR := Lib.hid PR
  have HPA := Lib.hid PA
  have HFX := Lib.hid FX
  have HFN := Lib.hid FN
  have HT := Lib.hid T
  clear PR PA FX FN T hn s1 s2 s1'
  go_enter Tryz.func5, Tryz.ntmps5
  go_wp2_with fail
  refine (shown_any _ HT.out).mono ?_
  rintro e w1 ⟨rfl, B1⟩
  have HB1 := Lib.hid B1
  have HT1 := Lib.hid (HT.out.below B1 (Nat.le_refl _))
  clear B1
  go_wp2_with fail
  refine (HPR.out _).mono ?_
  rintro e w2 ⟨rfl, rfl⟩
  go_wp2_with (go_at_call 20; ((with_reducible refine (HFN.out _).mono ?_); rintro e w' ⟨rfl, rfl⟩))
  refine (HPA.out _ HT1.out).mono ?_
  rintro e w3 ⟨rfl, rfl⟩
  go_wp2_with fail
  refine (HFX.out _ HT1.out).mono ?_
  rintro e w4 ⟨rfl, B4⟩
  have HB4 := Lib.hid (HB1.out.trans (B4.mono HB1.out.size))
  clear B4
  go_wp2_with (go_at_call 16; ((with_reducible refine (same_float _ _).mono ?_); rintro e w' ⟨rfl, rfl⟩))
  go_ret
  exact ⟨rfl, HB4.out⟩

/-- RealBack returns true. -/
theorem back_any (n : Nat) (h : n < 18446744073709551616) (w : World) (T : Tabs w) : Calls Tryz.prog 5 #[.int .u64 n] w fun e w' => e = .returned (.bool true) ∧ Below w.heap.size w w' := by
  obtain ⟨neg, b, hn, hb⟩ : ∃ neg b, sgn neg + b = n ∧ b < 9223372036854775808 := by
    by_cases c : n < 9223372036854775808
    · exact ⟨false, n, by simp [sgn], c⟩
    · exact ⟨true, n - 9223372036854775808, by simp [sgn]; omega, by omega⟩
  by_cases c0 : b = 0
  · subst c0
    exact back_zero neg n hn w T
  · by_cases cI : b < infR
    · exact back_num neg b n hn (by omega) cI w T
    · exact back_none neg b n hn (by omega) hb w T
end Go.Proofs.YtdgmokfdkophpaaGreatDoor
