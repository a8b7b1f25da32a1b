/-
  RealSame, without the program: two floats have one text just where they are one.
  The walk of RealSame; RealSame, for every two texts.
-/
import Derived.Test.YtcfgbdhpcboikaaGreatDoorZero
import Derived.Test.YtcfgbdhpcboikaaGreatDoorParseK
import Derived.Test.YtcfgbdhpcboikaaGreatDoorNumL
import Derived.Test.YtcfgbdhpcboikaaGreatDoorAtofD
namespace Go.Proofs.YtcfgbdhpcboikaaGreatDoor
open Go.RowKit

/-- A call has one answer. -/
theorem calls_det {P : Program} {f : FuncId} {args : Array Value} {w : World} {A B : Value} {R1 R2 : World → Prop} (hi : P.inits.idxOf? f = none)
    (h1 : Calls P f args w fun e w' => e = .returned A ∧ R1 w') (h2 : Calls P f args w fun e w' => e = .returned B ∧ R2 w') : A = B := by
  obtain ⟨e1, w1, f1, ⟨rfl, _⟩, ⟨n1, c1⟩, g1, l1⟩ := h1 []
  obtain ⟨e2, w2, f2, ⟨rfl, _⟩, ⟨n2, c2⟩, g2, l2⟩ := h2 []
  have s1 := step_leave_done l1 (by rw [g1]; exact hi)
  have s2 := step_leave_done l2 (by rw [g2]; exact hi)
  have r1 : ∀ k, runN P (n1 + (k + 1)) (lone (Frame.enter P f args .normal) [] w) = .ended (.done A) w1 := fun k => by
    rw [runN_add, c1]
    simp only [runN, s1]
  have r2 : ∀ k, runN P (n2 + (k + 1)) (lone (Frame.enter P f args .normal) [] w) = .ended (.done B) w2 := fun k => by
    rw [runN_add, c2]
    simp only [runN, s2]
  have e : n1 + (n2 + 1) = n2 + (n1 + 1) := by omega
  have a := r1 n2
  rw [e, r2 n1] at a
  injection a with a _
  injection a with a
  exact a.symm

/-- What is known of a float's text. -/
structure Prn (neg : Bool) (b : Nat) (t : ByteArray) : Prop where
  sz : t.size ≤ 25
  nought : b = 0 → t = s0
  pr : ∀ w, Tabs w → Calls Tryz.prog 63 #[.float .f64 (sgn neg + b)] w fun e w' => e = .returned (.string t) ∧ Below w.heap.size w w'
  pa : 1 ≤ b → ∀ w, Tabs w → Calls Tryz.prog 21 #[.string t] w fun e w' => e = .returned (.tuple #[.float .f64 (sgn neg + b), .bool true]) ∧ Below w.heap.size w w'
  fx : ∀ w, Tabs w → Calls Tryz.prog 20 #[.string t] w fun e w' => e = .returned (.tuple #[.string t, .bool true]) ∧ Below w.heap.size w w'
theorem prn_all (neg : Bool) (b : Nat) (hb : b < infR) : ∃ t, Prn neg b t := by
  by_cases h0 : b = 0
  · subst h0
    refine ⟨s0, by decide, fun _ => rfl, fun w T => ?_, fun h => by omega, fix0⟩
    cases neg
    · exact same_below (print_zero 0 w (by kernel_rfl) (by kernel_rfl) (by kernel_rfl))
    · exact same_below (print_zero 9223372036854775808 w (by kernel_rfl) (by kernel_rfl) (by kernel_rfl))
  · obtain ⟨d, q, j, _, t, _, h1, h2, h3, h4⟩ := back_all neg b (by omega) hb
    exact ⟨t, h1, fun h => absurd h h0, h2, fun _ => h3, h4⟩

theorem vals_inj (a b : Nat) (h : vals a = vals b) : a = b := by
  rcases Nat.lt_trichotomy a b with g | g | g
  · have := vals_lt a b g; omega
  · exact g
  · have := vals_lt b a g; omega
theorem vals_zero : vals 0 = 0 := by decide
/-- Two floats are one, in Go, where they are one, or both are nought. -/
theorem same_float (n1 n2 : Bool) (b1 b2 : Nat) (h1 : b1 < infR) (h2 : b2 < infR) :
    (FloatKind.f64.format.order (sgn n1 + b1) (sgn n2 + b2) == some .eq) = true ↔ (b1 = 0 ∧ b2 = 0) ∨ (n1 = n2 ∧ b1 = b2) := by
  obtain ⟨c1, k1⟩ := cl_num n1 b1 h1
  obtain ⟨c2, k2⟩ := cl_num n2 b2 h2
  rw [eq_key, c1, c2, k1, k2]
  have z0 := vals_zero
  have p : ∀ b, vals b = 0 → b = 0 := fun b h => vals_inj b 0 (by rw [h, z0])
  have cz : ∀ x y : Int, cmpK 0 x 0 y = 0 ↔ x = y := by
    intro x y
    unfold cmpK
    repeat' split
    all_goals omega
  rw [cz]
  constructor
  · rintro ⟨_, h⟩
    cases n1 <;> cases n2 <;> simp only [Bool.false_eq_true, if_false, if_true] at h
    · exact .inr ⟨rfl, vals_inj _ _ (by omega)⟩
    · exact .inl ⟨p _ (by omega), p _ (by omega)⟩
    · exact .inl ⟨p _ (by omega), p _ (by omega)⟩
    · exact .inr ⟨rfl, vals_inj _ _ (by omega)⟩
  · rintro (⟨rfl, rfl⟩ | ⟨rfl, rfl⟩)
    · refine ⟨by decide, ?_⟩
      rw [z0]
      split <;> split <;> rfl
    · exact ⟨by decide, rfl⟩
theorem cmp_same (n1 n2 : Bool) (b1 b2 : Nat) (h1 : b1 < infR) (h2 : b2 < infR) :
    cmpF (sgn n1 + b1) (sgn n2 + b2) = 0 ↔ (FloatKind.f64.format.order (sgn n1 + b1) (sgn n2 + b2) == some .eq) = true := by
  obtain ⟨c1, k1⟩ := cl_num n1 b1 h1
  obtain ⟨c2, k2⟩ := cl_num n2 b2 h2
  rw [eq_key, cmp_key, c1, c2]
  constructor
  · intro h; exact ⟨by decide, h⟩
  · intro h; exact h.2

theorem same_text (n1 n2 : Bool) (b1 b2 : Nat) (t1 t2 : ByteArray) (h1 : b1 < infR) (h2 : b2 < infR) (P1 : Prn n1 b1 t1) (P2 : Prn n2 b2 t2) (w : World) (T : Tabs w) :
    t1 = t2 ↔ (FloatKind.f64.format.order (sgn n1 + b1) (sgn n2 + b2) == some .eq) = true := by
  rw [same_float n1 n2 b1 b2 h1 h2]
  have big : ∀ b, b < infR → b < 9223372036854775808 := fun b h => Nat.lt_trans h (by decide)
  have i21 : Tryz.prog.inits.idxOf? 21 = none := by kernel_rfl
  have i63 : Tryz.prog.inits.idxOf? 63 = none := by kernel_rfl
  have P0 : ∀ (n : Bool) (b : Nat), 1 ≤ b → Prn n b s0 → False := by
    intro n b hb hP
    have := calls_det i21 (hP.pa hb w T) (parse0 w T)
    injection this with this
    have e : sgn n + b = 0 := by simpa using this
    omega
  constructor
  · rintro rfl
    by_cases z1 : b1 = 0
    · left
      refine ⟨z1, ?_⟩
      have e := P1.nought z1
      subst e
      exact Classical.byContradiction fun h => P0 n2 b2 (by omega) P2
    · by_cases z2 : b2 = 0
      · have e := P2.nought z2
        subst e
        exact (P0 n1 b1 (by omega) P1).elim
      · right
        have := calls_det i21 (P1.pa (by omega) w T) (P2.pa (by omega) w T)
        injection this with this
        have e : sgn n1 + b1 = sgn n2 + b2 := by simpa using this
        have g1 := big b1 h1
        have g2 := big b2 h2
        cases n1 <;> cases n2 <;> simp [sgn] at e ⊢ <;> omega
  · rintro (⟨z1, z2⟩ | ⟨rfl, rfl⟩)
    · rw [P1.nought z1, P2.nought z2]
    · have := calls_det i63 (P1.pr w T) (P2.pr w T)
      injection this
end Go.Proofs.YtcfgbdhpcboikaaGreatDoor

namespace Go.Proofs.YtcfgbdhpcboikaaGreatDoor
open Go.RowKit

theorem toList_loop (bs : ByteArray) : ∀ (k i : Nat) (r : List UInt8), bs.size - i = k → ByteArray.toList.loop bs i r = r.reverse ++ bs.data.toList.drop i := by
  intro k
  induction k with
  | zero =>
    intro i r h
    rw [ByteArray.toList.loop, if_neg (by omega)]
    have hs : bs.data.toList.length = bs.size := by simp
    rw [List.drop_eq_nil_of_le (by omega), List.append_nil]
  | succ k ih =>
    intro i r h
    have hs : bs.data.toList.length = bs.size := by simp
    rw [ByteArray.toList.loop, if_pos (by omega), ih _ _ (by omega)]
    rw [List.drop_eq_getElem_cons (i := i) (by omega)]
    have e : bs.get! i = bs.data.toList[i]'(by omega) := by
      unfold ByteArray.get!
      have : i < bs.data.size := by simpa using (by omega : i < bs.size)
      exact getElem!_pos bs.data i this
    rw [e]
    simp
theorem toList_bytes (bs : ByteArray) : bs.toList = bs.data.toList := by
  unfold ByteArray.toList
  rw [toList_loop bs _ 0 [] rfl]
  simp
theorem toList_ne (a b : ByteArray) (h : ¬ a = b) : ¬ a.toList = b.toList := by
  rw [toList_bytes, toList_bytes]
  intro e
  exact h (ByteArray.ext (Array.toList_inj.1 e))

set_option maxRecDepth 100000 in
set_option maxHeartbeats 2000000 in
theorem same_one (s1 s2 t1 : ByteArray) (x1 x2 : Nat) (c : Int) (w : World) (T : Tabs w)
    (F1 : ∀ w, Tabs w → Calls Tryz.prog 20 #[.string s1] w fun e w' => e = .returned (.tuple #[.string t1, .bool true]) ∧ Below w.heap.size w w')
    (F2 : ∀ w, Tabs w → Calls Tryz.prog 20 #[.string s2] w fun e w' => e = .returned (.tuple #[.string t1, .bool true]) ∧ Below w.heap.size w w')
    (P1 : ∀ w, Tabs w → Calls Tryz.prog 21 #[.string s1] w fun e w' => e = .returned (.tuple #[.float .f64 x1, .bool true]) ∧ Below w.heap.size w w')
    (P2 : ∀ w, Tabs w → Calls Tryz.prog 21 #[.string s2] w fun e w' => e = .returned (.tuple #[.float .f64 x2, .bool true]) ∧ Below w.heap.size w w')
    (FX : ∀ w, Tabs w → Calls Tryz.prog 20 #[.string t1] w fun e w' => e = .returned (.tuple #[.string t1, .bool true]) ∧ Below w.heap.size w w')
    (hq : (FloatKind.f64.format.order x1 x2 == some .eq) = true) (hc : cmpF x1 x2 = c) (hc0 : (c == 0) = true) :
    Calls Tryz.prog 3 #[.string s1, .string s2] w fun e w' => e = .returned (.bool true) ∧ Below w.heap.size w w' := by
  have CM := fun w => compare_any w x1 x2
  rw [hc] at CM
  have HCM := Lib.hid CM
  have HF1 := Lib.hid F1
  have HF2 := Lib.hid F2
  have HP1 := Lib.hid P1
  have HP2 := Lib.hid P2
  have HFX := Lib.hid FX
  have HT := Lib.hid T
  clear F1 F2 P1 P2 FX T CM hc
  go_enter Tryz.func3, Tryz.ntmps3
  go_wp2_with fail
  refine (shown_any _ HT.out).mono ?_
  rintro e w1 ⟨rfl, B1⟩
  have HB1 := Lib.hid B1
  have HT1 := Lib.hid (HT.out.below HB1.out (Nat.le_refl _))
  clear B1
  go_wp2_with fail
  refine (HF1.out _ HT1.out).mono ?_
  rintro e w2 ⟨rfl, B2⟩
  have HB2 := Lib.hid (HB1.out.trans (B2.mono HB1.out.size))
  have HT2 := Lib.hid (HT.out.below HB2.out (Nat.le_refl _))
  clear B2
  go_wp2_with fail
  refine (HF2.out _ HT2.out).mono ?_
  rintro e w3 ⟨rfl, B3⟩
  have HB3 := Lib.hid (HB2.out.trans (B3.mono HB2.out.size))
  have HT3 := Lib.hid (HT.out.below HB3.out (Nat.le_refl _))
  clear B3
  go_wp2_with fail
  refine (HP1.out _ HT3.out).mono ?_
  rintro e w4 ⟨rfl, B4⟩
  have HB4 := Lib.hid (HB3.out.trans (B4.mono HB3.out.size))
  have HT4 := Lib.hid (HT.out.below HB4.out (Nat.le_refl _))
  clear B4
  go_wp2_with fail
  refine (HP2.out _ HT4.out).mono ?_
  rintro e w5 ⟨rfl, B5⟩
  have HB5 := Lib.hid (HB4.out.trans (B5.mono HB4.out.size))
  have HT5 := Lib.hid (HT.out.below HB5.out (Nat.le_refl _))
  clear B5
  go_wp2_with fail
  refine (HFX.out _ HT5.out).mono ?_
  rintro e w6 ⟨rfl, B6⟩
  have HB6 := Lib.hid (HB5.out.trans (B6.mono HB5.out.size))
  clear B6
  go_wp2_with (go_at_call 22; refine (HCM.out _).mono ?_; rintro e w' ⟨rfl, rfl⟩)
  go_ret
  exact ⟨rfl, HB6.out⟩
  
  

set_option maxRecDepth 100000 in
set_option maxHeartbeats 2000000 in
theorem same_two (s1 s2 t1 t2 : ByteArray) (x1 x2 : Nat) (c : Int) (w : World) (T : Tabs w) (hne : ¬ t1.toList = t2.toList)
    (F1 : ∀ w, Tabs w → Calls Tryz.prog 20 #[.string s1] w fun e w' => e = .returned (.tuple #[.string t1, .bool true]) ∧ Below w.heap.size w w')
    (F2 : ∀ w, Tabs w → Calls Tryz.prog 20 #[.string s2] w fun e w' => e = .returned (.tuple #[.string t2, .bool true]) ∧ Below w.heap.size w w')
    (P1 : ∀ w, Tabs w → Calls Tryz.prog 21 #[.string s1] w fun e w' => e = .returned (.tuple #[.float .f64 x1, .bool true]) ∧ Below w.heap.size w w')
    (P2 : ∀ w, Tabs w → Calls Tryz.prog 21 #[.string s2] w fun e w' => e = .returned (.tuple #[.float .f64 x2, .bool true]) ∧ Below w.heap.size w w')
    (FX : ∀ w, Tabs w → Calls Tryz.prog 20 #[.string t1] w fun e w' => e = .returned (.tuple #[.string t1, .bool true]) ∧ Below w.heap.size w w')
    (hq : (FloatKind.f64.format.order x1 x2 == some .eq) = false) (hc : cmpF x1 x2 = c) (hc0 : (c == 0) = false) :
    Calls Tryz.prog 3 #[.string s1, .string s2] w fun e w' => e = .returned (.bool true) ∧ Below w.heap.size w w' := by
  have CM := fun w => compare_any w x1 x2
  rw [hc] at CM
  have HCM := Lib.hid CM
  have HF1 := Lib.hid F1
  have HF2 := Lib.hid F2
  have HP1 := Lib.hid P1
  have HP2 := Lib.hid P2
  have HFX := Lib.hid FX
  have HT := Lib.hid T
  clear F1 F2 P1 P2 FX T CM hc
  go_enter Tryz.func3, Tryz.ntmps3
  go_wp2_with fail
  refine (shown_any _ HT.out).mono ?_
  rintro e w1 ⟨rfl, B1⟩
  have HB1 := Lib.hid B1
  have HT1 := Lib.hid (HT.out.below HB1.out (Nat.le_refl _))
  clear B1
  go_wp2_with fail
  refine (HF1.out _ HT1.out).mono ?_
  rintro e w2 ⟨rfl, B2⟩
  have HB2 := Lib.hid (HB1.out.trans (B2.mono HB1.out.size))
  have HT2 := Lib.hid (HT.out.below HB2.out (Nat.le_refl _))
  clear B2
  go_wp2_with fail
  refine (HF2.out _ HT2.out).mono ?_
  rintro e w3 ⟨rfl, B3⟩
  have HB3 := Lib.hid (HB2.out.trans (B3.mono HB2.out.size))
  have HT3 := Lib.hid (HT.out.below HB3.out (Nat.le_refl _))
  clear B3
  go_wp2_with fail
  refine (HP1.out _ HT3.out).mono ?_
  rintro e w4 ⟨rfl, B4⟩
  have HB4 := Lib.hid (HB3.out.trans (B4.mono HB3.out.size))
  have HT4 := Lib.hid (HT.out.below HB4.out (Nat.le_refl _))
  clear B4
  go_wp2_with fail
  refine (HP2.out _ HT4.out).mono ?_
  rintro e w5 ⟨rfl, B5⟩
  have HB5 := Lib.hid (HB4.out.trans (B5.mono HB4.out.size))
  have HT5 := Lib.hid (HT.out.below HB5.out (Nat.le_refl _))
  clear B5
  go_wp2_with fail
  refine (HFX.out _ HT5.out).mono ?_
  rintro e w6 ⟨rfl, B6⟩
  have HB6 := Lib.hid (HB5.out.trans (B6.mono HB5.out.size))
  clear B6
  go_wp2_with (go_at_call 22; refine (HCM.out _).mono ?_; rintro e w' ⟨rfl, rfl⟩)
  go_ret
  refine ⟨?_, HB6.out⟩
  show Ending.returned (Value.bool (!(t1.toList == t2.toList))) = _
  rw [beq_eq_false_iff_ne.2 hne]; rfl

set_option maxRecDepth 100000 in
set_option maxHeartbeats 2000000 in
theorem same_bad1 (s1 s2 : ByteArray) (w : World) (T : Tabs w)
    (F1 : ∀ w, Tabs w → Calls Tryz.prog 20 #[.string s1] w fun e w' => e = .returned (.tuple #[.string ByteArray.empty, .bool false]) ∧ Below w.heap.size w w')
    (F2 : ∀ w, Tabs w → Calls Tryz.prog 20 #[.string s2] w fun e w' => e = .returned (.tuple #[.string ByteArray.empty, .bool false]) ∧ Below w.heap.size w w')
    (P1 : ∀ w, Tabs w → Calls Tryz.prog 21 #[.string s1] w fun e w' => e = .returned (.tuple #[.float .f64 0, .bool false]) ∧ Below w.heap.size w w')
    (P2 : ∀ w, Tabs w → Calls Tryz.prog 21 #[.string s2] w fun e w' => e = .returned (.tuple #[.float .f64 0, .bool false]) ∧ Below w.heap.size w w') :
    Calls Tryz.prog 3 #[.string s1, .string s2] w fun e w' => e = .returned (.bool true) ∧ Below w.heap.size w w' := by
  have HF1 := Lib.hid F1
  have HF2 := Lib.hid F2
  have HP1 := Lib.hid P1
  have HP2 := Lib.hid P2
  have HT := Lib.hid T
  clear F1 F2 P1 P2 T
  go_enter Tryz.func3, Tryz.ntmps3
  go_wp2_with fail
  refine (shown_any _ HT.out).mono ?_
  rintro e w1 ⟨rfl, B1⟩
  have HB1 := Lib.hid B1
  have HT1 := Lib.hid (HT.out.below HB1.out (Nat.le_refl _))
  clear B1
  go_wp2_with fail
  refine (HF1.out _ HT1.out).mono ?_
  rintro e w2 ⟨rfl, B2⟩
  have HB2 := Lib.hid (HB1.out.trans (B2.mono HB1.out.size))
  have HT2 := Lib.hid (HT.out.below HB2.out (Nat.le_refl _))
  clear B2
  go_wp2_with fail
  refine (HF2.out _ HT2.out).mono ?_
  rintro e w3 ⟨rfl, B3⟩
  have HB3 := Lib.hid (HB2.out.trans (B3.mono HB2.out.size))
  have HT3 := Lib.hid (HT.out.below HB3.out (Nat.le_refl _))
  clear B3
  go_wp2_with fail
  refine (HP1.out _ HT3.out).mono ?_
  rintro e w4 ⟨rfl, B4⟩
  have HB4 := Lib.hid (HB3.out.trans (B4.mono HB3.out.size))
  have HT4 := Lib.hid (HT.out.below HB4.out (Nat.le_refl _))
  clear B4
  go_wp2_with fail
  refine (HP2.out _ HT4.out).mono ?_
  rintro e w5 ⟨rfl, B5⟩
  have HB5 := Lib.hid (HB4.out.trans (B5.mono HB4.out.size))
  clear B5
  go_wp2
  go_ret
  exact ⟨rfl, HB5.out⟩

set_option maxRecDepth 100000 in
set_option maxHeartbeats 2000000 in
theorem same_bad2 (s1 s2 t2 : ByteArray) (x2 : Nat) (w : World) (T : Tabs w)
    (F1 : ∀ w, Tabs w → Calls Tryz.prog 20 #[.string s1] w fun e w' => e = .returned (.tuple #[.string ByteArray.empty, .bool false]) ∧ Below w.heap.size w w')
    (F2 : ∀ w, Tabs w → Calls Tryz.prog 20 #[.string s2] w fun e w' => e = .returned (.tuple #[.string t2, .bool true]) ∧ Below w.heap.size w w')
    (P1 : ∀ w, Tabs w → Calls Tryz.prog 21 #[.string s1] w fun e w' => e = .returned (.tuple #[.float .f64 0, .bool false]) ∧ Below w.heap.size w w')
    (P2 : ∀ w, Tabs w → Calls Tryz.prog 21 #[.string s2] w fun e w' => e = .returned (.tuple #[.float .f64 x2, .bool true]) ∧ Below w.heap.size w w') :
    Calls Tryz.prog 3 #[.string s1, .string s2] w fun e w' => e = .returned (.bool true) ∧ Below w.heap.size w w' := by
  have HF1 := Lib.hid F1
  have HF2 := Lib.hid F2
  have HP1 := Lib.hid P1
  have HP2 := Lib.hid P2
  have HT := Lib.hid T
  clear F1 F2 P1 P2 T
  go_enter Tryz.func3, Tryz.ntmps3
  go_wp2_with fail
  refine (shown_any _ HT.out).mono ?_
  rintro e w1 ⟨rfl, B1⟩
  have HB1 := Lib.hid B1
  have HT1 := Lib.hid (HT.out.below HB1.out (Nat.le_refl _))
  clear B1
  go_wp2_with fail
  refine (HF1.out _ HT1.out).mono ?_
  rintro e w2 ⟨rfl, B2⟩
  have HB2 := Lib.hid (HB1.out.trans (B2.mono HB1.out.size))
  have HT2 := Lib.hid (HT.out.below HB2.out (Nat.le_refl _))
  clear B2
  go_wp2_with fail
  refine (HF2.out _ HT2.out).mono ?_
  rintro e w3 ⟨rfl, B3⟩
  have HB3 := Lib.hid (HB2.out.trans (B3.mono HB2.out.size))
  have HT3 := Lib.hid (HT.out.below HB3.out (Nat.le_refl _))
  clear B3
  go_wp2_with fail
  refine (HP1.out _ HT3.out).mono ?_
  rintro e w4 ⟨rfl, B4⟩
  have HB4 := Lib.hid (HB3.out.trans (B4.mono HB3.out.size))
  have HT4 := Lib.hid (HT.out.below HB4.out (Nat.le_refl _))
  clear B4
  go_wp2_with fail
  refine (HP2.out _ HT4.out).mono ?_
  rintro e w5 ⟨rfl, B5⟩
  have HB5 := Lib.hid (HB4.out.trans (B5.mono HB4.out.size))
  clear B5
  go_wp2
  go_ret
  exact ⟨rfl, HB5.out⟩

set_option maxRecDepth 100000 in
set_option maxHeartbeats 2000000 in
theorem same_bad3 (s1 s2 t1 : ByteArray) (x1 : Nat) (w : World) (T : Tabs w)
    (F1 : ∀ w, Tabs w → Calls Tryz.prog 20 #[.string s1] w fun e w' => e = .returned (.tuple #[.string t1, .bool true]) ∧ Below w.heap.size w w')
    (F2 : ∀ w, Tabs w → Calls Tryz.prog 20 #[.string s2] w fun e w' => e = .returned (.tuple #[.string ByteArray.empty, .bool false]) ∧ Below w.heap.size w w')
    (P1 : ∀ w, Tabs w → Calls Tryz.prog 21 #[.string s1] w fun e w' => e = .returned (.tuple #[.float .f64 x1, .bool true]) ∧ Below w.heap.size w w')
    (P2 : ∀ w, Tabs w → Calls Tryz.prog 21 #[.string s2] w fun e w' => e = .returned (.tuple #[.float .f64 0, .bool false]) ∧ Below w.heap.size w w') :
    Calls Tryz.prog 3 #[.string s1, .string s2] w fun e w' => e = .returned (.bool true) ∧ Below w.heap.size w w' := by
  have HF1 := Lib.hid F1
  have HF2 := Lib.hid F2
  have HP1 := Lib.hid P1
  have HP2 := Lib.hid P2
  have HT := Lib.hid T
  clear F1 F2 P1 P2 T
  go_enter Tryz.func3, Tryz.ntmps3
  go_wp2_with fail
  refine (shown_any _ HT.out).mono ?_
  rintro e w1 ⟨rfl, B1⟩
  have HB1 := Lib.hid B1
  have HT1 := Lib.hid (HT.out.below HB1.out (Nat.le_refl _))
  clear B1
  go_wp2_with fail
  refine (HF1.out _ HT1.out).mono ?_
  rintro e w2 ⟨rfl, B2⟩
  have HB2 := Lib.hid (HB1.out.trans (B2.mono HB1.out.size))
  have HT2 := Lib.hid (HT.out.below HB2.out (Nat.le_refl _))
  clear B2
  go_wp2_with fail
  refine (HF2.out _ HT2.out).mono ?_
  rintro e w3 ⟨rfl, B3⟩
  have HB3 := Lib.hid (HB2.out.trans (B3.mono HB2.out.size))
  have HT3 := Lib.hid (HT.out.below HB3.out (Nat.le_refl _))
  clear B3
  go_wp2_with fail
  refine (HP1.out _ HT3.out).mono ?_
  rintro e w4 ⟨rfl, B4⟩
  have HB4 := Lib.hid (HB3.out.trans (B4.mono HB3.out.size))
  have HT4 := Lib.hid (HT.out.below HB4.out (Nat.le_refl _))
  clear B4
  go_wp2_with fail
  refine (HP2.out _ HT4.out).mono ?_
  rintro e w5 ⟨rfl, B5⟩
  have HB5 := Lib.hid (HB4.out.trans (B5.mono HB4.out.size))
  clear B5
  go_wp2
  go_ret
  exact ⟨rfl, HB5.out⟩

/-- RealSame returns true. -/
theorem same_any (s1 s2 : ByteArray) (m1 : s1.size ≤ maxLen) (m2 : s2.size ≤ maxLen) (w : World) (T : Tabs w) :
    Calls Tryz.prog 3 #[.string s1, .string s2] w fun e w' => e = .returned (.bool true) ∧ Below w.heap.size w w' := by
  have fx : ∀ (s t : ByteArray) (n : Bool) (b : Nat), PFine s n b → Prn n b t → ∀ w, Tabs w → Calls Tryz.prog 20 #[.string s] w fun e w' => e = .returned (.tuple #[.string t, .bool true]) ∧ Below w.heap.size w w' :=
    fun s t n b h hP w T => fix_b s _ t w T h.2 hP.pr
  have fn : ∀ (s : ByteArray), PNone s → ∀ w, Tabs w → Calls Tryz.prog 20 #[.string s] w fun e w' => e = .returned (.tuple #[.string ByteArray.empty, .bool false]) ∧ Below w.heap.size w w' :=
    fun s h w T => fix_no s w T h
  rcases parse_all atof_all s1 m1 with ⟨n1, b1, h1⟩ | h1
  · obtain ⟨t1, Q1⟩ := prn_all n1 b1 h1.1
    rcases parse_all atof_all s2 m2 with ⟨n2, b2, h2⟩ | h2
    · obtain ⟨t2, Q2⟩ := prn_all n2 b2 h2.1
      have st := same_text n1 n2 b1 b2 t1 t2 h1.1 h2.1 Q1 Q2 w T
      have cm := cmp_same n1 n2 b1 b2 h1.1 h2.1
      by_cases e : t1 = t2
      · subst e
        have hq := st.1 rfl
        exact same_one s1 s2 t1 _ _ _ w T (fx _ _ _ _ h1 Q1) (fx _ _ _ _ h2 Q2) h1.2 h2.2 Q1.fx hq rfl (by rw [cm.2 hq]; rfl)
      · have hq := mt st.2 e
        exact same_two s1 s2 t1 t2 _ _ _ w T (toList_ne _ _ e) (fx _ _ _ _ h1 Q1) (fx _ _ _ _ h2 Q2) h1.2 h2.2 Q1.fx (Bool.eq_false_iff.2 hq) rfl (beq_eq_false_iff_ne.2 (mt cm.1 hq))
    · exact same_bad3 s1 s2 t1 _ w T (fx _ _ _ _ h1 Q1) (fn _ h2) h1.2 h2
  · rcases parse_all atof_all s2 m2 with ⟨n2, b2, h2⟩ | h2
    · obtain ⟨t2, Q2⟩ := prn_all n2 b2 h2.1
      exact same_bad2 s1 s2 t2 _ w T (fn _ h1) (fx _ _ _ _ h2 Q2) h1 h2.2
    · exact same_bad1 s1 s2 w T (fn _ h1) (fn _ h2) h1 h2
end Go.Proofs.YtcfgbdhpcboikaaGreatDoor
