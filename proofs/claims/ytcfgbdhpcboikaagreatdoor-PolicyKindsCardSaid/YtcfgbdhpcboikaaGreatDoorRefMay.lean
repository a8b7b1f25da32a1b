/-
  The document's May and Takes: what they answer.
-/
import Derived.Test.YtcfgbdhpcboikaaGreatDoorRefKind
namespace Go.Proofs.YtcfgbdhpcboikaaGreatDoor
open Go.RowKit

def RKindAt (s : ByteArray) (n : Int) : Prop := ∀ w, Calls Tryz.prog 25 #[.string s] w fun e w' => e = .returned (.int .i64 n) ∧ Below w.heap.size w w'
def HasAt (n h : Int) : Prop := ∀ w, Calls Tryz.prog 70 #[.int .i64 n] w fun e w' => e = .returned (.int .i64 h) ∧ w = w'
theorem has_at (p : Nat) (hp : p ≤ 14) : HasAt (p : Nat) (hasN p : Nat) := by
  have h : p = 0 ∨ p = 1 ∨ p = 2 ∨ p = 3 ∨ p = 4 ∨ p = 5 ∨ p = 6 ∨ p = 7 ∨ p = 8 ∨ p = 9 ∨ p = 10 ∨ p = 11 ∨ p = 12 ∨ p = 13 ∨ p = 14 := by omega
  rcases h with rfl | rfl | rfl | rfl | rfl | rfl | rfl | rfl | rfl | rfl | rfl | rfl | rfl | rfl | rfl
  · exact has_0
  · exact has_1
  · exact has_2
  · exact has_3
  · exact has_4
  · exact has_5
  · exact has_6
  · exact has_7
  · exact has_8
  · exact has_9
  · exact has_10
  · exact has_11
  · exact has_12
  · exact has_13
  · exact has_14
/-- Nothing may stand there of no kind. -/
theorem refmay_0 (p k : ByteArray) (hk : Hid (RKindAt k 0)) (w : World) :
    Calls Tryz.prog 27 #[.string p, .string k] w fun e w' => e = .returned (.bool false) ∧ Below w.heap.size w w' := by
  go_enter Tryz.func27, Tryz.ntmps27
  go_wp2_with fail
  refine (hk.out _).mono ?_
  rintro e w1 ⟨rfl, B1⟩
  have HB1 := Lib.hid B1
  clear B1
  go_wp2
  go_ret
  exact ⟨rfl, HB1.out⟩
set_option maxRecDepth 100000 in
theorem refmay_no (p k : ByteArray) (P h : Int) (K : Int) (h0 : 0 < K) (h1 : K ≤ 14) (_hh0 : 0 ≤ h) (_hh1 : h ≤ 100000) (hp : Hid (RKindAt p P)) (hk : Hid (RKindAt k K)) (hh : Hid (HasAt P h))
    (ht : (bits BinOp.and IntKind.i64 (h / 2 ^ K.toNat) 1 == 1) = false) (w : World) :
    Calls Tryz.prog 27 #[.string p, .string k] w fun e w' => e = .returned (.bool false) ∧ Below w.heap.size w w' := by
  go_enter Tryz.func27, Tryz.ntmps27
  go_wp2_with fail
  refine (hk.out _).mono ?_
  rintro e w1 ⟨rfl, B1⟩
  have HB1 := Lib.hid B1
  clear B1
  go_wp2_with fail
  refine (hp.out _).mono ?_
  rintro e w2 ⟨rfl, B2⟩
  have HB2 := Lib.hid (HB1.out.trans (B2.mono HB1.out.size))
  clear B2
  go_wp2_with fail
  refine (hh.out _).mono ?_
  rintro e w' ⟨rfl, rfl⟩
  go_wp2
  go_ret
  exact ⟨rfl, HB2.out⟩
set_option maxRecDepth 100000 in
theorem refmay_yes (p k : ByteArray) (P h : Int) (K : Int) (h0 : 0 < K) (h1 : K ≤ 14) (_hh0 : 0 ≤ h) (_hh1 : h ≤ 100000) (hp : Hid (RKindAt p P)) (hk : Hid (RKindAt k K)) (hh : Hid (HasAt P h))
    (ht : (bits BinOp.and IntKind.i64 (h / 2 ^ K.toNat) 1 == 1) = true) (h4 : (K == 4) = false) (w : World) :
    Calls Tryz.prog 27 #[.string p, .string k] w fun e w' => e = .returned (.bool true) ∧ Below w.heap.size w w' := by
  go_enter Tryz.func27, Tryz.ntmps27
  go_wp2_with fail
  refine (hk.out _).mono ?_
  rintro e w1 ⟨rfl, B1⟩
  have HB1 := Lib.hid B1
  clear B1
  go_wp2_with fail
  refine (hp.out _).mono ?_
  rintro e w2 ⟨rfl, B2⟩
  have HB2 := Lib.hid (HB1.out.trans (B2.mono HB1.out.size))
  clear B2
  go_wp2_with fail
  refine (hh.out _).mono ?_
  rintro e w' ⟨rfl, rfl⟩
  go_wp2
  go_ret
  exact ⟨rfl, HB2.out⟩
set_option maxRecDepth 100000 in
theorem refmay_4 (p k : ByteArray) (P h : Int) (b : Bool) (_hh0 : 0 ≤ h) (_hh1 : h ≤ 100000) (hp : Hid (RKindAt p P)) (hk : Hid (RKindAt k 4)) (hh : Hid (HasAt P h))
    (ht : (bits BinOp.and IntKind.i64 (h / 16) 1 == 1) = true) (hb : (p.toList == k.toList) = b) (w : World) :
    Calls Tryz.prog 27 #[.string p, .string k] w fun e w' => e = .returned (.bool (!b)) ∧ Below w.heap.size w w' := by
  go_enter Tryz.func27, Tryz.ntmps27
  go_wp2_with fail
  refine (hk.out _).mono ?_
  rintro e w1 ⟨rfl, B1⟩
  have HB1 := Lib.hid B1
  clear B1
  go_wp2_with fail
  refine (hp.out _).mono ?_
  rintro e w2 ⟨rfl, B2⟩
  have HB2 := Lib.hid (HB1.out.trans (B2.mono HB1.out.size))
  clear B2
  go_wp2_with fail
  refine (hh.out _).mono ?_
  rintro e w' ⟨rfl, rfl⟩
  go_wp2
  all_goals
    go_ret
    refine ⟨?_, HB2.out⟩
    rfl
theorem bits_has : ∀ p < 15, ∀ k < 15, (bits BinOp.and IntKind.i64 (((hasN p : Nat) : Int) / 2 ^ ((k : Nat) : Int).toNat) 1 == 1) = decide (hasN p / 2 ^ k % 2 = 1) := by decide +kernel
theorem has_le : ∀ p < 15, hasN p ≤ 100000 := by decide +kernel
/-- The document's May is the program's. -/
theorem refmay_any (p k : ByteArray) (w : World) : Calls Tryz.prog 27 #[.string p, .string k] w fun e w' => e = .returned (.bool (mayL p.data.toList k.data.toList)) ∧ Below w.heap.size w w' := by
  have hp : RKindAt p (kindL p.data.toList : Nat) := fun w => refkind_any p w
  have hk : RKindAt k (kindL k.data.toList : Nat) := fun w => refkind_any k w
  have lk := kindL_le k.data.toList
  have lp := kindL_le p.data.toList
  have hs : (k.data.toList == p.data.toList) = (p.toList == k.toList) := by
    rw [toList_data, toList_data, Bool.eq_iff_iff]
    simp only [beq_iff_eq]
    exact ⟨fun e => e.symm, fun e => e.symm⟩
  have hsame : (p.toList == k.toList) = true → kindL p.data.toList = kindL k.data.toList := by
    intro h
    rw [← hs] at h
    rw [beq_iff_eq.1 h]
  unfold mayL
  rw [hs]
  generalize kindL k.data.toList = K at hk lk hsame
  generalize kindL p.data.toList = P at hp lp hsame
  rw [← may_bits P (by omega) K (by omega) _ hsame]
  have hb := bits_has P (by omega) K (by omega)
  have hh := has_at P lp
  have hl := has_le P (by omega)
  by_cases k0 : K = 0
  · subst k0
    exact refmay_0 p k (Lib.hid hk) w
  · have e0 : decide (0 < K) = true := by simp; omega
    rw [e0, Bool.true_and]
    cases ht : decide (hasN P / 2 ^ K % 2 = 1) with
    | false =>
      rw [ht] at hb
      rw [Bool.false_and]
      exact refmay_no p k P (hasN P) K (by omega) (by omega) (by omega) (by omega) (Lib.hid hp) (Lib.hid hk) (Lib.hid hh) hb w
    | true =>
      rw [ht] at hb
      rw [Bool.true_and]
      by_cases k4 : K = 4
      · subst k4
        have e4 : decide (4 = 4) = true := rfl
        rw [e4, Bool.true_and]
        exact refmay_4 p k P (hasN P) _ (by omega) (by omega) (Lib.hid hp) (Lib.hid hk) (Lib.hid hh) hb rfl w
      · have e4 : decide (K = 4) = false := by simp [k4]
        rw [e4, Bool.false_and]
        exact refmay_yes p k P (hasN P) K (by omega) (by omega) (by omega) (by omega) (Lib.hid hp) (Lib.hid hk) (Lib.hid hh) hb (by rw [beq_eq_false_iff_ne]; omega) w
set_option maxRecDepth 100000 in
theorem reftakes_at (p : ByteArray) (P h : Int) (b : Bool) (_hh0 : 0 ≤ h) (_hh1 : h ≤ 100000) (hp : Hid (RKindAt p P)) (hh : Hid (HasAt P h))
    (ht : (bits BinOp.and IntKind.i64 h 1 == 1) = b) (w : World) :
    Calls Tryz.prog 29 #[.string p] w fun e w' => e = .returned (.bool b) ∧ Below w.heap.size w w' := by
  go_enter Tryz.func29, Tryz.ntmps29
  go_wp2_with fail
  refine (hp.out _).mono ?_
  rintro e w2 ⟨rfl, B2⟩
  have HB2 := Lib.hid B2
  clear B2
  go_wp2_with fail
  refine (hh.out _).mono ?_
  rintro e w' ⟨rfl, rfl⟩
  go_wp2
  all_goals
    go_ret
    refine ⟨?_, HB2.out⟩
    rfl
theorem reftakes_any (p : ByteArray) (w : World) : Calls Tryz.prog 29 #[.string p] w fun e w' => e = .returned (.bool (takesL p.data.toList)) ∧ Below w.heap.size w w' := by
  have hp : RKindAt p (kindL p.data.toList : Nat) := fun w => refkind_any p w
  have lp := kindL_le p.data.toList
  unfold takesL
  generalize kindL p.data.toList = P at hp lp
  rw [← takes_bits P (by omega)]
  have hb := bits_has P (by omega) 0 (by omega)
  have hl := has_le P (by omega)
  refine reftakes_at p P (hasN P) _ (by omega) (by omega) (Lib.hid hp) (Lib.hid (has_at P lp)) ?_ w
  simpa using hb
end Go.Proofs.YtcfgbdhpcboikaaGreatDoor
