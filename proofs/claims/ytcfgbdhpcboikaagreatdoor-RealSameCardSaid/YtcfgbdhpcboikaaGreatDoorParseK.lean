/-
  Two numerals' values: 1.50 and 123456789e13.
  real.Whole.
  The small case that must be in any case (colanderlaw10.shown) returns true.
-/
import Derived.Test.YtcfgbdhpcboikaaGreatDoorReadC
import Derived.Test.YtcfgbdhpcboikaaGreatDoorSpec
import Derived.Test.YtcfgbdhpcboikaaGreatDoorParts
import Derived.Test.YtcfgbdhpcboikaaGreatDoorKnown
import Derived.Test.YtcfgbdhpcboikaaGreatDoorCmp
namespace Go.Proofs.YtcfgbdhpcboikaaGreatDoor
open Go.RowKit

def s150 : ByteArray := { data := #[49, 46, 53, 48] }
def sBig : ByteArray := { data := #[49, 50, 51, 52, 53, 54, 55, 56, 57, 101, 49, 51] }

theorem num150 : NumText s150 0 4 := by
  refine ⟨by decide, by decide, ?_, ?_, by kernel_rfl, ?_⟩
  · intro j h _ hj
    match j, h, hj with
    | 0, _, _ => rfl
    | 1, _, _ => rfl
    | 2, _, _ => rfl
    | 3, _, _ => rfl
  · intro j h _ hj
    match j, h, hj with
    | 0, _, _ => intro _; kernel_rfl
    | 1, _, _ => intro _; kernel_rfl
    | 2, _, _ => intro e; exact absurd (show (53 : UInt8) = 46 from e) (by decide)
    | 3, _, _ => intro e; exact absurd (show (48 : UInt8) = 46 from e) (by decide)
  · intro h
    exact absurd h (by decide)
theorem numBig : NumText sBig 0 9 := by
  refine ⟨by decide, by decide, ?_, ?_, by kernel_rfl, ?_⟩
  · intro j h _ hj
    match j, h, hj with
    | 0, _, _ => rfl
    | 1, _, _ => rfl
    | 2, _, _ => rfl
    | 3, _, _ => rfl
    | 4, _, _ => rfl
    | 5, _, _ => rfl
    | 6, _, _ => rfl
    | 7, _, _ => rfl
    | 8, _, _ => rfl
  · intro j h _ hj
    match j, h, hj with
    | 0, _, _ => intro e; exact absurd (show (49 : UInt8) = 46 from e) (by decide)
    | 1, _, _ => intro e; exact absurd (show (50 : UInt8) = 46 from e) (by decide)
    | 2, _, _ => intro e; exact absurd (show (51 : UInt8) = 46 from e) (by decide)
    | 3, _, _ => intro e; exact absurd (show (52 : UInt8) = 46 from e) (by decide)
    | 4, _, _ => intro e; exact absurd (show (53 : UInt8) = 46 from e) (by decide)
    | 5, _, _ => intro e; exact absurd (show (54 : UInt8) = 46 from e) (by decide)
    | 6, _, _ => intro e; exact absurd (show (55 : UInt8) = 46 from e) (by decide)
    | 7, _, _ => intro e; exact absurd (show (56 : UInt8) = 46 from e) (by decide)
    | 8, _, _ => intro e; exact absurd (show (57 : UInt8) = 46 from e) (by decide)
  · intro h
    exact .inl rfl

theorem read150 (w : World) : Calls Tryz.prog 234 #[.string s150] w fun e w' => e = .returned (.tuple #[.int .u64 (150 : Nat), .int .i64 (-2), .bool false, .bool false, .bool false, .int .i64 s150.size, .bool true]) ∧ w = w' := by
  have := read_any s150 false 0 4 w (by decide) ⟨by decide, .inl ⟨rfl, rfl, rfl, rfl⟩⟩ num150 0 (.inl ⟨rfl, rfl⟩)
  have e : rfold (part s150 0 4) = ⟨150, 3, 3, 1, true, true, false⟩ := by kernel_rfl
  rw [e] at this
  exact this
theorem readBig (w : World) : Calls Tryz.prog 234 #[.string sBig] w fun e w' => e = .returned (.tuple #[.int .u64 (123456789 : Nat), .int .i64 (13 : Nat), .bool false, .bool false, .bool false, .int .i64 sBig.size, .bool true]) ∧ w = w' := by
  have := read_any sBig false 0 9 w (by decide) ⟨by decide, .inl ⟨rfl, rfl, rfl, rfl⟩⟩ numBig 13 (.inr ⟨by decide, 10, 1, .inl ⟨rfl, rfl, rfl⟩, by decide, (by
    intro j h hj
    match j, h, hj with
    | 10, _, _ => rfl
    | 11, _, _ => rfl), by kernel_rfl⟩)
  have e : rfold (part sBig 0 9) = ⟨123456789, 9, 9, 0, false, true, false⟩ := by kernel_rfl
  rw [e] at this
  exact this

theorem parse150 (w : World) (T : Tabs w) : Calls Tryz.prog 21 #[.string s150] w fun e w' => e = .returned (.tuple #[.float .f64 4609434218613702656, .bool true]) ∧ w = w' := by
  refine parse_ok s150 4609434218613702656 w (by decide) (by kernel_rfl) (by kernel_rfl) ?_
  intro w' hw
  subst hw
  refine atof_exact s150 150 (-2) false 4609434218613702656 w T (by decide) (by decide) (by decide) (by decide) (fun w => special_plain s150 w (by decide) (by decide) (by decide) rfl rfl) read150 ?_
  intro w' T'
  exact exact_div 150 2 false 4609434218613702656 w' T' (by decide) (by decide) (by decide) (by kernel_rfl)
theorem parseBig (w : World) (T : Tabs w) : Calls Tryz.prog 21 #[.string sBig] w fun e w' => e = .returned (.tuple #[.float .f64 4922640295842793058, .bool true]) ∧ w = w' := by
  refine parse_ok sBig 4922640295842793058 w (by decide) (by kernel_rfl) (by kernel_rfl) ?_
  intro w' hw
  subst hw
  refine atof_exact sBig 123456789 13 false 4922640295842793058 w T (by decide) (by decide) (by decide) (by decide) (fun w => special_plain sBig w (by decide) (by decide) (by decide) rfl rfl) readBig ?_
  intro w' T'
  exact exact_mul 123456789 13 false 4922640295842793058 w' T' (by decide) (by decide) (by decide) (by kernel_rfl) (by kernel_rfl) (by kernel_rfl)
end Go.Proofs.YtcfgbdhpcboikaaGreatDoor

namespace Go.Proofs.YtcfgbdhpcboikaaGreatDoor
open Go.RowKit

/-- A number between two bounds; else nothing. -/
def boundV (v lo hi : Int) : Value := if v < lo ∨ hi < v then .tuple #[.int .i64 0, .bool false] else .tuple #[.int .i64 v, .bool true]

/-- A text that Whole takes, but for the bounds: from one to nine digits, no nought in front. -/
structure WholeAt (s : ByteArray) (v : Int) : Prop where
  ne : 1 ≤ s.size
  le : s.size ≤ 9
  dig : digs s.data.toList = s.size
  head : s.size = 1 ∨ ∃ h : 0 < s.size, ((s[0].toNat : Int) == 48) = false
  val : Lib.atoi s.data.toList = some v
  lo : 0 ≤ v
  hi : v ≤ 999999999

set_option maxRecDepth 100000 in
set_option maxHeartbeats 2000000 in
theorem whole_some (s : ByteArray) (v lo hi : Int) (w : World) (W : WholeAt s v) :
    Calls Tryz.prog 62 #[.string s, .int .i64 lo, .int .i64 hi] w fun e w' => e = .returned (boundV v lo hi) ∧ Below w.heap.size w w' := by
  obtain ⟨n, hn⟩ : ∃ n, s.size = n := ⟨_, rfl⟩
  have D := fun w => digits_at s n w (by unfold maxLen; have := W.le; omega) (by rw [W.dig, hn])
  have hs : s = ⟨s.data.toList.toArray⟩ := rfl
  have AT := fun w => atoi_at s.data.toList v w W.val (by rw [← size_list]; have := W.le; omega)
  rw [← hs] at AT
  have n1 := W.ne
  have n9 := W.le
  rw [hn] at n1 n9
  have hd := W.head
  have hne : ((n : Int) != s.size) = false := bne_eq_false_iff_eq.2 (by omega)
  have v1 := W.lo
  have v2 := W.hi
  have HD := Lib.hid D
  have HAT := Lib.hid AT
  have hz : 1 ≤ s.size := by omega
  have hz9 : s.size ≤ 9 := by omega
  have HN := Lib.hid hn
  clear D AT W hs
  rcases hd with hd | ⟨h0, hd⟩
  · have hnl : ¬ (1 : Int) < n := by omega
    have HH := Lib.hid hd
    clear hd hn
    by_cases c1 : v < lo
    · go_enter Tryz.func62, Tryz.ntmps62
      go_wp2_with (first
        | (go_at_call 112; ((with_reducible refine (HD.out _).mono ?_); rintro e w' ⟨rfl, rfl⟩))
        | (go_at_call 113; ((with_reducible refine (HAT.out _).mono ?_); rintro e w' ⟨rfl, B1⟩; have HB := Lib.hid B1; clear B1)))
      go_ret2
      exact ⟨by unfold boundV; rw [if_pos (.inl c1)]; rfl, HB.out⟩
    · by_cases c2 : hi < v
      · go_enter Tryz.func62, Tryz.ntmps62
        go_wp2_with (first
          | (go_at_call 112; ((with_reducible refine (HD.out _).mono ?_); rintro e w' ⟨rfl, rfl⟩))
          | (go_at_call 113; ((with_reducible refine (HAT.out _).mono ?_); rintro e w' ⟨rfl, B1⟩; have HB := Lib.hid B1; clear B1)))
        go_ret2
        exact ⟨by unfold boundV; rw [if_pos (.inr c2)]; rfl, HB.out⟩
      · go_enter Tryz.func62, Tryz.ntmps62
        go_wp2_with (first
          | (go_at_call 112; ((with_reducible refine (HD.out _).mono ?_); rintro e w' ⟨rfl, rfl⟩))
          | (go_at_call 113; ((with_reducible refine (HAT.out _).mono ?_); rintro e w' ⟨rfl, B1⟩; have HB := Lib.hid B1; clear B1)))
        go_ret2
        exact ⟨by unfold boundV; rw [if_neg (by omega)]; rfl, HB.out⟩
  · clear hn
    by_cases c1 : v < lo
    · go_enter Tryz.func62, Tryz.ntmps62
      go_wp2_with (first
        | (go_at_call 112; ((with_reducible refine (HD.out _).mono ?_); rintro e w' ⟨rfl, rfl⟩))
        | (go_at_call 113; ((with_reducible refine (HAT.out _).mono ?_); rintro e w' ⟨rfl, B1⟩; have HB := Lib.hid B1; clear B1)))
      all_goals go_ret2
      all_goals exact ⟨by unfold boundV; rw [if_pos (.inl c1)]; rfl, HB.out⟩
    · by_cases c2 : hi < v
      · go_enter Tryz.func62, Tryz.ntmps62
        go_wp2_with (first
          | (go_at_call 112; ((with_reducible refine (HD.out _).mono ?_); rintro e w' ⟨rfl, rfl⟩))
          | (go_at_call 113; ((with_reducible refine (HAT.out _).mono ?_); rintro e w' ⟨rfl, B1⟩; have HB := Lib.hid B1; clear B1)))
        all_goals go_ret2
        all_goals exact ⟨by unfold boundV; rw [if_pos (.inr c2)]; rfl, HB.out⟩
      · go_enter Tryz.func62, Tryz.ntmps62
        go_wp2_with (first
          | (go_at_call 112; ((with_reducible refine (HD.out _).mono ?_); rintro e w' ⟨rfl, rfl⟩))
          | (go_at_call 113; ((with_reducible refine (HAT.out _).mono ?_); rintro e w' ⟨rfl, B1⟩; have HB := Lib.hid B1; clear B1)))
        all_goals go_ret2
        all_goals exact ⟨by unfold boundV; rw [if_neg (by omega)]; rfl, HB.out⟩
end Go.Proofs.YtcfgbdhpcboikaaGreatDoor

namespace Go.Proofs.YtcfgbdhpcboikaaGreatDoor
open Go.RowKit

set_option maxRecDepth 100000 in
set_option maxHeartbeats 1500000 in
theorem fix_big (w : World) (T : Tabs w) : Calls Tryz.prog 20 #[.string sBig] w fun e w' => e = .returned (.tuple #[.string { data := #[49, 46, 50, 51, 52, 53, 54, 55, 56, 57, 101, 43, 50, 49] }, .bool true]) ∧ Below w.heap.size w w' := by
  have HT := Lib.hid T
  clear T
  obtain ⟨s, hs⟩ : ∃ s, s = sBig := ⟨_, rfl⟩
  have PB := fun w T => parseBig w T
  rw [← hs] at PB ⊢
  have HPB := Lib.hid PB
  clear PB hs
  go_enter Tryz.func20, Tryz.ntmps20
  go_wp2_with (first
    | (go_at_call 21; ((with_reducible refine (HPB.out _ HT.out).mono ?_); rintro e w' ⟨rfl, rfl⟩))
    | (go_at_call 63; ((with_reducible refine (print_b _ HT.out).mono ?_); rintro e w' ⟨rfl, B1⟩; have HB := Lib.hid B1; clear B1)))
  go_ret2
  exact ⟨rfl, HB.out⟩

theorem whole12 : WholeAt { data := #[49, 50] } 12 :=
  ⟨by decide, by decide, by kernel_rfl, .inr ⟨by decide, rfl⟩, by kernel_rfl, by decide, by decide⟩
theorem whole_12 (w : World) : Calls Tryz.prog 62 #[.string { data := #[49, 50] }, .int .i64 0, .int .i64 999] w fun e w' => e = .returned (.tuple #[.int .i64 12, .bool true]) ∧ Below w.heap.size w w' := by
  have := whole_some { data := #[49, 50] } 12 0 999 w whole12
  have e : boundV 12 0 999 = .tuple #[.int .i64 12, .bool true] := by unfold boundV; rw [if_neg (by decide)]
  rw [e] at this
  exact this
theorem cmp12 (w : World) : Calls Tryz.prog 22 #[.float .f64 4607182418800017408, .float .f64 4611686018427387904] w fun e w' => e = .returned (.int .i64 (-1)) ∧ w = w' := by
  have := compare_any w 4607182418800017408 4611686018427387904
  have e : cmpF 4607182418800017408 4611686018427387904 = -1 := by kernel_rfl
  rw [e] at this
  exact this
theorem clamp725 (w : World) : Calls Tryz.prog 64 #[.float .f64 4619567317775286272, .float .f64 4611686018427387904, .float .f64 4617315517961601024] w fun e w' => e = .returned (.float .f64 4617315517961601024) ∧ w = w' := by
  have := clamp_any w 4619567317775286272 4611686018427387904 4617315517961601024
  have e : clampF 4619567317775286272 4611686018427387904 4617315517961601024 = 4617315517961601024 := by kernel_rfl
  rw [e] at this
  exact this

set_option maxRecDepth 100000 in
set_option maxHeartbeats 2000000 in
theorem shown_any (w : World) (T : Tabs w) : Calls Tryz.prog 19 #[] w fun e w' => e = .returned (.bool true) ∧ Below w.heap.size w w' := by
  have HT := Lib.hid T
  clear T
  have o1 : (FloatKind.f64.format.order 4609434218613702656 4609434218613702656 == some .eq) = true := by kernel_rfl
  have o2 : (FloatKind.f64.format.order 4617315517961601024 4617315517961601024 == some .eq) = true := by kernel_rfl
  have PA : ∀ w, Tabs w → Calls Tryz.prog 21 #[.string { data := #[49, 46, 53, 48] }] w fun e w' => e = .returned (.tuple #[.float .f64 4609434218613702656, .bool true]) ∧ w = w' := parse150
  have FB : ∀ w, Tabs w → Calls Tryz.prog 20 #[.string { data := #[49, 50, 51, 52, 53, 54, 55, 56, 57, 101, 49, 51] }] w fun e w' => e = .returned (.tuple #[.string { data := #[49, 46, 50, 51, 52, 53, 54, 55, 56, 57, 101, 43, 50, 49] }, .bool true]) ∧ Below w.heap.size w w' := fix_big
  have HPA := Lib.hid PA
  have HFB := Lib.hid FB
  clear PA FB
  go_enter Tryz.func19, Tryz.ntmps19
  go_wp2_with fail
  refine (HPA.out _ HT.out).mono ?_
  rintro e w1 ⟨rfl, rfl⟩
  go_wp2_with fail
  refine (HFB.out _ HT.out).mono ?_
  rintro e w2 ⟨rfl, B2⟩
  have HB2 := Lib.hid B2
  clear B2
  go_wp2_with fail
  refine (whole_12 _).mono ?_
  rintro e w3 ⟨rfl, B3⟩
  have HB3 := Lib.hid (HB2.out.trans (B3.mono HB2.out.size))
  clear B3
  go_wp2_with fail
  refine (print_a _ (HT.out.below HB3.out (Nat.le_refl _))).mono ?_
  rintro e w4 ⟨rfl, B4⟩
  have HB4 := Lib.hid (HB3.out.trans (B4.mono HB3.out.size))
  clear B4
  go_wp2_with fail
  refine (cmp12 _).mono ?_
  rintro e w5 ⟨rfl, rfl⟩
  go_wp2_with fail
  refine (clamp725 _).mono ?_
  rintro e w5 ⟨rfl, rfl⟩
  go_wp2
  go_ret
  exact ⟨rfl, HB4.out⟩
end Go.Proofs.YtcfgbdhpcboikaaGreatDoor
