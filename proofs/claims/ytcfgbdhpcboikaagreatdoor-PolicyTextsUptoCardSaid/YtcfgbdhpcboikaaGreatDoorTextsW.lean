/-
  PolicyTexts, for every text of at most a million bytes: the walk.
-/
import Derived.Test.YtcfgbdhpcboikaaGreatDoorShow18
import Derived.Test.YtcfgbdhpcboikaaGreatDoorRefUF
namespace Go.Proofs.YtcfgbdhpcboikaaGreatDoor
open Go.RowKit

set_option maxRecDepth 100000 in
set_option maxHeartbeats 2000000 in
theorem texts_walk (s a tt ll : ByteArray) (b : Bool) (w : World) (HT : Hid (Tabs w)) (HS : Hid (Calls Tryz.prog 23 #[] w (SomeBool true w)))
    (S1 : Hid (∀ W, Tabs W → Calls Tryz.prog 30 #[.string s] W fun e w' => e = .returned (.tuple #[.string a, .bool b]) ∧ Below W.heap.size W w'))
    (S2 : Hid (∀ W, Calls Tryz.prog 31 #[.string s] W fun e w' => e = .returned (.tuple #[.string a, .bool b]) ∧ Below W.heap.size W w'))
    (T1 : Hid (∀ W, Tabs W → Calls Tryz.prog 32 #[.string s] W fun e w' => e = .returned (.string tt) ∧ Below W.heap.size W w'))
    (T2 : Hid (∀ W, Calls Tryz.prog 33 #[.string s] W fun e w' => e = .returned (.string tt) ∧ Below W.heap.size W w'))
    (L1 : Hid (∀ W, Tabs W → Calls Tryz.prog 34 #[.string s] W fun e w' => e = .returned (.string ll) ∧ Below W.heap.size W w'))
    (L2 : Hid (∀ W, Calls Tryz.prog 35 #[.string s] W fun e w' => e = .returned (.string ll) ∧ Below W.heap.size W w')) :
    Calls Tryz.prog 5 #[.string s] w (SomeBool true w) := by
  have e1 : (tt.toList == tt.toList) = true := by simp
  have e2 : (ll.toList == ll.toList) = true := by simp
  have e3 : (a.toList == a.toList) = true := by simp
  have e4 : (b == b) = true := by simp
  go_enter Tryz.func5, Tryz.ntmps5
  go_wp2_with fail
  refine HS.out.mono ?_
  unfold SomeBool
  rintro e W1 ⟨rfl, B1⟩
  have HB1 := Lib.hid B1
  have HT1 := Lib.hid (HT.out.below HB1.out (Nat.le_refl _))
  clear B1
  go_wp2_with fail
  refine (S1.out _ HT1.out).mono ?_
  rintro e W2 ⟨rfl, B2⟩
  have HB2 := Lib.hid (HB1.out.trans (B2.mono HB1.out.size))
  clear B2
  go_wp2_with fail
  refine (S2.out _).mono ?_
  rintro e W3 ⟨rfl, B3⟩
  have HB3 := Lib.hid (HB2.out.trans (B3.mono HB2.out.size))
  have HT3 := Lib.hid (HT.out.below HB3.out (Nat.le_refl _))
  clear B3
  go_wp2_with fail
  refine (T1.out _ HT3.out).mono ?_
  rintro e W4 ⟨rfl, B4⟩
  have HB4 := Lib.hid (HB3.out.trans (B4.mono HB3.out.size))
  clear B4
  go_wp2_with fail
  refine (T2.out _).mono ?_
  rintro e W5 ⟨rfl, B5⟩
  have HB5 := Lib.hid (HB4.out.trans (B5.mono HB4.out.size))
  have HT5 := Lib.hid (HT.out.below HB5.out (Nat.le_refl _))
  clear B5
  go_wp2_with fail
  refine (L1.out _ HT5.out).mono ?_
  rintro e W6 ⟨rfl, B6⟩
  have HB6 := Lib.hid (HB5.out.trans (B6.mono HB5.out.size))
  clear B6
  go_wp2_with fail
  refine (L2.out _).mono ?_
  rintro e W7 ⟨rfl, B7⟩
  have HB7 := Lib.hid (HB6.out.trans (B7.mono HB6.out.size))
  clear B7
  go_wp2
  go_ret
  exact ⟨rfl, HB7.out⟩
theorem texts_all (s : ByteArray) (hs : s.size ≤ 1048576) (w : World) (T : Tabs w) : Calls Tryz.prog 5 #[.string s] w (SomeBool true w) := by
  obtain ⟨a, b, hv⟩ : ∃ a b, schemeV s.data.toList = .tuple #[.string a, .bool b] := by
    cases h : schemeL s.data.toList with
    | none => exact ⟨_, _, schemeV_none h⟩
    | some x => exact ⟨_, _, schemeV_some h⟩
  refine texts_walk s a ⟨(textL s.data.toList).toArray⟩ ⟨(linkL s.data.toList).toArray⟩ b w T (shown18 w T) ?_ ?_ (fun W TW => text_any s (by omega) W TW) (fun W => rtext_any s (by omega) W) (fun W TW => link_any s (by omega) W TW) (fun W => rlink_any s (by omega) W)
  · intro W TW
    rw [← hv]
    exact scheme_any s (by omega) W TW
  · intro W
    rw [← hv]
    exact rscheme_any s (by omega) W
end Go.Proofs.YtcfgbdhpcboikaaGreatDoor
