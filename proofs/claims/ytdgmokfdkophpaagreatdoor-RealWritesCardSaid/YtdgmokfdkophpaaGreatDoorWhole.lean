/-
  real.Whole.
-/
import Derived.Test.YtdgmokfdkophpaaGreatDoorParts
namespace Go.Proofs.YtdgmokfdkophpaaGreatDoor
open Go.RowKit

/-- A number between two bounds; else nothing. -/
def boundV (v lo hi : Int) : Value := if v < lo ∨ hi < v then .tuple #[.int .i64 0, .bool false] else .tuple #[.int .i64 v, .bool true]

/-- A text that Whole takes, but for the bounds: from one to nine digits, no nought in front. -/
structure WholeAt (s : ByteArray) (v : Int) : Prop where
  ne : 1 ≤ s.size
  le : s.size ≤ 9
  dig : digs s.data.toList = s.size
  head : s.size = 1 ∨ ∃ h : 0 < s.size, ((s[0].toNat : Int) == 48) = false
  val : Lib.atoi s.data.toList = some v
  lo : 0 ≤ v
  hi : v ≤ 999999999

set_option maxRecDepth 100000 in
set_option maxHeartbeats 2000000 in
theorem whole_some (s : ByteArray) (v lo hi : Int) (w : World) (W : WholeAt s v) :
    Calls Tryz.prog 17 #[.string s, .int .i64 lo, .int .i64 hi] w fun e w' => e = .returned (boundV v lo hi) ∧ Below w.heap.size w w' := by
  obtain ⟨n, hn⟩ : ∃ n, s.size = n := ⟨_, rfl⟩
  have D := fun w => digits_at s n w (by unfold maxLen; have := W.le; omega) (by rw [W.dig, hn])
  have hs : s = ⟨s.data.toList.toArray⟩ := rfl
  have AT := fun w => atoi_at s.data.toList v w W.val (by rw [← size_list]; have := W.le; omega)
  rw [← hs] at AT
  have n1 := W.ne
  have n9 := W.le
  rw [hn] at n1 n9
  have hd := W.head
  have hne : ((n : Int) != s.size) = false := bne_eq_false_iff_eq.2 (by omega)
  have v1 := W.lo
  have v2 := W.hi
  have HD := Lib.hid D
  have HAT := Lib.hid AT
  have hz : 1 ≤ s.size := by omega
  have hz9 : s.size ≤ 9 := by omega
  have HN := Lib.hid hn
  clear D AT W hs
  rcases hd with hd | ⟨h0, hd⟩
  · have hnl : ¬ (1 : Int) < n := by omega
    have HH := Lib.hid hd
    clear hd hn
    by_cases c1 : v < lo
    · go_enter Tryz.func17, Tryz.ntmps17
      go_wp2_with (first
        | (go_at_call 24; ((with_reducible refine (HD.out _).mono ?_); rintro e w' ⟨rfl, rfl⟩))
        | (go_at_call 25; ((with_reducible refine (HAT.out _).mono ?_); rintro e w' ⟨rfl, B1⟩; have HB := Lib.hid B1; clear B1)))
      go_ret2
      exact ⟨by unfold boundV; rw [if_pos (.inl c1)]; rfl, HB.out⟩
    · by_cases c2 : hi < v
      · go_enter Tryz.func17, Tryz.ntmps17
        go_wp2_with (first
          | (go_at_call 24; ((with_reducible refine (HD.out _).mono ?_); rintro e w' ⟨rfl, rfl⟩))
          | (go_at_call 25; ((with_reducible refine (HAT.out _).mono ?_); rintro e w' ⟨rfl, B1⟩; have HB := Lib.hid B1; clear B1)))
        go_ret2
        exact ⟨by unfold boundV; rw [if_pos (.inr c2)]; rfl, HB.out⟩
      · go_enter Tryz.func17, Tryz.ntmps17
        go_wp2_with (first
          | (go_at_call 24; ((with_reducible refine (HD.out _).mono ?_); rintro e w' ⟨rfl, rfl⟩))
          | (go_at_call 25; ((with_reducible refine (HAT.out _).mono ?_); rintro e w' ⟨rfl, B1⟩; have HB := Lib.hid B1; clear B1)))
        go_ret2
        exact ⟨by unfold boundV; rw [if_neg (by omega)]; rfl, HB.out⟩
  · clear hn
    by_cases c1 : v < lo
    · go_enter Tryz.func17, Tryz.ntmps17
      go_wp2_with (first
        | (go_at_call 24; ((with_reducible refine (HD.out _).mono ?_); rintro e w' ⟨rfl, rfl⟩))
        | (go_at_call 25; ((with_reducible refine (HAT.out _).mono ?_); rintro e w' ⟨rfl, B1⟩; have HB := Lib.hid B1; clear B1)))
      all_goals go_ret2
      all_goals exact ⟨by unfold boundV; rw [if_pos (.inl c1)]; rfl, HB.out⟩
    · by_cases c2 : hi < v
      · go_enter Tryz.func17, Tryz.ntmps17
        go_wp2_with (first
          | (go_at_call 24; ((with_reducible refine (HD.out _).mono ?_); rintro e w' ⟨rfl, rfl⟩))
          | (go_at_call 25; ((with_reducible refine (HAT.out _).mono ?_); rintro e w' ⟨rfl, B1⟩; have HB := Lib.hid B1; clear B1)))
        all_goals go_ret2
        all_goals exact ⟨by unfold boundV; rw [if_pos (.inr c2)]; rfl, HB.out⟩
      · go_enter Tryz.func17, Tryz.ntmps17
        go_wp2_with (first
          | (go_at_call 24; ((with_reducible refine (HD.out _).mono ?_); rintro e w' ⟨rfl, rfl⟩))
          | (go_at_call 25; ((with_reducible refine (HAT.out _).mono ?_); rintro e w' ⟨rfl, B1⟩; have HB := Lib.hid B1; clear B1)))
        all_goals go_ret2
        all_goals exact ⟨by unfold boundV; rw [if_neg (by omega)]; rfl, HB.out⟩
end Go.Proofs.YtdgmokfdkophpaaGreatDoor
