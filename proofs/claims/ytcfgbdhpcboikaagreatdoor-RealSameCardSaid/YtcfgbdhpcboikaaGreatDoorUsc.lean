/-
  internal/strconv.uscale and what it stands on.
-/
import Derived.Test.YtcfgbdhpcboikaaGreatDoorSpec
import Derived.Deep.QuietTactic
import Derived.BigQuiet
import Derived.Laws.BitsAllLaws
namespace Go.Proofs.YtcfgbdhpcboikaaGreatDoor
open Go.RowKit

theorem mul64_at (x y hi mid : Nat) (w : World) (hx : x < 18446744073709551616) (hy : y < 18446744073709551616) (h1 : x * y / 18446744073709551616 = hi) (h2 : x * y % 18446744073709551616 = mid) :
    Calls Tryz.prog 202 #[.int .u64 x, .int .u64 y] w fun e w' => e = .returned (.tuple #[.int .u64 hi, .int .u64 mid]) ∧ w = w' := by
  refine (Tryz.bits_Mul64 x y hx hy w).mono ?_
  rintro e w' ⟨rfl, rfl⟩
  rw [h1, h2]
  exact ⟨rfl, rfl⟩
theorem and63 (s : Nat) (h : s < 64) : bits .and .i64 (s : Int) 63 = s := by
  have all : ∀ n : Fin 64, bits .and .i64 ((n.val : Nat) : Int) 63 = ((n.val : Nat) : Int) := by decide +kernel
  exact all ⟨s, h⟩

set_option maxRecDepth 100000 in
set_option maxHeartbeats 2000000 in
theorem uscale_far (x h l s hi mid : Nat) (w : World) (b o : Nat) (c0 : w.cell? ⟨b, o, none⟩ = some (.int .u64 h)) (_c1 : w.cell? ⟨b, o + 1, none⟩ = some (.int .u64 l)) (c2 : w.cell? ⟨b, o + 2, none⟩ = some (.int .i64 s))
    (hx : x < 18446744073709551616) (hh : h < 18446744073709551616) (hs : s < 64) (h1 : x * h / 18446744073709551616 = hi) (h2 : x * h % 18446744073709551616 = mid)
    (hc : (IntKind.u64.wrap ((hi : Int) / 2 ^ s * 2 ^ s) != (hi : Int)) = true) :
    Calls Tryz.prog 274 #[.int .u64 x, .pointer (some ⟨b, o, none⟩)] w fun e w' => e = .returned (.int .u64 (bits .or .u64 ((hi : Int) / 2 ^ s) 1)) ∧ w = w' := by
  have M1 := fun w => mul64_at x h hi mid w hx hh h1 h2
  have a63 := and63 s hs
  have HM1 := Lib.hid M1
  clear M1 h1 h2 hx hh
  go_enter Tryz.func274, Tryz.ntmps274
  go_wp2_with (go_at_call 202; ((with_reducible refine (HM1.out _).mono ?_); rintro e w' ⟨rfl, rfl⟩))
  go_ret
  exact ⟨rfl, rfl⟩

set_option maxRecDepth 100000 in
set_option maxHeartbeats 2000000 in
theorem uscale_near (x h l s hi mid mid2 lo2 : Nat) (w : World) (b o : Nat) (c0 : w.cell? ⟨b, o, none⟩ = some (.int .u64 h)) (c1 : w.cell? ⟨b, o + 1, none⟩ = some (.int .u64 l)) (c2 : w.cell? ⟨b, o + 2, none⟩ = some (.int .i64 s))
    (hx : x < 18446744073709551616) (hh : h < 18446744073709551616) (hl : l < 18446744073709551616) (hs : s < 64) (h1 : x * h / 18446744073709551616 = hi) (h2 : x * h % 18446744073709551616 = mid) (h3 : x * l / 18446744073709551616 = mid2) (h4 : x * l % 18446744073709551616 = lo2)
    (hc : (IntKind.u64.wrap ((hi : Int) / 2 ^ s * 2 ^ s) != (hi : Int)) = false) (q : Bool) (hq : decide (mid < mid2) = q) (z : Int) (hz : IntKind.u64.wrap (if q then (hi : Int) - 1 else (hi : Int)) = z) (r : Bool) (hr : decide (1 < IntKind.u64.wrap ((mid : Int) - mid2)) = r) :
    Calls Tryz.prog 274 #[.int .u64 x, .pointer (some ⟨b, o, none⟩)] w fun e w' => e = .returned (.int .u64 (bits .or .u64 (z / 2 ^ s) (if r then 1 else 0))) ∧ ∃ n, w' = w.drewN n := by
  have M1 := fun w => mul64_at x h hi mid w hx hh h1 h2
  have M2 := fun w => mul64_at x l mid2 lo2 w hx hl h3 h4
  have a63 := and63 s hs
  have HM1 := Lib.hid M1
  have HM2 := Lib.hid M2
  clear M1 M2 h1 h2 h3 h4 hx hh hl
  cases q
  all_goals
    simp only [if_true, if_false, Bool.false_eq_true] at hz
    go_enter Tryz.func274, Tryz.ntmps274
    go_wp2_with (first
      | (go_at_call 202; ((with_reducible refine (HM1.out _).mono ?_); rintro e w' ⟨rfl, rfl⟩))
      | (go_at_call 202; ((with_reducible refine (HM2.out _).mono ?_); rintro e w' ⟨rfl, rfl⟩))
      | (go_at_call 242; ((with_reducible refine (bool2_u64_true _).mono ?_); rintro e w' ⟨rfl, rfl⟩))
      | (go_at_call 242; ((with_reducible refine (bool2_u64_false _).mono ?_); rintro e w' ⟨rfl, rfl⟩)))
    cases r
    all_goals
      go_quiet ((first | (go_at_call 242; exact Calls.quiet_of_same ((bool2_u64_true _).mono fun _ _ h => ⟨h.1, h.2.symm⟩)) | (go_at_call 242; exact Calls.quiet_of_same ((bool2_u64_false _).mono fun _ _ h => ⟨h.1, h.2.symm⟩))))
      go_wp2
      go_ret
      exact ⟨rfl, _, rfl⟩

/-- What uscale gives: x * h:l scaled down by s, with a sticky bit. -/
def uscN (x h l s : Nat) : Nat :=
  let hi := x * h / 18446744073709551616
  let mid := x * h % 18446744073709551616
  let mid2 := x * l / 18446744073709551616
  if hi / 2 ^ s * 2 ^ s ≠ hi then hi / 2 ^ s ||| 1
  else (if mid < mid2 then (hi + 18446744073709551615) % 18446744073709551616 else hi) / 2 ^ s ||| (if 1 < (mid + 18446744073709551616 - mid2) % 18446744073709551616 then 1 else 0)

theorem wrap_u64 (z : Int) : IntKind.u64.wrap z = z % 18446744073709551616 := by
  have h1 : IntKind.u64.signed = false := rfl
  have h2 : IntKind.u64.bits = 64 := rfl
  unfold IntKind.wrap
  simp only [h1, h2, Bool.false_and, Bool.false_eq_true, if_false]
  rfl
theorem wrap_nat (n : Nat) (h : n < 18446744073709551616) : IntKind.u64.wrap (n : Int) = n := by rw [wrap_u64]; omega
theorem or_nat (a b : Nat) (ha : a < 18446744073709551616) (hb : b < 18446744073709551616) : bits .or .u64 (a : Int) (b : Int) = ((a ||| b : Nat) : Int) := u64_or_nat a b ha hb
theorem mul_hi_lt (x y : Nat) (hx : x < 18446744073709551616) (hy : y < 18446744073709551616) : x * y / 18446744073709551616 < 18446744073709551616 := by
  rw [Nat.div_lt_iff_lt_mul (by omega)]
  exact Nat.mul_lt_mul'' hx hy
theorem div_pow_lt (a s : Nat) (ha : a < 18446744073709551616) : a / 2 ^ s < 18446744073709551616 := Nat.lt_of_le_of_lt (Nat.div_le_self _ _) ha

theorem uscale_any (x h l s : Nat) (w : World) (b o : Nat) (c0 : w.cell? ⟨b, o, none⟩ = some (.int .u64 h)) (c1 : w.cell? ⟨b, o + 1, none⟩ = some (.int .u64 l)) (c2 : w.cell? ⟨b, o + 2, none⟩ = some (.int .i64 s))
    (hx : x < 18446744073709551616) (hh : h < 18446744073709551616) (hl : l < 18446744073709551616) (hs : s < 64) :
    Calls Tryz.prog 274 #[.int .u64 x, .pointer (some ⟨b, o, none⟩)] w fun e w' => e = .returned (.int .u64 (uscN x h l s : Nat)) ∧ ∃ n, w' = w.drewN n := by
  obtain ⟨hi, h1⟩ : ∃ hi, x * h / 18446744073709551616 = hi := ⟨_, rfl⟩
  obtain ⟨mid, h2⟩ : ∃ mid, x * h % 18446744073709551616 = mid := ⟨_, rfl⟩
  obtain ⟨mid2, h3⟩ : ∃ mid2, x * l / 18446744073709551616 = mid2 := ⟨_, rfl⟩
  obtain ⟨lo2, h4⟩ : ∃ lo2, x * l % 18446744073709551616 = lo2 := ⟨_, rfl⟩
  have b1 : hi < 18446744073709551616 := by rw [← h1]; exact mul_hi_lt x h hx hh
  have b2 : mid < 18446744073709551616 := by rw [← h2]; exact Nat.mod_lt _ (by omega)
  have b3 : mid2 < 18446744073709551616 := by rw [← h3]; exact mul_hi_lt x l hx hl
  have d1 : hi / 2 ^ s < 18446744073709551616 := div_pow_lt hi s b1
  have hp : ((2 : Int) ^ s) = ((2 ^ s : Nat) : Int) := by simp
  have hdiv : (hi : Int) / 2 ^ s = ((hi / 2 ^ s : Nat) : Int) := by rw [hp, Int.natCast_ediv]
  have hmul : hi / 2 ^ s * 2 ^ s ≤ hi := Nat.div_mul_le_self _ _
  have hw : IntKind.u64.wrap ((hi : Int) / 2 ^ s * 2 ^ s) = ((hi / 2 ^ s * 2 ^ s : Nat) : Int) := by
    rw [hdiv, hp, ← Int.natCast_mul]
    exact wrap_nat _ (by omega)
  by_cases hc : hi / 2 ^ s * 2 ^ s ≠ hi
  · refine (uscale_far x h l s hi mid w b o c0 c1 c2 hx hh hs h1 h2 (by rw [hw, bne_iff_ne]; omega)).mono ?_
    rintro e w' ⟨rfl, rfl⟩
    refine ⟨?_, 0, rfl⟩
    have : uscN x h l s = hi / 2 ^ s ||| 1 := by
      unfold uscN
      simp only [h1]
      rw [if_pos hc]
    rw [this, hdiv]
    have := or_nat (hi / 2 ^ s) 1 d1 (by omega)
    rw [← this]
    rfl
  · have hw2 : IntKind.u64.wrap ((mid : Int) - mid2) = (((mid + 18446744073709551616 - mid2) % 18446744073709551616 : Nat) : Int) := by
      rw [wrap_u64]
      omega
    have hz : IntKind.u64.wrap (if decide (mid < mid2) = true then (hi : Int) - 1 else (hi : Int)) = (((if mid < mid2 then (hi + 18446744073709551615) % 18446744073709551616 else hi) : Nat) : Int) := by
      by_cases hq : mid < mid2
      · simp only [hq, decide_true, if_true]
        rw [wrap_u64]
        omega
      · simp only [hq, decide_false, if_false, Bool.false_eq_true]
        exact wrap_nat _ b1
    refine (uscale_near x h l s hi mid mid2 lo2 w b o c0 c1 c2 hx hh hl hs h1 h2 h3 h4 (by rw [hw]; exact bne_eq_false_iff_eq.2 (by omega)) _ rfl _ hz _ rfl).mono ?_
    rintro e w' ⟨rfl, hn⟩
    refine ⟨?_, hn⟩
    have e1 : uscN x h l s = (if mid < mid2 then (hi + 18446744073709551615) % 18446744073709551616 else hi) / 2 ^ s ||| (if 1 < (mid + 18446744073709551616 - mid2) % 18446744073709551616 then 1 else 0) := by
      unfold uscN
      simp only [h1, h2, h3]
      rw [if_neg hc]
    obtain ⟨H, hH⟩ : ∃ H, H = (if mid < mid2 then (hi + 18446744073709551615) % 18446744073709551616 else hi) := ⟨_, rfl⟩
    rw [← hH] at e1 ⊢
    have bH : H < 18446744073709551616 := by rw [hH]; split <;> omega
    rw [e1, hw2]
    have hd2 : (H : Int) / 2 ^ s = ((H / 2 ^ s : Nat) : Int) := by rw [hp, Int.natCast_ediv]
    rw [hd2]
    by_cases hr : 1 < (mid + 18446744073709551616 - mid2) % 18446744073709551616
    · rw [if_pos hr, if_pos (decide_eq_true (by omega))]
      have := or_nat (H / 2 ^ s) 1 (div_pow_lt H s bH) (by omega)
      rw [← this]
      rfl
    · rw [if_neg hr, if_neg (by rw [decide_eq_true_eq]; omega)]
      have := or_nat (H / 2 ^ s) 0 (div_pow_lt H s bH) (by omega)
      rw [← this]
      rfl
end Go.Proofs.YtcfgbdhpcboikaaGreatDoor
