/-
  internal/strconv.parseFloat64 and atof64: the nearest float of a numeral whose digits are few.
-/
import Derived.Test.YtcfgbdhpcboikaaGreatDoorFloatN
import Derived.Test.YtcfgbdhpcboikaaGreatDoorPack
import Derived.Test.YtcfgbdhpcboikaaGreatDoorShortT
namespace Go.Proofs.YtcfgbdhpcboikaaGreatDoor
open Go.RowKit

theorem bit_len (d : Nat) (h1 : 1 ≤ d) (h2 : d < 18446744073709551616) : ∃ b, Lib.bitLen d = b ∧ 1 ≤ b ∧ b ≤ 64 ∧ 2 ^ (b - 1) ≤ d ∧ d < 2 ^ b := by
  obtain ⟨g1, g2, g3⟩ := Lib.bitLenAux_bounds 64 d (by omega) (by omega)
  have e1 : Lib.bitLen d = Lib.bitLenAux 64 d := rfl
  rw [e1]
  generalize Lib.bitLenAux 64 d = L at *
  refine ⟨L, rfl, ?_, ?_, by omega, by omega⟩
  · refine Nat.pos_of_ne_zero fun h => ?_
    subst h
    simp at g2
    omega
  · refine Nat.le_of_not_lt fun h => ?_
    have : 2 ^ 64 ≤ 2 ^ (L - 1) := Nat.pow_le_pow_right (by decide) (by omega)
    have e64 : (2 : Nat) ^ 64 = 18446744073709551616 := by decide
    omega
theorem lp_bd (i : Nat) (hi : i < 696) : -1200 ≤ lpI i ∧ lpI i ≤ 1200 := by unfold lpI; omega

theorem par_k (b i u : Nat) : (((parK b i + cutK u : Nat) : Int) - 1074) = -(min 1074 (53 - (b : Int) - lpI i) - cutK u) := by
  unfold parK
  generalize cutK u = c
  generalize lpI i = l
  omega
theorem packed_is (S K m r : Nat) (e : Ending) (hp : Packed S K m e) (er : min (K * 4503599627370496 + m) infR = r) (hrI : r < infR) (h : 4503599627370496 ≤ m ∨ K = 0) : e = .returned (.tuple #[.float .f64 (S + r), .nilIface]) := by
  have ei : infR = 9218868437227405312 := rfl
  rw [ei] at er hrI
  unfold Packed packBits packErr at hp
  rw [er] at hp
  rw [hp, if_neg]
  omega
theorem parseF_rn (d i r S : Nat) (w : World) (T : Tabs w) (hS : IsSign S) (hd1 : 1 ≤ d) (hd : d < 18446744073709551616) (hi : i < 696) (hg : d < 144115188075855872 ∨ (348 ≤ i ∧ i ≤ 375)) (hr : IsRN (tenA d i) (tenB i) r) (hrI : r < infR) :
    Calls Tryz.prog 245 #[.int .u64 d, .int .i64 ((i : Int) - 348), .int .u64 S] w fun e' w' => e' = .returned (.tuple #[.float .f64 (S + r), .nilIface]) ∧ Below w.heap.size w w' := by
  obtain ⟨b, hb, b1, b64, l1, l2⟩ := bit_len d hd1 hd
  have hB := tenB_pos i
  obtain ⟨p1, p2⟩ := lp_bd i hi
  have hlp : ((i : Int) - 348) * 108853 / 32768 = lpI i := rfl
  obtain ⟨s, hs⟩ : ∃ s : Nat, parS b i = s := ⟨(parS b i).toNat, by unfold parS; omega⟩
  have hs' : -(min 1074 (53 - (b : Int) - lpI i) - (64 - (b : Int)) + lpI i + 3) = s := hs
  by_cases hfar : 64 ≤ s
  · have h0 := parse_rn0 d i b hi l2 (by omega)
    have : r = 0 := rn_uniq _ _ _ _ hB hr h0
    subst this
    exact parseF_far d i b S s (lpI i) _ w T hS hd hb b64 hi hlp rfl hs' hfar
  · have hb57 : b ≤ 57 ∨ (348 ≤ i ∧ i ≤ 375) := by
      rcases hg with h | h
      · left
        refine Nat.le_of_not_lt fun hh => ?_
        have : 2 ^ 57 ≤ 2 ^ (b - 1) := Nat.pow_le_pow_right (by decide) (by omega)
        have e57 : (2 : Nat) ^ 57 = 144115188075855872 := by decide
        omega
      · exact .inr h
    have hN := near_digits d i b s hi hd1 l2 b64 hs hb57
    obtain ⟨u, hu⟩ : ∃ u, uscN (d * 2 ^ (64 - b)) (p10hi i) (p10lo i) s = u := ⟨_, rfl⟩
    obtain ⟨q1, q2, q3, q4⟩ := parse_rn d i b hi b1 l1 l2 b64 s hs hN u hu
    have hx2 : d * 2 ^ (64 - b) < 18446744073709551616 := by
      have : d * 2 ^ (64 - b) < 2 ^ b * 2 ^ (64 - b) := Nat.mul_lt_mul_of_pos_right l2 (Nat.two_pow_pos _)
      rw [← Nat.pow_add, show b + (64 - b) = 64 by omega] at this
      exact this
    have hk : (((parK b i + cutK u : Nat) : Int) - 1074) = -(min 1074 (53 - (b : Int) - lpI i) - cutK u) := par_k b i u
    have hr4 : roundN (cutU u) = round4 (cutU u) := round_same _ (by have := cutU_le u; omega)
    obtain ⟨K, hK⟩ : ∃ K, parK b i + cutK u = K := ⟨_, rfl⟩
    obtain ⟨m, hm⟩ : ∃ m, round4 (cutU u) = m := ⟨_, rfl⟩
    rw [hm] at q2 q3 q4 hr4
    rw [hK] at q3 q4 hk
    have er := rn_uniq _ _ _ _ hB q4 hr
    have u63 : u < 9223372036854775808 := Nat.lt_trans q1 (by decide)
    have s64 : s < 64 := Nat.lt_of_not_le hfar
    refine (parseF_near d i b S s u K m _ (lpI i) _ w T hS hd hb b64 hi hlp rfl hs' s64 rfl hx2 hu u63 hm hr4 q2 hk q3).mono ?_
    rintro e w' ⟨hp, hB'⟩
    exact ⟨packed_is S K m r e hp er hrI q3, hB'⟩

set_option maxRecDepth 100000 in
set_option maxHeartbeats 2000000 in
/-- atof64 at a numeral of few digits, not nought. -/
theorem atof_rn (s : ByteArray) (m i r : Nat) (neg : Bool) (w : World) (T : Tabs w) (hm : 1 ≤ m) (hm2 : m < 18446744073709551616) (i1 : 3 ≤ i) (i2 : i ≤ 658) (hg : m < 144115188075855872 ∨ (348 ≤ i ∧ i ≤ 375)) (hr : IsRN (tenA m i) (tenB i) r) (hrI : r < infR)
    (SP : ∀ w, Calls Tryz.prog 233 #[.string s] w fun e w' => e = .returned (.tuple #[.float .f64 0, .int .i64 0, .bool false]) ∧ w = w')
    (RD : ∀ w, Calls Tryz.prog 234 #[.string s] w fun e w' => e = .returned (.tuple #[.int .u64 m, .int .i64 ((i : Int) - 348), .bool neg, .bool false, .bool false, .int .i64 s.size, .bool true]) ∧ w = w') :
    Calls Tryz.prog 205 #[.string s] w fun e w' => e = .returned (.tuple #[.float .f64 (sgn neg + r), .int .i64 s.size, .nilIface]) ∧ Below w.heap.size w w' := by
  have h3 := T.opt
  have hm0 : ((m : Int) == 0) = false := beq_eq_false_iff_ne.2 (by omega)
  have EX : ∀ w, Tabs w → Calls Tryz.prog 244 #[.int .u64 m, .int .i64 ((i : Int) - 348), .bool neg] w fun e w' => (e = .returned (.tuple #[.float .f64 (sgn neg + r), .bool true]) ∧ w = w') ∨ NoFloat w e w' := by
    intro w T
    refine (exact_out m i neg w T (by omega) (by omega)).mono ?_
    rintro e w' (⟨r', h1, h2, rfl, rfl⟩ | h)
    · have : r' = r := rn_uniq _ _ _ _ (tenB_pos i) h1 hr
      subst this
      exact .inl ⟨rfl, rfl⟩
    · exact .inr h
  have PF := fun w T => parseF_rn m i r (sgn neg) w T (sgn_sign neg) hm hm2 (by omega) hg hr hrI
  have HSP := Lib.hid SP
  have HRD := Lib.hid RD
  have HEX := Lib.hid EX
  have HPF := Lib.hid PF
  have HT := Lib.hid T
  clear SP RD EX PF T hr hrI
  cases neg
  all_goals
    go_enter Tryz.func205, Tryz.ntmps205
    go_wp2_with (first
      | (go_at_call 233; refine (HSP.out _).mono ?_; rintro e w' ⟨rfl, rfl⟩)
      | (go_at_call 234; refine (HRD.out _).mono ?_; rintro e w' ⟨rfl, rfl⟩)
      | (go_at_call 242; ((with_reducible refine (bool2_u64_true _).mono ?_); rintro e w' ⟨rfl, rfl⟩))
      | (go_at_call 242; ((with_reducible refine (bool2_u64_false _).mono ?_); rintro e w' ⟨rfl, rfl⟩)))
    refine (HEX.out _ HT.out).mono ?_
    rintro e w1 (⟨rfl, rfl⟩ | ⟨f, rfl, rfl⟩)
    · go_wp2
      go_ret3
      exact ⟨rfl, Below.refl _ _⟩
    · go_wp2_with fail
      refine (HPF.out _ HT.out).mono ?_
      rintro e w2 ⟨rfl, B2⟩
      have HB2 := Lib.hid B2
      clear B2
      go_wp2
      go_ret3
      exact ⟨rfl, HB2.out⟩
end Go.Proofs.YtcfgbdhpcboikaaGreatDoor
