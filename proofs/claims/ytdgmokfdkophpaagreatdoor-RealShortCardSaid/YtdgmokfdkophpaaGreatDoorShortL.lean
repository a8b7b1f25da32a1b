/-
  RealShort: texts whose digits are changed are other numbers. No program in sight.
  Parse of a numeral of few digits whose value lies beyond the floats; Parse of any digits in a printed text's place.
  The walk of RealShort, over what its callees answer.
  RealShort, for every float.
-/
import Derived.Test.YtdgmokfdkophpaaGreatDoorNumL
import Derived.Test.YtdgmokfdkophpaaGreatDoorShelfR
import Derived.Test.YtdgmokfdkophpaaGreatDoorBack
namespace Go.Proofs.YtdgmokfdkophpaaGreatDoor
/-- A digit above nought. -/
def nz (c : UInt8) : Bool := decide (49 ≤ c.toNat) && decide (c.toNat ≤ 57)
/-- How the digits lie in the text. -/
structure Lay (neg : Bool) (x : Int) (k : Nat) (pre : List UInt8) (m : Nat) (mid post : List UInt8) : Prop where
  txt : ∀ D : List UInt8, D.length = k → sTxt neg D x = pre ++ (D.take m ++ mid ++ D.drop m) ++ post
  pre0 : ∀ c ∈ pre, nz c = false ∧ c ≠ 101
  mid0 : (m = k ∧ mid = []) ∨ (m < k ∧ mid = [46])
  m1 : 1 ≤ m
  post0 : (∀ c ∈ post, c = 48) ∨ ∃ r, post = 101 :: r

theorem lay_any (neg : Bool) (x : Int) (k : Nat) (k1 : 1 ≤ k) : ∃ pre m mid post, Lay neg x k pre m mid post := by
  have hS : ∀ c ∈ (if neg then [45] else [] : List UInt8), nz c = false ∧ c ≠ 101 := by
    intro c hc
    cases neg
    · simp at hc
    · simp at hc; subst hc; exact ⟨by decide, by decide⟩
  by_cases c1 : (k : Int) ≤ x + 1 ∧ x + 1 ≤ 21
  · refine ⟨if neg then [45] else [], k, [], List.replicate (x + 1 - k).toNat 48, fun D hD => ?_, hS, .inl ⟨rfl, rfl⟩, k1, .inl fun c hc => (List.mem_replicate.1 hc).2⟩
    unfold sTxt txtOf
    rw [hD, if_pos c1, List.take_of_length_le (by omega), List.drop_of_length_le (by omega)]
    simp
  · by_cases c2 : 1 ≤ x + 1 ∧ x + 1 ≤ 21
    · refine ⟨if neg then [45] else [], (x + 1).toNat, [46], [], fun D hD => ?_, hS, .inr ⟨by omega, rfl⟩, by omega, .inl fun c hc => by cases hc⟩
      unfold sTxt txtOf
      rw [hD, if_neg c1, if_pos c2]
      simp
    · by_cases c3 : -5 ≤ x + 1 ∧ x + 1 ≤ 0
      · refine ⟨(if neg then [45] else []) ++ ([48, 46] ++ List.replicate (-(x + 1)).toNat 48), k, [], [], fun D hD => ?_, ?_, .inl ⟨rfl, rfl⟩, k1, .inl fun c hc => by cases hc⟩
        · unfold sTxt txtOf
          rw [hD, if_neg c1, if_neg c2, if_pos c3, List.take_of_length_le (by omega), List.drop_of_length_le (by omega)]
          simp
        · intro c hc
          rcases List.mem_append.1 hc with h | h
          · exact hS c h
          · rcases List.mem_append.1 h with h | h
            · simp at h
              rcases h with h | h <;> subst h <;> exact ⟨by decide, by decide⟩
            · rw [(List.mem_replicate.1 h).2]; exact ⟨by decide, by decide⟩
      · have he : ∃ r, (if 0 < x + 1 then [101, 43] ++ Lib.itoa x else [101, 45] ++ Lib.itoa (-x) : List UInt8) = 101 :: r := by
          split
          · exact ⟨_, rfl⟩
          · exact ⟨_, rfl⟩
        by_cases ck : 1 < k
        · refine ⟨if neg then [45] else [], 1, [46], (if 0 < x + 1 then [101, 43] ++ Lib.itoa x else [101, 45] ++ Lib.itoa (-x)), fun D hD => ?_, hS, .inr ⟨ck, rfl⟩, Nat.le_refl _, .inr he⟩
          unfold sTxt txtOf pointed
          rw [hD, if_neg c1, if_neg c2, if_neg c3, if_pos ck]
          simp
        · refine ⟨if neg then [45] else [], k, [], (if 0 < x + 1 then [101, 43] ++ Lib.itoa x else [101, 45] ++ Lib.itoa (-x)), fun D hD => ?_, hS, .inl ⟨rfl, rfl⟩, k1, .inr he⟩
          unfold sTxt txtOf pointed
          rw [hD, if_neg c1, if_neg c2, if_neg c3, if_neg ck, List.take_of_length_le (by omega), List.drop_of_length_le (by omega), List.take_of_length_le (by omega)]
          simp

/-- Where the i-th digit stands, among the digits and the point. -/
def at1 (m i : Nat) : Nat := if i < m then i else i + 1
theorem mid_len {neg : Bool} {x : Int} {k m : Nat} {pre mid post : List UInt8} (L : Lay neg x k pre m mid post) (D : List UInt8) (hD : D.length = k) : (D.take m ++ mid ++ D.drop m).length = k + mid.length := by
  simp only [List.length_append, List.length_take, List.length_drop]
  rcases L.mid0 with ⟨h, _⟩ | ⟨h, _⟩ <;> omega
theorem mid_set {neg : Bool} {x : Int} {k m : Nat} {pre mid post : List UInt8} (L : Lay neg x k pre m mid post) (D : List UInt8) (hD : D.length = k) (i : Nat) (hi : i < k) (c : UInt8) :
    (D.take m ++ mid ++ D.drop m).set (at1 m i) c = (D.set i c).take m ++ mid ++ (D.set i c).drop m := by
  unfold at1
  by_cases h : i < m
  · rw [if_pos h, List.set_append_left _ _ (by simp only [List.length_append, List.length_take]; omega), List.set_append_left _ _ (by rw [List.length_take]; omega), List.take_set, List.drop_set_of_lt h]
  · rw [if_neg h]
    rcases L.mid0 with ⟨h1, h2⟩ | ⟨h1, h2⟩
    · omega
    · rw [h2, List.set_append_right _ _ (by simp only [List.length_append, List.length_take, List.length_cons, List.length_nil]; omega), List.take_set_of_le (by omega), List.drop_set, if_neg (by omega)]
      congr 2
      simp only [List.length_append, List.length_take, List.length_cons, List.length_nil]
      omega
theorem txt_set {neg : Bool} {x : Int} {k m : Nat} {pre mid post : List UInt8} (L : Lay neg x k pre m mid post) (D : List UInt8) (hD : D.length = k) (i : Nat) (hi : i < k) (c : UInt8) :
    (sTxt neg D x).set (pre.length + at1 m i) c = sTxt neg (D.set i c) x := by
  have ml := mid_len L D hD
  have ha : at1 m i < k + mid.length := by
    unfold at1
    rcases L.mid0 with ⟨h1, h2⟩ | ⟨h1, h2⟩
    · rw [if_pos (by omega)]; omega
    · rw [h2]; simp only [List.length_cons, List.length_nil]; split <;> omega
  rw [L.txt D hD, L.txt (D.set i c) (by rw [List.length_set]; exact hD), List.set_append_left _ _ (by rw [List.length_append, ml]; omega), List.set_append_right _ _ (by omega), show pre.length + at1 m i - pre.length = at1 m i by omega, mid_set L D hD i hi c]

/-- One digit of a list changed. -/
theorem vfold_mid (v : Nat) (w : List UInt8) (h : ∀ c ∈ w, isDig c = true) : w.foldl vstep v = v * 10 ^ w.length + vfold w := by
  induction w using snoc_ind with
  | h0 => simp [vfold]
  | h1 w c ih =>
    have ih := ih (fun x hx => h x (by simp [hx]))
    have hc := h c (by simp)
    have n46 : c ≠ 46 := by rintro rfl; exact absurd hc (by decide)
    rw [List.foldl_append, ih, vfold_snoc, List.length_append]
    simp only [List.foldl_cons, List.foldl_nil, List.length_cons, List.length_nil]
    unfold vstep
    rw [if_neg n46, if_neg n46, Nat.pow_succ, Nat.add_mul, Nat.mul_assoc]
    omega
theorem vfold_three (u w : List UInt8) (c : UInt8) (hc : isDig c = true) (hw : ∀ c ∈ w, isDig c = true) : vfold (u ++ c :: w) = (vfold u * 10 + (c.toNat - 48)) * 10 ^ w.length + vfold w := by
  have n46 : c ≠ 46 := by rintro rfl; exact absurd hc (by decide)
  rw [vfold_append, List.foldl_cons, vfold_mid _ w hw]
  have : vstep (vfold u) c = vfold u * 10 + (c.toNat - 48) := by unfold vstep; rw [if_neg n46]
  rw [this]
theorem split_at' (D : List UInt8) (i : Nat) (hi : i < D.length) : D = D.take i ++ D[i] :: D.drop (i + 1) := by
  rw [List.getElem_cons_drop]
  exact (List.take_append_drop i D).symm
/-- The digit i is one more. -/
theorem vfold_more (D : List UInt8) (hd : ∀ c ∈ D, isDig c = true) (i : Nat) (hi : i < D.length) (h8 : D[i].toNat ≤ 56) :
    (∀ c ∈ D.set i (D[i] + 1), isDig c = true) ∧ vfold (D.set i (D[i] + 1)) = vfold D + 10 ^ (D.length - 1 - i) := by
  have hb := dig_bd _ (hd _ (List.getElem_mem hi))
  have e1 : (D[i] + 1).toNat = D[i].toNat + 1 := by
    rw [UInt8.toNat_add]
    show (D[i].toNat + 1) % 256 = _
    omega
  have hdig : isDig (D[i] + 1) = true := by
    unfold isDig
    rw [Bool.and_eq_true, decide_eq_true_eq, decide_eq_true_eq, e1]
    exact ⟨by omega, by omega⟩
  have hw : ∀ c ∈ D.drop (i + 1), isDig c = true := fun c hc => hd c (List.mem_of_mem_drop hc)
  refine ⟨fun c hc => ?_, ?_⟩
  · rcases List.mem_or_eq_of_mem_set hc with h | h
    · exact hd c h
    · rw [h]; exact hdig
  · have e2 : D.set i (D[i] + 1) = D.take i ++ (D[i] + 1) :: D.drop (i + 1) := List.set_eq_take_append_cons_drop.trans (by rw [if_pos hi])
    have e3 := congrArg vfold (split_at' D i hi)
    rw [e2, vfold_three _ _ _ hdig hw, e3, vfold_three _ _ _ (hd _ (List.getElem_mem hi)) hw, e1, List.length_drop, show D.length - (i + 1) = D.length - 1 - i by omega, show D[i].toNat + 1 - 48 = D[i].toNat - 48 + 1 by omega, ← Nat.add_assoc, Nat.add_mul _ 1, Nat.one_mul]
    omega
/-- The last digit is a nought. -/
theorem vfold_odd (D : List UInt8) (hd : ∀ c ∈ D, isDig c = true) (i : Nat) (hi : i + 1 = D.length) :
    (∀ c ∈ D.set i 48, isDig c = true) ∧ vfold (D.set i 48) = vfold D / 10 * 10 ∧ vfold D % 10 = D[i].toNat - 48 := by
  have hil : i < D.length := by omega
  have hb := dig_bd _ (hd _ (List.getElem_mem hil))
  have hw : D.drop (i + 1) = [] := List.drop_of_length_le (by omega)
  have e2 : D.set i 48 = D.take i ++ 48 :: D.drop (i + 1) := List.set_eq_take_append_cons_drop.trans (by rw [if_pos hil])
  have e3 := congrArg vfold (split_at' D i hil)
  refine ⟨fun c hc => ?_, ?_, ?_⟩
  · rcases List.mem_or_eq_of_mem_set hc with h | h
    · exact hd c h
    · rw [h]; rfl
  · rw [e2, vfold_three _ _ _ rfl (by rw [hw]; simp), e3, vfold_three _ _ _ (hd _ (List.getElem_mem hil)) (by rw [hw]; simp), hw]
    show (vfold (D.take i) * 10 + 0) * 10 ^ 0 + 0 = ((vfold (D.take i) * 10 + (D[i].toNat - 48)) * 10 ^ 0 + 0) / 10 * 10
    omega
  · rw [e3, vfold_three _ _ _ (hd _ (List.getElem_mem hil)) (by rw [hw]; simp), hw]
    show ((vfold (D.take i) * 10 + (D[i].toNat - 48)) * 10 ^ 0 + 0) % 10 = _
    omega

/-- Fewer digits: another number. -/
theorem odd_other (b d j t v V : Nat) (q : Int) (hA : ShortAt b d q j) (hv : v * 10 ^ t = d) (hV : V = v / 10 * 10) (h0 : v % 10 ≠ 0) : ¬ IsRN (tenA V (j + t)) (tenB (j + t)) b := by
  intro h
  rw [hV, Nat.mul_comm, ← rn_shift, show j + t + 1 = j + 1 + t by omega, rn_shift_n] at h
  have := hA.coarse _ h
  rw [← hv, ← Nat.mul_assoc] at this
  have := Nat.eq_of_mul_eq_mul_right (Nat.pow_pos (by decide)) this
  omega
/-- A digit ahead of the last one more: another number. -/
theorem more_other (b d j t v V g : Nat) (q : Int) (hA : ShortAt b d q j) (hv : v * 10 ^ t = d) (hV : V = v + 10 ^ g) (hg : 1 ≤ g) : ¬ IsRN (tenA V (j + t)) (tenB (j + t)) b := by
  intro h
  rw [rn_shift_n] at h
  have := hA.near _ h
  rw [hV, Nat.add_mul, hv] at this
  have h1 : 10 ^ 1 ≤ 10 ^ g := Nat.pow_le_pow_right (by decide) hg
  have h2 : 1 ≤ 10 ^ t := Nat.pow_pos (by decide)
  have := Nat.mul_le_mul h1 h2
  omega
/-- There is a nearest rung. -/
theorem rn_exists (d i : Nat) (hd1 : 1 ≤ d) (hd : d < 144115188075855872) (hi : i < 696) : ∃ r, IsRN (tenA d i) (tenB i) r := by
  obtain ⟨b, hb, b1, b64, l1, l2⟩ := bit_len d hd1 (by omega)
  obtain ⟨p1, p2⟩ := lp_bd i hi
  obtain ⟨s, hs⟩ : ∃ s : Nat, parS b i = s := ⟨(parS b i).toNat, by unfold parS; omega⟩
  by_cases hfar : 64 ≤ s
  · exact ⟨0, parse_rn0 d i b hi l2 (by omega)⟩
  · have hb57 : b ≤ 57 := by
      refine Nat.le_of_not_lt fun hh => ?_
      have : 2 ^ 57 ≤ 2 ^ (b - 1) := Nat.pow_le_pow_right (by decide) (by omega)
      have e57 : (2 : Nat) ^ 57 = 144115188075855872 := by decide
      omega
    have hN := near_digits d i b s hi hd1 l2 b64 hs (.inl hb57)
    obtain ⟨_, _, _, q4⟩ := parse_rn d i b hi b1 l1 l2 b64 s hs hN _ rfl
    exact ⟨_, q4⟩
end Go.Proofs.YtdgmokfdkophpaaGreatDoor

namespace Go.Proofs.YtdgmokfdkophpaaGreatDoor
open Go.RowKit

theorem packed_inf (S K m : Nat) (e : Ending) (hp : Packed S K m e) (er : min (K * 4503599627370496 + m) infR = infR) (hm : m < 9007199254740992) : e = .returned (.tuple #[.float .f64 (S + 9218868437227405312), .iface 73 (.int .i64 1)]) := by
  have ei : infR = 9218868437227405312 := rfl
  rw [ei] at er
  unfold Packed packBits packErr at hp
  rw [er] at hp
  rw [hp, if_pos]
  omega
theorem parseF_inf (d i S : Nat) (w : World) (T : Tabs w) (hS : IsSign S) (hd1 : 1 ≤ d) (hd : d < 18446744073709551616) (hi : i < 696) (hg : d < 144115188075855872 ∨ (348 ≤ i ∧ i ≤ 375)) (hr : IsRN (tenA d i) (tenB i) infR) :
    Calls Tryz.prog 117 #[.int .u64 d, .int .i64 ((i : Int) - 348), .int .u64 S] w fun e' w' => e' = .returned (.tuple #[.float .f64 (S + 9218868437227405312), .iface 73 (.int .i64 1)]) ∧ Below w.heap.size w w' := by
  obtain ⟨b, hb, b1, b64, l1, l2⟩ := bit_len d hd1 hd
  have hB := tenB_pos i
  obtain ⟨p1, p2⟩ := lp_bd i hi
  have hlp : ((i : Int) - 348) * 108853 / 32768 = lpI i := rfl
  obtain ⟨s, hs⟩ : ∃ s : Nat, parS b i = s := ⟨(parS b i).toNat, by unfold parS; omega⟩
  have hs' : -(min 1074 (53 - (b : Int) - lpI i) - (64 - (b : Int)) + lpI i + 3) = s := hs
  by_cases hfar : 64 ≤ s
  · have h0 := parse_rn0 d i b hi l2 (by omega)
    have : infR = 0 := rn_uniq _ _ _ _ hB hr h0
    exact absurd this (by decide)
  · have hb57 : b ≤ 57 ∨ (348 ≤ i ∧ i ≤ 375) := by
      rcases hg with h | h
      · left
        refine Nat.le_of_not_lt fun hh => ?_
        have : 2 ^ 57 ≤ 2 ^ (b - 1) := Nat.pow_le_pow_right (by decide) (by omega)
        have e57 : (2 : Nat) ^ 57 = 144115188075855872 := by decide
        omega
      · exact .inr h
    have hN := near_digits d i b s hi hd1 l2 b64 hs hb57
    obtain ⟨u, hu⟩ : ∃ u, uscN (d * 2 ^ (64 - b)) (p10hi i) (p10lo i) s = u := ⟨_, rfl⟩
    obtain ⟨q1, q2, q3, q4⟩ := parse_rn d i b hi b1 l1 l2 b64 s hs hN u hu
    have hx2 : d * 2 ^ (64 - b) < 18446744073709551616 := by
      have : d * 2 ^ (64 - b) < 2 ^ b * 2 ^ (64 - b) := Nat.mul_lt_mul_of_pos_right l2 (Nat.two_pow_pos _)
      rw [← Nat.pow_add, show b + (64 - b) = 64 by omega] at this
      exact this
    have hk : (((parK b i + cutK u : Nat) : Int) - 1074) = -(min 1074 (53 - (b : Int) - lpI i) - cutK u) := par_k b i u
    have hr4 : roundN (cutU u) = round4 (cutU u) := round_same _ (by have := cutU_le u; omega)
    obtain ⟨K, hK⟩ : ∃ K, parK b i + cutK u = K := ⟨_, rfl⟩
    obtain ⟨m, hm⟩ : ∃ m, round4 (cutU u) = m := ⟨_, rfl⟩
    rw [hm] at q2 q3 q4 hr4
    rw [hK] at q3 q4 hk
    have er := rn_uniq _ _ _ _ hB q4 hr
    have u63 : u < 9223372036854775808 := Nat.lt_trans q1 (by decide)
    have s64 : s < 64 := Nat.lt_of_not_le hfar
    refine (parseF_near d i b S s u K m _ (lpI i) _ w T hS hd hb b64 hi hlp rfl hs' s64 rfl hx2 hu u63 hm hr4 q2 hk q3).mono ?_
    rintro e w' ⟨hp, hB'⟩
    exact ⟨packed_inf S K m e hp er q2, hB'⟩

set_option maxRecDepth 100000 in
set_option maxHeartbeats 2000000 in
/-- atof64 at a numeral beyond the floats. -/
theorem atof_inf (s : ByteArray) (m i : Nat) (neg : Bool) (w : World) (T : Tabs w) (hm : 1 ≤ m) (hm2 : m < 18446744073709551616) (i1 : 3 ≤ i) (i2 : i ≤ 658) (hg : m < 144115188075855872 ∨ (348 ≤ i ∧ i ≤ 375)) (hr : IsRN (tenA m i) (tenB i) infR)
    (SP : ∀ w, Calls Tryz.prog 105 #[.string s] w fun e w' => e = .returned (.tuple #[.float .f64 0, .int .i64 0, .bool false]) ∧ w = w')
    (RD : ∀ w, Calls Tryz.prog 106 #[.string s] w fun e w' => e = .returned (.tuple #[.int .u64 m, .int .i64 ((i : Int) - 348), .bool neg, .bool false, .bool false, .int .i64 s.size, .bool true]) ∧ w = w') :
    Calls Tryz.prog 81 #[.string s] w fun e w' => e = .returned (.tuple #[.float .f64 (sgn neg + 9218868437227405312 : Nat), .int .i64 s.size, .iface 73 (.int .i64 1)]) ∧ Below w.heap.size w w' := by
  have h3 := T.opt
  have hm0 : ((m : Int) == 0) = false := beq_eq_false_iff_ne.2 (by omega)
  have EX : ∀ w, Tabs w → Calls Tryz.prog 116 #[.int .u64 m, .int .i64 ((i : Int) - 348), .bool neg] w fun e w' => NoFloat w e w' := by
    intro w T
    refine (exact_out m i neg w T (by omega) (by omega)).mono ?_
    rintro e w' (⟨r', h1, h2, rfl, rfl⟩ | h)
    · have : r' = infR := rn_uniq _ _ _ _ (tenB_pos i) h1 hr
      omega
    · exact h
  have PF := fun w T => parseF_inf m i (sgn neg) w T (sgn_sign neg) hm hm2 (by omega) hg hr
  have HSP := Lib.hid SP
  have HRD := Lib.hid RD
  have HEX := Lib.hid EX
  have HPF := Lib.hid PF
  have HT := Lib.hid T
  clear SP RD EX PF T hr
  cases neg
  all_goals
    go_enter Tryz.func81, Tryz.ntmps81
    go_wp2_with (first
      | (go_at_call 105; refine (HSP.out _).mono ?_; rintro e w' ⟨rfl, rfl⟩)
      | (go_at_call 106; refine (HRD.out _).mono ?_; rintro e w' ⟨rfl, rfl⟩)
      | (go_at_call 114; ((with_reducible refine (bool2_u64_true _).mono ?_); rintro e w' ⟨rfl, rfl⟩))
      | (go_at_call 114; ((with_reducible refine (bool2_u64_false _).mono ?_); rintro e w' ⟨rfl, rfl⟩)))
    refine (HEX.out _ HT.out).mono ?_
    rintro e w1 ⟨f, rfl, rfl⟩
    go_wp2_with fail
    refine (HPF.out _ HT.out).mono ?_
    rintro e w2 ⟨rfl, B2⟩
    have HB2 := Lib.hid B2
    clear B2
    go_wp2
    go_ret3
    exact ⟨rfl, HB2.out⟩

theorem prefix_e (s : ByteArray) (r : Nat) (w : World) (T : Tabs w)
    (A : ∀ w', Tabs w' → Calls Tryz.prog 81 #[.string s] w' fun e w2 => e = .returned (.tuple #[.float .f64 r, .int .i64 s.size, .iface 73 (.int .i64 1)]) ∧ Below w'.heap.size w' w2) :
    Calls Tryz.prog 64 #[.string s, .int .i64 64] w fun e w' => e = .returned (.tuple #[.float .f64 r, .int .i64 s.size, .iface 73 (.int .i64 1)]) ∧ Below w.heap.size w w' := by
  have HA := Lib.hid A
  have HT := Lib.hid T
  clear A T
  go_enter Tryz.func64, Tryz.ntmps64
  go_wp2_with fail
  refine (HA.out _ HT.out).mono ?_
  rintro e w2 ⟨rfl, B2⟩
  have HB := Lib.hid B2
  clear B2
  go_wp2
  go_ret3
  exact ⟨rfl, HB.out⟩
theorem pf46_e (s : ByteArray) (r : Nat) (w : World) (T : Tabs w)
    (A : ∀ w', Tabs w' → Calls Tryz.prog 81 #[.string s] w' fun e w2 => e = .returned (.tuple #[.float .f64 r, .int .i64 s.size, .iface 73 (.int .i64 1)]) ∧ Below w'.heap.size w' w2) :
    Calls Tryz.prog 46 #[.string s, .int .i64 64] w fun e w' => e = .returned (.tuple #[.float .f64 r, .iface 73 (.int .i64 1)]) ∧ Below w.heap.size w w' := by
  have HA := Lib.hid A
  have HT := Lib.hid T
  clear A T
  go_enter Tryz.func46, Tryz.ntmps46
  go_wp2_with fail
  refine (prefix_e s r _ HT.out HA.out).mono ?_
  rintro e w2 ⟨rfl, B2⟩
  have HB := Lib.hid B2
  clear B2
  go_wp2
  go_ret2
  exact ⟨rfl, HB.out⟩
/-- Some error. -/
def SomeErr (r : Nat) (e : Ending) : Prop := ∃ t p, e = .returned (.tuple #[.float .f64 r, .iface t p])
theorem pf31_e (s : ByteArray) (hs : s.size ≤ 1000) (r : Nat) (w : World) (T : Tabs w)
    (A : ∀ w', Tabs w' → Calls Tryz.prog 81 #[.string s] w' fun e w2 => e = .returned (.tuple #[.float .f64 r, .int .i64 s.size, .iface 73 (.int .i64 1)]) ∧ Below w'.heap.size w' w2) :
    Calls Tryz.prog 31 #[.string s, .int .i64 64] w fun e w' => SomeErr r e ∧ Below w.heap.size w w' := by
  have HA := Lib.hid A
  have HT := Lib.hid T
  clear A T
  go_enter Tryz.func31, Tryz.ntmps31
  go_wp2_with fail
  refine (pf46_e s r _ HT.out HA.out).mono ?_
  rintro e w2 ⟨rfl, B2⟩
  have HB := Lib.hid B2
  have HT2 := Lib.hid (HT.out.below B2 (Nat.le_refl _))
  clear B2
  go_wp2_with fail
  obtain ⟨t2, v2, h2⟩ := HT2.out.rng
  refine (Tryz.strconv_toError_range _ s _ _ _ _ (by omega) h2 (.inr ⟨_, _, rfl⟩)).mono ?_
  rintro e w3 ⟨N, rfl, _, _, B3⟩
  have HB3 := Lib.hid (HB.out.trans (B3.mono HB.out.size))
  clear B3
  go_wp2
  go_ret2
  exact ⟨⟨_, _, rfl⟩, HB3.out⟩
/-- Parse of a numeral beyond the floats. -/
theorem parse_e (s : ByteArray) (r : Nat) (w : World) (T : Tabs w) (hs : s.size ≤ 1000) (hn : numB s.data.toList = true)
    (A : ∀ w', Tabs w' → Calls Tryz.prog 81 #[.string s] w' fun e w2 => e = .returned (.tuple #[.float .f64 r, .int .i64 s.size, .iface 73 (.int .i64 1)]) ∧ Below w'.heap.size w' w2) :
    Calls Tryz.prog 21 #[.string s] w fun e w' => e = .returned (.tuple #[.float .f64 0, .bool false]) ∧ Below w.heap.size w w' := by
  have NB := fun w => numeral_any s w (by unfold maxLen; omega)
  rw [hn] at NB
  have HA := Lib.hid A
  have HNB := Lib.hid NB
  have HT := Lib.hid T
  clear A NB hn T
  go_enter Tryz.func21, Tryz.ntmps21
  go_wp2_with (go_at_call 30; refine (HNB.out _).mono ?_; rintro e w' ⟨rfl, rfl⟩)
  refine (pf31_e s hs r _ HT.out HA.out).mono ?_
  rintro e w2 ⟨⟨t, p, rfl⟩, B2⟩
  have HB := Lib.hid B2
  clear B2
  go_wp2
  go_ret2
  exact ⟨rfl, HB.out⟩

/-- What atof64 tells of a numeral, beyond the floats. -/
theorem atof_num_inf {s : ByteArray} {neg dot : Bool} {A F X : List UInt8} {ev : Int} (N : NumP s neg A F dot X ev) (V i0 : Nat) (hV : vfold (bodyL A F dot) = V) (V1 : 1 ≤ V) (hi0 : (i0 : Int) = 348 - F.length + ev) (ht : (rfold (bodyL A F dot)).trunc = false)
    (hr : IsRN (tenA V i0) (tenB i0) infR) (i1 : 3 ≤ i0) (i2 : i0 + ((bodyL A F dot).length - 19) ≤ 658) (hg : V < 144115188075855872 ∨ (348 ≤ i0 ∧ i0 ≤ 350)) (w : World) (T : Tabs w) :
    Calls Tryz.prog 81 #[.string s] w fun e w' => e = .returned (.tuple #[.float .f64 (sgn neg + 9218868437227405312 : Nat), .int .i64 s.size, .iface 73 (.int .i64 1)]) ∧ Below w.heap.size w w' := by
  have hlen := N.len
  have hch := body_ch N
  have RB := rb_fold _ hch
  have hval := rfold_val _ hch ht
  have hpl := place_num N
  have RD := fun w => read_num N w
  rw [hV] at hval
  obtain ⟨r, hr'⟩ : ∃ r, rfold (bodyL A F dot) = r := ⟨_, rfl⟩
  rw [hr'] at hval hpl RB ht RD
  obtain ⟨b1, b2, b3, b4, b5⟩ := RB
  obtain ⟨z, hz⟩ : ∃ z, r.nd - r.ndM = z := ⟨_, rfl⟩
  rw [hz] at hval
  have hm : 1 ≤ r.mant := by
    refine Nat.pos_of_ne_zero fun h => ?_
    rw [h, Nat.zero_mul] at hval
    omega
  have hm2 : r.mant < 18446744073709551616 := by
    have := pow19 r.ndM (by omega)
    omega
  have hmV : r.mant ≤ V := by
    rw [hval]
    exact Nat.le_mul_of_pos_right _ (Nat.pow_pos (by decide))
  have hbl : (bodyL A F dot).length ≤ 40 := by
    have : s.data.toList.length = s.size := (size_list s).symm
    rw [N.txt] at this
    simp only [List.length_append] at this
    unfold bodyL
    simp only [List.length_append]
    omega
  have hx : r.expo ev = ((i0 + z : Nat) : Int) - 348 := by
    unfold RS.expo
    rw [if_neg (by omega), hpl]
    omega
  rw [ht, hx] at RD
  have hr2 : IsRN (tenA r.mant (i0 + z)) (tenB (i0 + z)) infR := by
    rw [rn_shift_n, ← hval]
    exact hr
  refine atof_inf s r.mant (i0 + z) neg w T hm hm2 (by omega) (by omega) ?_ hr2 (fun w => special_num N w) RD
  rcases hg with h | h
  · left; omega
  · right
    exact ⟨by omega, by omega⟩

/-- What Parse tells of digits in a printed text's place. -/
def ParsedAs (neg : Bool) (r : Nat) (e : Ending) : Prop := (r < infR ∧ e = .returned (.tuple #[.float .f64 (sgn neg + r), .bool true])) ∨ (r = infR ∧ e = .returned (.tuple #[.float .f64 0, .bool false]))
set_option maxRecDepth 20000 in
theorem parse_digits (neg : Bool) (D : List UInt8) (x : Int) (j t r : Nat) (k1 : 1 ≤ D.length) (k17 : D.length ≤ 17) (hd : ∀ c ∈ D, isDig c = true) (hx : ((j + t : Nat) : Int) = 349 + x - D.length) (hj : 24 ≤ j) (hjt : j + t ≤ 657)
    (v1 : 1 ≤ vfold D) (v2 : vfold D < 144115188075855872) (hr : IsRN (tenA (vfold D) (j + t)) (tenB (j + t)) r) (w : World) (T : Tabs w) :
    Calls Tryz.prog 21 #[.string ⟨(sTxt neg D x).toArray⟩] w fun e w' => ParsedAs neg r e ∧ Below w.heap.size w w' := by
  obtain ⟨hlen, A, F, dot, X, ev, hNP, ht, hcase⟩ := txt_parts neg D x k1 k17 hd (by omega) (by omega)
  obtain ⟨v, hv⟩ : ∃ v, vfold D = v := ⟨_, rfl⟩
  rw [hv] at hcase v1 v2 hr
  -- the value, as the text tells it
  obtain ⟨V, i0, h1, h2, h3, h4, h5, h6, h7⟩ : ∃ V i0 : Nat, vfold (bodyL A F dot) = V ∧ 1 ≤ V ∧ (i0 : Int) = 348 - F.length + ev ∧ IsRN (tenA V i0) (tenB i0) r ∧ 3 ≤ i0 ∧ i0 + ((bodyL A F dot).length - 19) ≤ 658 ∧ (V < 144115188075855872 ∨ (348 ≤ i0 ∧ i0 ≤ 350)) := by
    rcases hcase with ⟨c1, c2, c3⟩ | ⟨c1, c2, c3, c4, c5, c6⟩
    · exact ⟨v, j + t, c1, v1, by omega, hr, by omega, by omega, .inl v2⟩
    · obtain ⟨p, hp⟩ : ∃ p, (x + 1 - D.length).toNat = p := ⟨_, rfl⟩
      rw [hp] at c1
      refine ⟨v * 10 ^ p, 348, c1, Nat.mul_pos v1 (Nat.pow_pos (by decide)), by omega, ?_, by omega, by omega, .inr ⟨by omega, by omega⟩⟩
      have e : tenA v (j + t) = tenA v (348 + p) := by rw [show j + t = 348 + p by omega]
      have e' : tenB (j + t) = tenB (348 + p) := by rw [show j + t = 348 + p by omega]
      rw [e, e', rn_shift_n] at hr
      exact hr
  by_cases hI : r < infR
  · refine (parse_b _ (sgn neg + r) w T (by rw [size_mk]; unfold maxLen; omega) (numB_ok hNP) (inf_rung neg r hI) (fun w' T' => atof_num hNP V i0 r h1 h2 h3 ht h4 hI h5 h6 h7 w' T')).mono ?_
    rintro e w' ⟨rfl, B⟩
    exact ⟨.inl ⟨hI, rfl⟩, B⟩
  · have hrI : r = infR := by have := hr.le; omega
    subst hrI
    refine (parse_e _ (sgn neg + 9218868437227405312) w T (by rw [size_mk]; omega) (numB_ok hNP) (fun w' T' => atof_num_inf hNP V i0 h1 h2 h3 ht h4 h5 h6 h7 w' T')).mono ?_
    rintro e w' ⟨rfl, B⟩
    exact ⟨.inr ⟨rfl, rfl⟩, B⟩
end Go.Proofs.YtdgmokfdkophpaaGreatDoor

namespace Go.Proofs.YtdgmokfdkophpaaGreatDoor
open Go.RowKit

/-- The loop's count: the first and the last digit above nought so far, the place. -/
def scStep (st : (Int × Int) × Nat) (c : UInt8) : (Int × Int) × Nat :=
  (if nz c then (if st.1.1 < 0 then (st.2 : Int) else st.1.1, (st.2 : Int)) else st.1, st.2 + 1)
def sc (l : List UInt8) : (Int × Int) × Nat := l.foldl scStep ((-1, -1), 0)
theorem sc_snoc (l : List UInt8) (c : UInt8) : sc (l ++ [c]) = scStep (sc l) c := by simp [sc]
theorem sc_len (l : List UInt8) : (sc l).2 = l.length := by
  induction l using snoc_ind with
  | h0 => rfl
  | h1 l c ih => rw [sc_snoc, List.length_append]; unfold scStep; simp [ih]
theorem sc_bd (l : List UInt8) : -1 ≤ (sc l).1.1 ∧ (sc l).1.1 < l.length ∧ -1 ≤ (sc l).1.2 ∧ (sc l).1.2 < l.length := by
  induction l using snoc_ind with
  | h0 => exact ⟨by decide, by decide, by decide, by decide⟩
  | h1 l c ih =>
    have hl := sc_len l
    rw [sc_snoc, List.length_append]
    obtain ⟨a, b, c', d⟩ := ih
    generalize sc l = st at *
    unfold scStep
    simp only [List.length_cons, List.length_nil]
    cases nz c
    · simp; omega
    · simp
      split <;> omega

/-- The head of the loop. -/
def ScRel (s : ByteArray) (e : Nat) (f l i : Value) : Prop :=
  ∃ j : Nat, j ≤ e ∧ f = .int .i64 (sc (s.data.toList.take j)).1.1 ∧ l = .int .i64 (sc (s.data.toList.take j)).1.2 ∧ i = .int .i64 j
theorem sc_next (s : ByteArray) (j : Nat) (hj : j < s.size) : sc (s.data.toList.take (j + 1)) = scStep (sc (s.data.toList.take j)) s[j] := by
  rw [List.take_succ_eq_append_getElem (by rw [← size_list]; exact hj), sc_snoc]
  rfl

set_option maxRecDepth 100000 in
set_option maxHeartbeats 2000000 in
theorem short_one (s : ByteArray) (n : Nat) (h : Int) (e : Nat) (f : Int) (w : World) (T : Tabs w) (hs1 : 1 ≤ s.size) (hs : s.size ≤ 25) (he : e ≤ s.size) (hne : ∀ j (h : j < s.size), j < e → ((s[j].toNat : Int) != 101) = true) (hend : ∀ h : e < s.size, ((s[e].toNat : Int) != 101) = false)
    (hsc : (sc (s.data.toList.take e)).1 = (f, f))
    (PR : ∀ w, Tabs w → Calls Tryz.prog 19 #[.float .f64 n] w fun e w' => e = .returned (.string s) ∧ Below w.heap.size w w') :
    Calls Tryz.prog 7 #[.int .u64 n, .int .i64 h] w fun e w' => e = .returned (.bool true) ∧ Below w.heap.size w w' := by
  have hlist : s.toList.isEmpty = false := full_toList s hs1
  have hl2 : (!s.toList.isEmpty) = true := by rw [hlist]; rfl
  have d11 := fun w => from_bits n w
  have HPR := Lib.hid PR
  have HT := Lib.hid T
  have HSC := Lib.hid hsc
  have HNE := Lib.hid hne
  have HEND := Lib.hid hend
  have hs25 : decide ((25 : Int) < (s.size : Int)) = false := decide_eq_false (by omega)
  clear PR T hsc hne hend
  go_enter Tryz.func7, Tryz.ntmps7
  go_wp2_with fail
  refine (shown_any _ HT.out).mono ?_
  rintro e1 w1 ⟨rfl, B1⟩
  have HB1 := Lib.hid B1
  have HT1 := Lib.hid (HT.out.below B1 (Nat.le_refl _))
  clear B1
  go_wp2_with fail
  refine (HPR.out _ HT1.out).mono ?_
  rintro e2 w2 ⟨rfl, B2⟩
  have HB2 := Lib.hid (HB1.out.trans (B2.mono HB1.out.size))
  have HT2 := Lib.hid (HT.out.below HB2.out (Nat.le_refl _))
  clear B2
  go_wp2_with fail
  go_loop [8, 9, 10] (fun a b c => ScRel s e a b c) (fun _ _ i => e - (intOf i).toNat)
  case atStart => exact ⟨0, Nat.zero_le _, rfl, rfl, rfl⟩
  case round =>
    obtain ⟨j, hj, rfl, rfl, rfl⟩ := hrel
    by_cases hlt : j < e
    · have hjs : j < s.size := by omega
      have c101 := HNE.out j hjs hlt
      have HSN := Lib.hid (sc_next s j hjs)
      obtain ⟨z1, z2, z3, z4⟩ := sc_bd (s.data.toList.take j)
      have zl := sc_len (s.data.toList.take j)
      have tl : (s.data.toList.take j).length = j := by rw [List.length_take, ← size_list]; omega
      rw [tl] at z2 z4 zl
      generalize sc (s.data.toList.take j) = st at *
      obtain ⟨⟨fi, la⟩, nn⟩ := st
      simp only at z1 z2 z3 z4 zl HSN ⊢
      subst zl
      clear tl
      by_cases cz : 49 ≤ (s[nn].toNat : Int) ∧ (s[nn].toNat : Int) ≤ 57
      · obtain ⟨cz1, cz2⟩ := cz
        have hnz : nz s[nn] = true := by unfold nz; rw [Bool.and_eq_true, decide_eq_true_eq, decide_eq_true_eq]; omega
        have HNZ := Lib.hid hnz
        clear hnz
        by_cases cf : fi < 0
        all_goals
          go_wp2
          go_round
          case rel =>
            refine ⟨nn + 1, by omega, ?_, ?_, by go_num⟩
            · rw [HSN.out]; unfold scStep; rw [HNZ.out]; simp [cf]
            · rw [HSN.out]; unfold scStep; rw [HNZ.out]; simp
          case measure => simp [intOf]; omega
      · have hnz : nz s[nn] = false := by
          unfold nz
          rw [Bool.and_eq_false_iff, decide_eq_false_iff_not, decide_eq_false_iff_not]
          omega
        have HNZ := Lib.hid hnz
        clear hnz
        by_cases cz1 : 49 ≤ (s[nn].toNat : Int)
        all_goals
          go_wp2
          go_round
          case rel =>
            refine ⟨nn + 1, by omega, ?_, ?_, by go_num⟩
            · rw [HSN.out]; unfold scStep; rw [HNZ.out]; rfl
            · rw [HSN.out]; unfold scStep; rw [HNZ.out]; rfl
          case measure => simp [intOf]; omega
    · obtain rfl : j = e := by omega
      rw [HSC.out]
      by_cases hes : j < s.size
      · have c101 := HEND.out hes
        go_wp2
        all_goals go_ret
        all_goals exact ⟨rfl, HB2.out⟩
      · have hes' : ¬ (j : Int) < s.size := by omega
        go_wp2
        all_goals go_ret
        all_goals exact ⟨rfl, HB2.out⟩

theorem and63_any (h : Int) : ∃ a : Nat, bits .and .i64 h 63 = (a : Int) ∧ a ≤ 63 := by
  refine ⟨(BitVec.ofInt 64 h &&& BitVec.ofInt 64 63).toNat, ?_, ?_⟩
  · show IntKind.i64.wrap ((BitVec.ofInt 64 h &&& BitVec.ofInt 64 63).toNat : Int) = _
    refine wrap_i64_nat _ ?_
    rw [BitVec.toNat_and]
    have : (BitVec.ofInt 64 h).toNat &&& (BitVec.ofInt 64 63).toNat ≤ (BitVec.ofInt 64 63).toNat := Nat.and_le_right
    have e : (BitVec.ofInt 64 63).toNat = 63 := by decide
    omega
  · rw [BitVec.toNat_and]
    have : (BitVec.ofInt 64 h).toNat &&& (BitVec.ofInt 64 63).toNat ≤ (BitVec.ofInt 64 63).toNat := Nat.and_le_right
    have e : (BitVec.ofInt 64 63).toNat = 63 := by decide
    omega

/-- Another number, or none. -/
def MoreOut (n : Nat) (e : Ending) : Prop := (∃ z, e = .returned (.tuple #[.float .f64 z, .bool false])) ∨ (∃ z, e = .returned (.tuple #[.float .f64 z, .bool true]) ∧ (FloatKind.f64.format.order z n != some .eq) = true)
set_option maxRecDepth 100000 in
set_option maxHeartbeats 2000000 in
theorem short_many (s : ByteArray) (n : Nat) (h : Int) (e f la : Nat) (y : Nat) (w : World) (T : Tabs w) (hs1 : 1 ≤ s.size) (hs : s.size ≤ 25) (he : e ≤ s.size) (hne : ∀ j (h : j < s.size), j < e → ((s[j].toNat : Int) != 101) = true) (hend : ∀ h : e < s.size, ((s[e].toNat : Int) != 101) = false)
    (hsc : (sc (s.data.toList.take e)).1 = ((f : Int), (la : Int))) (hfl : f < la) (hle : la < e)
    (PR : ∀ w, Tabs w → Calls Tryz.prog 19 #[.float .f64 n] w fun e w' => e = .returned (.string s) ∧ Below w.heap.size w w')
    (hy : (FloatKind.f64.format.order y n != some .eq) = true)
    (PS : ∀ w, Tabs w → Calls Tryz.prog 21 #[.string s] w fun e w' => e = .returned (.tuple #[.float .f64 n, .bool true]) ∧ Below w.heap.size w w')
    (PM : ∀ k, f ≤ k → k < la → ∀ hk : k < s.size, 48 ≤ s[k].toNat → s[k].toNat ≤ 56 → ∀ t : ByteArray, t.data.toList = s.data.toList.take k ++ [s[k] + 1] ++ s.data.toList.drop (k + 1) → ∀ w, Tabs w → Calls Tryz.prog 21 #[.string t] w fun e w' => MoreOut n e ∧ Below w.heap.size w w')
    (PO : ∀ t : ByteArray, t.data.toList = s.data.toList.take la ++ [48] ++ s.data.toList.drop (la + 1) → ∀ w, Tabs w → Calls Tryz.prog 21 #[.string t] w fun e w' => e = .returned (.tuple #[.float .f64 y, .bool true]) ∧ Below w.heap.size w w') :
    Calls Tryz.prog 7 #[.int .u64 n, .int .i64 h] w fun e w' => e = .returned (.bool true) ∧ Below w.heap.size w w' := by
  have hlist : s.toList.isEmpty = false := full_toList s hs1
  have hl2 : (!s.toList.isEmpty) = true := by rw [hlist]; rfl
  have d11 := fun w => from_bits n w
  have HPR := Lib.hid PR
  have HPO := Lib.hid PO
  have HY := Lib.hid hy
  have HPS := Lib.hid PS
  have HPM := Lib.hid PM
  have HT := Lib.hid T
  have HSC := Lib.hid hsc
  have HNE := Lib.hid hne
  have HEND := Lib.hid hend
  have hs25 : decide ((25 : Int) < (s.size : Int)) = false := decide_eq_false (by omega)
  obtain ⟨k, hkw, hkf, hkl⟩ : ∃ k : Nat, wrap64 ((f : Int) + (bits .and .i64 h 63).tmod ((la : Int) - f)) = k ∧ f ≤ k ∧ k < la := by
    obtain ⟨a, ha, ha63⟩ := and63_any h
    have g1 := Int.emod_nonneg (a : Int) (show (la : Int) - f ≠ 0 by omega)
    have g2 := Int.emod_lt_of_pos (a : Int) (show 0 < (la : Int) - f by omega)
    refine ⟨((f : Int) + (a : Int) % ((la : Int) - f)).toNat, ?_, by omega, by omega⟩
    rw [ha, Int.tmod_eq_emod_of_nonneg (by omega)]
    unfold wrap64
    omega
  have HKW := Lib.hid hkw
  have hks : k < s.size := by omega
  obtain ⟨s1, e1, z1', c1'⟩ := cut_to s la (by omega)
  obtain ⟨s2, e2, z2', c2'⟩ := cut_from s (la + 1) (by omega)
  have c2 : ∀ w, (Instr.slice 9 (.string s) (some (.int .i64 ((la : Int) + 1))) none none).run Tryz.prog w = .ok (.string s2) w := c2'
  have b1 : s1.size ≤ 30 := by omega
  have b2 : s2.size ≤ 30 := by omega
  have HE1 := Lib.hid e1
  have HE2 := Lib.hid e2
  have hff : ((f : Int) == la) = false := beq_eq_false_iff_ne.2 (by omega)
  clear PR PO PS PM T hsc hne hend hy hkw e1 e2 c2'
  have hf0 : decide ((f : Int) < 0) = false := decide_eq_false (by omega)
  go_enter Tryz.func7, Tryz.ntmps7
  go_wp2_with fail
  refine (shown_any _ HT.out).mono ?_
  rintro e1 w1 ⟨rfl, B1⟩
  have HB1 := Lib.hid B1
  have HT1 := Lib.hid (HT.out.below B1 (Nat.le_refl _))
  clear B1
  go_wp2_with fail
  refine (HPR.out _ HT1.out).mono ?_
  rintro e2 w2 ⟨rfl, B2⟩
  have HB2 := Lib.hid (HB1.out.trans (B2.mono HB1.out.size))
  have HT2 := Lib.hid (HT.out.below HB2.out (Nat.le_refl _))
  clear B2
  go_wp2_with fail
  go_loop [8, 9, 10] (fun a b c => ScRel s e a b c) (fun _ _ i => e - (intOf i).toNat)
  case atStart => exact ⟨0, Nat.zero_le _, rfl, rfl, rfl⟩
  case round =>
    obtain ⟨j, hj, rfl, rfl, rfl⟩ := hrel
    by_cases hlt : j < e
    · have hjs : j < s.size := by omega
      have c101 := HNE.out j hjs hlt
      have HSN := Lib.hid (sc_next s j hjs)
      obtain ⟨z1, z2, z3, z4⟩ := sc_bd (s.data.toList.take j)
      have zl := sc_len (s.data.toList.take j)
      have tl : (s.data.toList.take j).length = j := by rw [List.length_take, ← size_list]; omega
      rw [tl] at z2 z4 zl
      generalize sc (s.data.toList.take j) = st at *
      obtain ⟨⟨fi, la⟩, nn⟩ := st
      simp only at z1 z2 z3 z4 zl HSN ⊢
      subst zl
      clear tl
      by_cases cz : 49 ≤ (s[nn].toNat : Int) ∧ (s[nn].toNat : Int) ≤ 57
      · obtain ⟨cz1, cz2⟩ := cz
        have hnz : nz s[nn] = true := by unfold nz; rw [Bool.and_eq_true, decide_eq_true_eq, decide_eq_true_eq]; omega
        have HNZ := Lib.hid hnz
        clear hnz
        by_cases cf : fi < 0
        all_goals
          go_wp2
          go_round
          case rel =>
            refine ⟨nn + 1, by omega, ?_, ?_, by go_num⟩
            · rw [HSN.out]; unfold scStep; rw [HNZ.out]; simp [cf]
            · rw [HSN.out]; unfold scStep; rw [HNZ.out]; simp
          case measure => simp [intOf]; omega
      · have hnz : nz s[nn] = false := by
          unfold nz
          rw [Bool.and_eq_false_iff, decide_eq_false_iff_not, decide_eq_false_iff_not]
          omega
        have HNZ := Lib.hid hnz
        clear hnz
        by_cases cz1 : 49 ≤ (s[nn].toNat : Int)
        all_goals
          go_wp2
          go_round
          case rel =>
            refine ⟨nn + 1, by omega, ?_, ?_, by go_num⟩
            · rw [HSN.out]; unfold scStep; rw [HNZ.out]; rfl
            · rw [HSN.out]; unfold scStep; rw [HNZ.out]; rfl
          case measure => simp [intOf]; omega
    · obtain rfl : j = e := by omega
      rw [HSC.out]
      by_cases hes : j < s.size
      · have c101 := HEND.out hes
        go_wp2
        go_quiet (fail)
        go_wp2_with fail
        refine (HPO.out _ (by simp only [app_list]; rw [HE1.out, HE2.out]) _ (HT2.out.drewN _)).mono ?_
        rintro e3 w3 ⟨rfl, B3⟩
        have HB3 := Lib.hid (HB2.out.trans ((⟨rfl, rfl, rfl, Nat.le_refl _, fun _ _ => rfl⟩ : Below w2.heap.size w2 (w2.drewN _)).trans (B3.mono (Nat.le_refl _)) |>.mono HB2.out.size))
        have HT3 := Lib.hid (HT.out.below HB3.out (Nat.le_refl _))
        clear B3
        have hkw := HKW.out
        by_cases cd : 48 ≤ (s[k].toNat : Int) ∧ (s[k].toNat : Int) ≤ 56
        · obtain ⟨cd1, cd2⟩ := cd
          obtain ⟨s3, e3, z3', c3⟩ := cut_to s k (by omega)
          obtain ⟨s4, e4, z4', c4'⟩ := cut_from s (k + 1) (by omega)
          have c4 : ∀ w, (Instr.slice 9 (.string s) (some (.int .i64 ((k : Int) + 1))) none none).run Tryz.prog w = .ok (.string s4) w := c4'
          have HE3 := Lib.hid e3
          have HE4 := Lib.hid e4
          have b3 : s3.size ≤ 30 := by omega
          have b4 : s4.size ≤ 30 := by omega
          clear e3 e4 c4'
          go_wp2_with fail
          obtain ⟨C, hC⟩ : ∃ C : World → Prop, ∀ u, C u := ⟨fun _ => True, fun _ => trivial⟩
          haveI : Nonempty (WIn C) := ⟨⟨w3, hC _⟩⟩
          refine region_segs 15 [([0, 1, 2, 3, 4, 5, 6, 10, 11, 12, 13], 7), ([], 8)] [9, 14] C (by kernel_rfl) (by kernel_rfl) (hC _) ?_
          refine segs_step (fun K' hK' => ?_)
          simp only [pick, List.getElem?_cons_zero, List.getElem?_cons_succ, Option.getD_some]
          repeat (go_big_quiet_step (fail))
          refine wpQuiet_nil (hK' _ (fun Q1 hQ1 => ?_))
          clear hK' K'
          simp only [pick, List.getElem?_cons_zero, List.getElem?_cons_succ, Option.getD_some]
          go_wp2_with fail
          obtain ⟨c1n, hc1n⟩ : ∃ c : UInt8, c = s[k] + 1 := ⟨_, rfl⟩
          have ec1 : (s[k].toNat : Int) + 1 = (c1n.toNat : Int) := by
            rw [hc1n, UInt8.toNat_add]
            have : (1 : UInt8).toNat = 1 := rfl
            omega
          rw [ec1]
          have HC1 := Lib.hid hc1n
          clear ec1 hc1n
          have cv : ∀ W : World, W.heap.size = w3.heap.size → (convert 41 9 (.slice (some ⟨w3.heap.size, 0, none⟩) 1 1)).run Tryz.prog (W.alloc (.cells #[.int .u8 (c1n.toNat : Int)] 5)) = .ok (.string ⟨[c1n].toArray⟩) (W.alloc (.cells #[.int .u8 (c1n.toNat : Int)] 5)) := fun W hW => by
            refine run_convB _ 41 5 9 Tryz.underlying41 Tryz.underlying5 Tryz.underlying9 _ [c1n] 1 1 rfl (fun j b hb => ?_)
            have hj : j = 0 := by
              rcases Nat.eq_zero_or_pos j with h | h
              · exact h
              · rw [List.getElem?_eq_none (by simp; omega)] at hb; cases hb
            subst hj
            have hb' : b = c1n := by simpa using hb.symm
            subst hb'
            refine ⟨_, rfl, ?_⟩
            rw [← hW]
            simp [Addr.add, byteV]
          have cvW := cv (w3.drewN 1) rfl
          clear cv
          refine hQ1 _ _ (hC _) (segs_step (fun K' hK' => wpQuiet_nil (hK' _ (fun Q2 hQ2 => ?_))))
          clear hK' K' hQ1 Q1
          simp only [pick, List.getElem?_cons_zero, List.getElem?_cons_succ, Option.getD_some]
          go_wp2_with fail
          refine hQ2 _ _ (hC _) (segs_last (fun K' hK' => ?_))
          clear hQ2 Q2
          simp only [pick, List.getElem?_cons_zero, List.getElem?_cons_succ, Option.getD_some]
          repeat (go_big_quiet_step (fail))
          refine wpQuiet_nil (hK' _ (fun Q3 hQ3 => ?_))
          clear hK' K'
          simp only [List.drop_succ_cons, List.drop_zero]
          go_wp2_with fail
          obtain ⟨W4, hW4⟩ : ∃ W4, W4 = (w3.drewN 1).alloc (.cells #[.int .u8 (c1n.toNat : Int)] 5) := ⟨_, rfl⟩
          have B4 : Below w3.heap.size w3 W4 := by
            rw [hW4]
            exact ((Below.refl w3.heap.size w3).trans ⟨rfl, rfl, rfl, Nat.le_refl _, fun _ _ => rfl⟩ : Below w3.heap.size w3 (w3.drewN 1)).alloc (Nat.le_refl _) _
          have HB4 := Lib.hid (HB3.out.trans (B4.mono HB3.out.size))
          have HT4 := Lib.hid (HT.out.below HB4.out (Nat.le_refl _))
          clear B4
          rw [← hW4]
          clear hW4 cvW
          refine (HPM.out k hkf hkl hks (by omega) (by omega) _ (by simp only [app_list]; rw [HE3.out, HE4.out, ← HC1.out]) _ HT4.out).mono ?_
          rintro e5 w5 ⟨ho, B5⟩
          have HB5 := Lib.hid (HB4.out.trans (B5.mono HB4.out.size))
          clear B5
          have hy := HY.out
          rcases ho with ⟨z, rfl⟩ | ⟨z, rfl, hz⟩
          · go_wp2
            all_goals go_ret
            all_goals exact ⟨rfl, HB5.out⟩
          · go_wp2
            all_goals go_ret
            all_goals exact ⟨rfl, HB5.out⟩
        · by_cases cd1 : 48 ≤ (s[k].toNat : Int)
          all_goals
            go_wp2_with fail
            refine (HPS.out _ HT3.out).mono ?_
            rintro e4 w4 ⟨rfl, B4⟩
            have HB4 := Lib.hid (HB3.out.trans (B4.mono HB3.out.size))
            clear B4
            have hy := HY.out
            go_wp2
            go_ret
            exact ⟨rfl, HB4.out⟩
      · have hes' : ¬ (j : Int) < s.size := by omega
        go_wp2
        go_quiet (fail)
        go_wp2_with fail
        refine (HPO.out _ (by simp only [app_list]; rw [HE1.out, HE2.out]) _ (HT2.out.drewN _)).mono ?_
        rintro e3 w3 ⟨rfl, B3⟩
        have HB3 := Lib.hid (HB2.out.trans ((⟨rfl, rfl, rfl, Nat.le_refl _, fun _ _ => rfl⟩ : Below w2.heap.size w2 (w2.drewN _)).trans (B3.mono (Nat.le_refl _)) |>.mono HB2.out.size))
        have HT3 := Lib.hid (HT.out.below HB3.out (Nat.le_refl _))
        clear B3
        have hkw := HKW.out
        by_cases cd : 48 ≤ (s[k].toNat : Int) ∧ (s[k].toNat : Int) ≤ 56
        · obtain ⟨cd1, cd2⟩ := cd
          obtain ⟨s3, e3, z3', c3⟩ := cut_to s k (by omega)
          obtain ⟨s4, e4, z4', c4'⟩ := cut_from s (k + 1) (by omega)
          have c4 : ∀ w, (Instr.slice 9 (.string s) (some (.int .i64 ((k : Int) + 1))) none none).run Tryz.prog w = .ok (.string s4) w := c4'
          have HE3 := Lib.hid e3
          have HE4 := Lib.hid e4
          have b3 : s3.size ≤ 30 := by omega
          have b4 : s4.size ≤ 30 := by omega
          clear e3 e4 c4'
          go_wp2_with fail
          obtain ⟨C, hC⟩ : ∃ C : World → Prop, ∀ u, C u := ⟨fun _ => True, fun _ => trivial⟩
          haveI : Nonempty (WIn C) := ⟨⟨w3, hC _⟩⟩
          refine region_segs 15 [([0, 1, 2, 3, 4, 5, 6, 10, 11, 12, 13], 7), ([], 8)] [9, 14] C (by kernel_rfl) (by kernel_rfl) (hC _) ?_
          refine segs_step (fun K' hK' => ?_)
          simp only [pick, List.getElem?_cons_zero, List.getElem?_cons_succ, Option.getD_some]
          repeat (go_big_quiet_step (fail))
          refine wpQuiet_nil (hK' _ (fun Q1 hQ1 => ?_))
          clear hK' K'
          simp only [pick, List.getElem?_cons_zero, List.getElem?_cons_succ, Option.getD_some]
          go_wp2_with fail
          obtain ⟨c1n, hc1n⟩ : ∃ c : UInt8, c = s[k] + 1 := ⟨_, rfl⟩
          have ec1 : (s[k].toNat : Int) + 1 = (c1n.toNat : Int) := by
            rw [hc1n, UInt8.toNat_add]
            have : (1 : UInt8).toNat = 1 := rfl
            omega
          rw [ec1]
          have HC1 := Lib.hid hc1n
          clear ec1 hc1n
          have cv : ∀ W : World, W.heap.size = w3.heap.size → (convert 41 9 (.slice (some ⟨w3.heap.size, 0, none⟩) 1 1)).run Tryz.prog (W.alloc (.cells #[.int .u8 (c1n.toNat : Int)] 5)) = .ok (.string ⟨[c1n].toArray⟩) (W.alloc (.cells #[.int .u8 (c1n.toNat : Int)] 5)) := fun W hW => by
            refine run_convB _ 41 5 9 Tryz.underlying41 Tryz.underlying5 Tryz.underlying9 _ [c1n] 1 1 rfl (fun j b hb => ?_)
            have hj : j = 0 := by
              rcases Nat.eq_zero_or_pos j with h | h
              · exact h
              · rw [List.getElem?_eq_none (by simp; omega)] at hb; cases hb
            subst hj
            have hb' : b = c1n := by simpa using hb.symm
            subst hb'
            refine ⟨_, rfl, ?_⟩
            rw [← hW]
            simp [Addr.add, byteV]
          have cvW := cv (w3.drewN 1) rfl
          clear cv
          refine hQ1 _ _ (hC _) (segs_step (fun K' hK' => wpQuiet_nil (hK' _ (fun Q2 hQ2 => ?_))))
          clear hK' K' hQ1 Q1
          simp only [pick, List.getElem?_cons_zero, List.getElem?_cons_succ, Option.getD_some]
          go_wp2_with fail
          refine hQ2 _ _ (hC _) (segs_last (fun K' hK' => ?_))
          clear hQ2 Q2
          simp only [pick, List.getElem?_cons_zero, List.getElem?_cons_succ, Option.getD_some]
          repeat (go_big_quiet_step (fail))
          refine wpQuiet_nil (hK' _ (fun Q3 hQ3 => ?_))
          clear hK' K'
          simp only [List.drop_succ_cons, List.drop_zero]
          go_wp2_with fail
          obtain ⟨W4, hW4⟩ : ∃ W4, W4 = (w3.drewN 1).alloc (.cells #[.int .u8 (c1n.toNat : Int)] 5) := ⟨_, rfl⟩
          have B4 : Below w3.heap.size w3 W4 := by
            rw [hW4]
            exact ((Below.refl w3.heap.size w3).trans ⟨rfl, rfl, rfl, Nat.le_refl _, fun _ _ => rfl⟩ : Below w3.heap.size w3 (w3.drewN 1)).alloc (Nat.le_refl _) _
          have HB4 := Lib.hid (HB3.out.trans (B4.mono HB3.out.size))
          have HT4 := Lib.hid (HT.out.below HB4.out (Nat.le_refl _))
          clear B4
          rw [← hW4]
          clear hW4 cvW
          refine (HPM.out k hkf hkl hks (by omega) (by omega) _ (by simp only [app_list]; rw [HE3.out, HE4.out, ← HC1.out]) _ HT4.out).mono ?_
          rintro e5 w5 ⟨ho, B5⟩
          have HB5 := Lib.hid (HB4.out.trans (B5.mono HB4.out.size))
          clear B5
          have hy := HY.out
          rcases ho with ⟨z, rfl⟩ | ⟨z, rfl, hz⟩
          · go_wp2
            all_goals go_ret
            all_goals exact ⟨rfl, HB5.out⟩
          · go_wp2
            all_goals go_ret
            all_goals exact ⟨rfl, HB5.out⟩
        · by_cases cd1 : 48 ≤ (s[k].toNat : Int)
          all_goals
            go_wp2_with fail
            refine (HPS.out _ HT3.out).mono ?_
            rintro e4 w4 ⟨rfl, B4⟩
            have HB4 := Lib.hid (HB3.out.trans (B4.mono HB3.out.size))
            clear B4
            have hy := HY.out
            go_wp2
            go_ret
            exact ⟨rfl, HB4.out⟩
end Go.Proofs.YtdgmokfdkophpaaGreatDoor

namespace Go.Proofs.YtdgmokfdkophpaaGreatDoor
open Go.RowKit

theorem dec_head0 (d : Nat) (h : 1 ≤ d) : ∃ c r, Lib.decDigits d = c :: r ∧ c ≠ 48 := by
  induction d using Nat.strongRecOn with
  | _ d ih =>
    rw [Lib.decDigits]
    split
    · rename_i h10
      refine ⟨_, _, rfl, fun e => ?_⟩
      have := congrArg UInt8.toNat e
      rw [UInt8.toNat_ofNat_of_lt' (by show _ < 256; omega)] at this
      have h48 : (48 : UInt8).toNat = 48 := rfl
      omega
    · obtain ⟨c, r, hc, hn⟩ := ih (d / 10) (by omega) (by omega)
      exact ⟨c, _, by rw [hc]; rfl, hn⟩
theorem trim_last (l : List UInt8) : 1 ≤ trimN l → ∃ u c, l.take (trimN l) = u ++ [c] ∧ c ≠ 48 := by
  induction l using snoc_ind with
  | h0 => intro h; exact absurd h (by decide)
  | h1 l c ih =>
    rw [trimN_snoc]
    split
    · rename_i h48
      intro h
      have := trimN_le l
      rw [List.take_append_of_le_length this]
      exact ih h
    · rename_i h48
      intro _
      exact ⟨l, c, List.take_of_length_le (by simp), h48⟩
theorem nz_of (c : UInt8) (hd : isDig c = true) (h : c ≠ 48) : nz c = true := by
  have := dig_bd c hd
  have : c.toNat ≠ 48 := fun e => h (UInt8.toNat_inj.1 (by rw [e]; rfl))
  unfold nz
  rw [Bool.and_eq_true, decide_eq_true_eq, decide_eq_true_eq]
  omega
/-- The first and the last digit of a float's digits. -/
theorem core_ends (d : Nat) (h : 1 ≤ d) : (∃ c r, coreD d = c :: r ∧ nz c = true) ∧ (∃ u c, coreD d = u ++ [c] ∧ nz c = true) := by
  have hd := core_dig d
  obtain ⟨l1, _⟩ := core_len d h
  constructor
  · obtain ⟨c, r, hc, hn⟩ := dec_head0 d h
    have hc' : ∃ r', coreD d = c :: r' := by
      unfold coreD at l1 ⊢
      rw [hc] at l1 ⊢
      cases hk : trimN (c :: r) with
      | zero => rw [hk] at l1; simp at l1
      | succ k => exact ⟨_, rfl⟩
    obtain ⟨r', hr'⟩ := hc'
    exact ⟨c, r', hr', nz_of c (hd c (by rw [hr']; simp)) hn⟩
  · obtain ⟨u, c, hc, hn⟩ := trim_last (Lib.decDigits d) (by
      have := trim_pos d h
      exact this)
    have hc' : coreD d = u ++ [c] := hc
    exact ⟨u, c, hc', nz_of c (hd c (by rw [hc']; simp)) hn⟩

theorem sc_none (a l : List UInt8) (h : ∀ c ∈ l, nz c = false) : (sc (a ++ l)).1 = (sc a).1 := by
  induction l using snoc_ind with
  | h0 => simp
  | h1 l c ih =>
    rw [← List.append_assoc, sc_snoc]
    unfold scStep
    rw [h c (by simp)]
    exact ih (fun x hx => h x (by simp [hx]))
theorem sc_hit (a : List UInt8) (c : UInt8) (h : nz c = true) : (sc (a ++ [c])).1.2 = a.length ∧ ((sc a).1.1 < 0 → (sc (a ++ [c])).1.1 = a.length) := by
  rw [sc_snoc]
  unfold scStep
  rw [h, sc_len]
  exact ⟨rfl, fun hf => by simp [hf]⟩
theorem sc_keep (a l : List UInt8) (h : 0 ≤ (sc a).1.1) : (sc (a ++ l)).1.1 = (sc a).1.1 := by
  induction l using snoc_ind with
  | h0 => simp
  | h1 l c ih =>
    rw [← List.append_assoc, sc_snoc]
    unfold scStep
    cases nz c
    · exact ih
    · simp only [if_true]
      rw [ih, if_neg (by omega)]

/-- The count over a printed text. -/
theorem sc_txt {neg : Bool} {x : Int} {k m : Nat} {pre mid post : List UInt8} (L : Lay neg x k pre m mid post) (D Z : List UInt8) (hD : D.length = k) (c r u c2) (h1 : D = c :: r) (hc : nz c = true) (h2 : D = u ++ [c2]) (hc2 : nz c2 = true) (hZ : ∀ c ∈ Z, nz c = false) :
    (sc (pre ++ (D.take m ++ mid ++ D.drop m) ++ Z)).1 = ((pre.length : Int), ((pre.length + (k + mid.length - 1) : Nat) : Int)) := by
  rw [sc_none _ Z hZ]
  have ml := mid_len L D hD
  have k1 : 1 ≤ k := by rw [← hD, h1]; simp
  have p0 : (sc pre).1 = (-1, -1) := by
    have := sc_none [] pre (fun c hc => (L.pre0 c hc).1)
    rwa [List.nil_append] at this
  -- the first
  obtain ⟨B, hB⟩ : ∃ B, D.take m ++ mid ++ D.drop m = c :: B := by
    obtain ⟨m', hm⟩ : ∃ m', m = m' + 1 := ⟨m - 1, by have := L.m1; omega⟩
    rw [h1, hm, List.take_succ_cons]
    exact ⟨_, rfl⟩
  have hf : (sc (pre ++ [c])).1.1 = pre.length := (sc_hit pre c hc).2 (by rw [p0]; decide)
  have first : (sc (pre ++ (D.take m ++ mid ++ D.drop m))).1.1 = pre.length := by
    rw [hB, show pre ++ c :: B = (pre ++ [c]) ++ B by simp, sc_keep _ _ (by rw [hf]; omega), hf]
  -- the last
  obtain ⟨B2, hB2⟩ : ∃ B2, D.take m ++ mid ++ D.drop m = B2 ++ [c2] := by
    have hu : u.length + 1 = k := by rw [← hD, h2]; simp
    rcases L.mid0 with ⟨a, b⟩ | ⟨a, b⟩
    · rw [b, List.take_of_length_le (by omega), List.drop_of_length_le (by omega), List.append_nil, List.append_nil]
      exact ⟨u, h2⟩
    · refine ⟨D.take m ++ mid ++ u.drop m, ?_⟩
      rw [List.append_assoc _ (u.drop m)]
      congr 1
      rw [h2, List.drop_append_of_le_length (by omega)]
  have hl2 : B2.length + 1 = k + mid.length := by rw [← ml, hB2]; simp
  have last : (sc (pre ++ (D.take m ++ mid ++ D.drop m))).1.2 = ((pre.length + (k + mid.length - 1) : Nat) : Int) := by
    rw [hB2, ← List.append_assoc, (sc_hit _ c2 hc2).1, List.length_append]
    congr 2
    omega
  exact Prod.ext first last

theorem mid_get {neg : Bool} {x : Int} {k m : Nat} {pre mid post : List UInt8} (L : Lay neg x k pre m mid post) (D : List UInt8) (hD : D.length = k) (i : Nat) (hi : i < k) : (D.take m ++ mid ++ D.drop m)[at1 m i]? = D[i]? := by
  unfold at1
  by_cases h : i < m
  · rw [if_pos h, List.getElem?_append_left (by simp only [List.length_append, List.length_take]; omega), List.getElem?_append_left (by rw [List.length_take]; omega), List.getElem?_take_of_lt h]
  · rw [if_neg h]
    rcases L.mid0 with ⟨h1, h2⟩ | ⟨h1, h2⟩
    · omega
    · rw [h2, List.getElem?_append_right (by simp only [List.length_append, List.length_take, List.length_cons, List.length_nil]; omega), List.getElem?_drop]
      congr 1
      simp only [List.length_append, List.length_take, List.length_cons, List.length_nil]
      omega

theorem rn_below (A A' B b r : Nat) (h : IsRN A B b) (hb : b < infR) (hA : A' < A) (h' : IsRN A' B r) : r < infR := by
  refine Nat.lt_of_le_of_ne h'.le fun e => ?_
  subst e
  have h1 := (h'.lo (infR - 1) (by decide)).1
  have h2 := (h.hi hb).1
  have v1 := vals_le b (infR - 1) (by omega)
  have v2 := vals_le (b + 1) infR (by omega)
  have : (vals b + vals (b + 1)) * B ≤ (vals (infR - 1) + vals infR) * B := Nat.mul_le_mul_right _ (by omega)
  omega
theorem ne_rung (neg : Bool) (r b : Nat) (hr : r < infR) (hb : b < infR) (hne : r ≠ b) : (FloatKind.f64.format.order (sgn neg + r) (sgn neg + b) != some .eq) = true := by
  have : (FloatKind.f64.format.order (sgn neg + r) (sgn neg + b) == some .eq) = false := by
    cases hh : FloatKind.f64.format.order (sgn neg + r) (sgn neg + b) == some .eq with
    | false => rfl
    | true =>
      exfalso
      have h3 := ((eq_key _ _).1 hh).2
      obtain ⟨c1, k1⟩ := cl_num neg r hr
      obtain ⟨c2, k2⟩ := cl_num neg b hb
      have hv : vals r ≠ vals b := by
        rcases Nat.lt_trichotomy r b with h | h | h
        · have := vals_lt _ _ h; omega
        · exact absurd h hne
        · have := vals_lt _ _ h; omega
      rw [c1, c2, k1, k2] at h3
      unfold cmpK at h3
      cases neg <;> simp at h3 <;> (repeat' split at h3) <;> omega
  simp [bne, this]

theorem tenA_lt (a b i : Nat) (h : a < b) : tenA a i < tenA b i := by
  unfold tenA
  exact Nat.mul_lt_mul_of_pos_right (Nat.mul_lt_mul_of_pos_right h (Nat.pow_pos (by decide))) (Nat.two_pow_pos 1074)

theorem short_num (neg : Bool) (b n : Nat) (hn : sgn neg + b = n) (h1 : 1 ≤ b) (h2 : b < infR) (h : Int) (w : World) (T : Tabs w) :
    Calls Tryz.prog 7 #[.int .u64 n, .int .i64 h] w fun e w' => e = .returned (.bool true) ∧ Below w.heap.size w w' := by
  obtain ⟨d, q, j, hA, t, ht, ht25, PR, PA, _⟩ := back_all neg b h1 h2
  rw [hn] at PR PA
  have j1 := hA.idx
  have j2 := hA.j1
  have j3 := hA.j2
  have hd1 := hA.pos
  have hdl := hA.lt
  have n1 := Lib.nDigits_pos d
  have n17 := nDigits_17 d hA.lt
  obtain ⟨l1, l2⟩ := core_len d hA.pos
  have hback := core_back d
  have hv := vfold_dec d
  rw [← hback, vfold_zeros] at hv
  obtain ⟨⟨c, r, hc, hcn⟩, u, c2, hc2, hc2n⟩ := core_ends d hA.pos
  have hdig := core_dig d
  obtain ⟨N, hN⟩ : ∃ N, Lib.nDigits d = N := ⟨_, rfl⟩
  rw [hN] at n1 n17 l2 hv ht
  obtain ⟨D, hD⟩ : ∃ D, coreD d = D := ⟨_, rfl⟩
  rw [hD] at l1 l2 hv ht hc hc2 hdig
  obtain ⟨k, hk⟩ : ∃ k, D.length = k := ⟨_, rfl⟩
  rw [hk] at l1 l2 hv
  obtain ⟨x, hx⟩ : ∃ x : Int, (N : Int) + q - 1 = x := ⟨_, rfl⟩
  rw [hx] at ht
  obtain ⟨v, hv0⟩ : ∃ v, vfold D = v := ⟨_, rfl⟩
  rw [hv0] at hv
  obtain ⟨pre, m, mid, post, L⟩ := lay_any neg x k l1
  have hl : t.data.toList = pre ++ (D.take m ++ mid ++ D.drop m) ++ post := by rw [ht]; exact L.txt D hk
  have hl' : t.data.toList = sTxt neg D x := by rw [ht]
  have ml := mid_len L D hk
  -- where the loop ends
  obtain ⟨Z, R, hZ, hZ0, hR⟩ : ∃ Z R, post = Z ++ R ∧ (∀ c ∈ Z, c = 48) ∧ (R = [] ∨ ∃ r, R = 101 :: r) := by
    rcases L.post0 with h | ⟨r, h⟩
    · exact ⟨post, [], by simp, h, .inl rfl⟩
    · exact ⟨[], post, by simp, by simp, .inr ⟨r, h⟩⟩
  obtain ⟨e, he⟩ : ∃ e, (pre ++ (D.take m ++ mid ++ D.drop m) ++ Z).length = e := ⟨_, rfl⟩
  have hl3 : t.data.toList = [] ++ (pre ++ (D.take m ++ mid ++ D.drop m) ++ Z) ++ R := by rw [hl, hZ]; simp
  have hte : t.data.toList.take e = pre ++ (D.take m ++ mid ++ D.drop m) ++ Z := by
    rw [hl3, List.nil_append, ← he, List.take_left]
  have hsz : t.size = e + R.length := by rw [size_list, hl3, List.nil_append, List.length_append, he]
  have hel : e = pre.length + (k + mid.length) + Z.length := by rw [← he, List.length_append, List.length_append, ml]
  have hmid1 : mid.length ≤ 1 := by rcases L.mid0 with ⟨_, h⟩ | ⟨_, h⟩ <;> rw [h] <;> simp
  have no101 : ∀ c ∈ pre ++ (D.take m ++ mid ++ D.drop m) ++ Z, c ≠ 101 := by
    intro c hc e101
    subst e101
    rcases List.mem_append.1 hc with hc | hc
    · rcases List.mem_append.1 hc with hc | hc
      · exact (L.pre0 _ hc).2 rfl
      · rcases List.mem_append.1 hc with hc | hc
        · rcases List.mem_append.1 hc with hc | hc
          · exact absurd (hdig _ (List.mem_of_mem_take hc)) (by decide)
          · rcases L.mid0 with ⟨_, h⟩ | ⟨_, h⟩
            · rw [h] at hc; cases hc
            · rw [h] at hc; simp at hc
        · exact absurd (hdig _ (List.mem_of_mem_drop hc)) (by decide)
    · exact absurd (hZ0 _ hc) (by decide)
  have hne : ∀ j (h : j < t.size), j < e → ((t[j].toNat : Int) != 101) = true := by
    intro j hj hje
    have g := byte_mid t [] (pre ++ (D.take m ++ mid ++ D.drop m) ++ Z) R hl3 j hj (by simp) (by rw [he]; simp; exact hje)
    have g2 := no101 t[j] (by rw [g]; exact List.getElem_mem _)
    simp
    intro h
    exact g2 (UInt8.toNat_inj.1 (by rw [show (101 : UInt8).toNat = 101 from rfl]; omega))
  have hend : ∀ h : e < t.size, ((t[e].toNat : Int) != 101) = false := by
    intro hj
    rcases hR with h | ⟨r, h⟩
    · rw [h] at hsz; simp at hsz; omega
    · have g := byte_mid t (pre ++ (D.take m ++ mid ++ D.drop m) ++ Z) R [] (by rw [hl3]; simp) e hj (by rw [he]; exact Nat.le_refl _) (by rw [he, h]; simp)
      have : t[e] = 101 := by
        have g' : R[e - (pre ++ (D.take m ++ mid ++ D.drop m) ++ Z).length]? = some t[e] := by rw [g]; exact List.getElem?_eq_getElem _
        rw [he, Nat.sub_self, h] at g'
        simpa using g'.symm
      rw [this]; rfl
  have hsc : (sc (t.data.toList.take e)).1 = ((pre.length : Int), ((pre.length + (k + mid.length - 1) : Nat) : Int)) := by
    rw [hte]
    exact sc_txt L D Z hk c r u c2 hc hcn hc2 hc2n (fun c hc => by rw [hZ0 c hc]; rfl)
  by_cases k1 : k = 1
  · have hm0 : mid.length = 0 := by
      rcases L.mid0 with ⟨_, h⟩ | ⟨h, _⟩
      · rw [h]; rfl
      · have := L.m1; omega
    rw [hm0, k1] at hsc
    exact short_one t n h e pre.length w T (by omega) ht25 (by omega) hne hend hsc PR
  · -- two digits or more
    have hkm : at1 m (k - 1) = k + mid.length - 1 := by
      unfold at1
      rcases L.mid0 with ⟨h, h'⟩ | ⟨h, h'⟩
      · rw [if_pos (by omega), h']; rfl
      · rw [if_neg (by omega), h']; simp; omega
    have hrn : IsRN (tenA v (j + (N - k))) (tenB (j + (N - k))) b := by
      rw [rn_shift_n, hv]; exact hA.rn
    have hv10 : 10 ≤ v := by
      have hcd : isDig c = true := hdig c (by rw [hc]; simp)
      have hcb := dig_bd c hcd
      have hcz : 49 ≤ c.toNat := by
        unfold nz at hcn
        rw [Bool.and_eq_true, decide_eq_true_eq, decide_eq_true_eq] at hcn
        exact hcn.1
      have := vfold_three [] r c hcd (fun c hc' => hdig c (by rw [hc]; simp [hc']))
      rw [List.nil_append, ← hc, hv0] at this
      have hr1 : 1 ≤ r.length := by rw [hc] at hk; simp at hk; omega
      have p10 : 10 ^ 1 ≤ 10 ^ r.length := Nat.pow_le_pow_right (by decide) hr1
      have g := Nat.mul_le_mul (show 1 ≤ vfold [] * 10 + (c.toNat - 48) by omega) p10
      omega
    have hvd : v ≤ d := by
      rw [← hv]
      exact Nat.le_mul_of_pos_right _ (Nat.pow_pos (by decide))
    -- the last digit a nought
    obtain ⟨o1, o2, o3⟩ := vfold_odd D hdig (k - 1) (by omega)
    rw [hv0] at o2 o3
    have hlastd : D[k - 1]'(by omega) = c2 := by
      have := List.getElem_of_eq hc2 (i := k - 1) (by omega)
      rw [this, List.getElem_append_right (by
        have : D.length = u.length + 1 := by rw [hc2]; simp
        omega)]
      simp
    have hc2z : 49 ≤ c2.toNat := by
      unfold nz at hc2n
      rw [Bool.and_eq_true, decide_eq_true_eq, decide_eq_true_eq] at hc2n
      exact hc2n.1
    rw [hlastd] at o3
    have hd2 := dig_bd c2 (hdig c2 (by rw [hc2]; simp))
    have v10 : v % 10 ≠ 0 := by omega
    obtain ⟨r1, hr1⟩ := rn_exists (v / 10 * 10) (j + (N - k)) (by omega) (by omega) (by omega)
    have hr1b : r1 ≠ b := fun e => by
      subst e
      exact odd_other _ d j (N - k) v _ q hA hv rfl v10 hr1
    have hr1I : r1 < infR := rn_below _ _ _ b r1 hrn h2 (tenA_lt _ _ _ (by omega)) hr1
    refine short_many t n h e pre.length (pre.length + (k + mid.length - 1)) (sgn neg + r1) w T (by omega) ht25 (by omega) hne hend hsc (by omega) (by omega) PR (by rw [← hn]; exact ne_rung neg r1 b hr1I h2 hr1b) PA ?_ ?_
    · intro k' g1 g2 g3 g4 g5 t' ht' w' T'
      obtain ⟨p, hp⟩ : ∃ p, k' = pre.length + p := ⟨k' - pre.length, by omega⟩
      subst hp
      have gb := byte_mid t pre (D.take m ++ mid ++ D.drop m) post hl (pre.length + p) g3 (by omega) (by rw [ml]; omega)
      have gb' : (D.take m ++ mid ++ D.drop m)[p]? = some t[pre.length + p] := by
        rw [List.getElem?_eq_getElem (by rw [ml]; omega), gb]
        simp
      -- which digit
      obtain ⟨i, hi, hip⟩ : ∃ i, i < k - 1 ∧ at1 m i = p := by
        rcases L.mid0 with ⟨a, b'⟩ | ⟨a, b'⟩
        · rw [b'] at g2
          simp at g2
          exact ⟨p, by omega, by unfold at1; rw [if_pos (by omega)]⟩
        · rw [b'] at g2
          simp at g2
          rcases Nat.lt_trichotomy p m with hpm | hpm | hpm
          · exact ⟨p, by omega, by unfold at1; rw [if_pos hpm]⟩
          · exfalso
            obtain ⟨cc, hcc⟩ : ∃ cc, t[pre.length + p]'g3 = cc := ⟨_, rfl⟩
            have gb2 := gb'
            rw [hcc, b', hpm, List.append_assoc, List.getElem?_append_right (by rw [List.length_take]; omega)] at gb2
            have e0 : m - (D.take m).length = 0 := by rw [List.length_take]; omega
            rw [e0] at gb2
            have e46 : cc = 46 := by simpa using gb2.symm
            rw [hcc, e46] at g4
            exact absurd g4 (by decide)
          · exact ⟨p - 1, by omega, by unfold at1; rw [if_neg (by omega)]; omega⟩
      have hDi : D[i]'(by omega) = t[pre.length + p] := by
        have := mid_get L D hk i (by omega)
        rw [hip, gb', List.getElem?_eq_getElem (by omega)] at this
        exact (Option.some.inj this).symm
      have htx : t'.data.toList = sTxt neg (D.set i (D[i]'(by omega) + 1)) x := by
        rw [ht', hDi, ← txt_set L D hk i (by omega), hip, hl', List.set_eq_take_append_cons_drop, if_pos (by rw [← hl', ← size_list]; exact g3)]
        simp
      have ht'' : t' = ⟨(sTxt neg (D.set i (D[i]'(by omega) + 1)) x).toArray⟩ := bytes_ext t' _ htx
      rw [ht'']
      obtain ⟨m1, m2⟩ := vfold_more D hdig i (by omega) (by rw [hDi]; exact g5)
      have m2 := m2.trans (show vfold D + 10 ^ (D.length - 1 - i) = v + 10 ^ (k - 1 - i) by rw [hv0, hk])
      have p17 : 10 ^ (k - 1 - i) ≤ 10 ^ 16 := Nat.pow_le_pow_right (by decide) (by omega)
      have e16 : (10 : Nat) ^ 16 = 10000000000000000 := by decide
      rw [e16] at p17
      obtain ⟨P10, hP10⟩ : ∃ P, 10 ^ (k - 1 - i) = P := ⟨_, rfl⟩
      rw [hP10] at m2 p17
      have w1 : 1 ≤ v + P10 := by omega
      have w2 : v + P10 < 144115188075855872 := by omega
      obtain ⟨r2, hr2⟩ := rn_exists (v + P10) (j + (N - k)) w1 w2 (by omega)
      have hr2b : r2 ≠ b := fun e => by
        subst e
        exact more_other _ d j (N - k) v _ (k - 1 - i) q hA hv (by rw [hP10]) (by omega) hr2
      refine (parse_digits neg _ x j (N - k) r2 (by rw [List.length_set]; omega) (by rw [List.length_set]; omega) m1 (by rw [List.length_set, hk]; omega) j2 (by omega) (by rw [m2]; exact w1) (by rw [m2]; exact w2) (by rw [m2]; exact hr2) w' T').mono ?_
      rintro e' w2 ⟨ho, B⟩
      refine ⟨?_, B⟩
      rcases ho with ⟨g, rfl⟩ | ⟨g, rfl⟩
      · exact .inr ⟨_, rfl, by rw [← hn]; exact ne_rung neg r2 b g h2 hr2b⟩
      · exact .inl ⟨_, rfl⟩
    · intro t' ht' w' T'
      have htx : t'.data.toList = sTxt neg (D.set (k - 1) 48) x := by
        rw [ht', ← txt_set L D hk (k - 1) (by omega), hkm, hl', List.set_eq_take_append_cons_drop, if_pos (by rw [← hl', ← size_list]; omega)]
        simp
      have ht'' : t' = ⟨(sTxt neg (D.set (k - 1) 48) x).toArray⟩ := bytes_ext t' _ htx
      rw [ht'']
      refine (parse_digits neg _ x j (N - k) r1 (by rw [List.length_set]; omega) (by rw [List.length_set]; omega) o1 (by rw [List.length_set, hk]; omega) j2 (by omega) (by rw [o2]; omega) (by rw [o2]; omega) (by rw [o2]; exact hr1) w' T').mono ?_
      rintro e' w2 ⟨ho, B⟩
      refine ⟨?_, B⟩
      rcases ho with ⟨g, rfl⟩ | ⟨g, _⟩
      · rfl
      · omega

theorem short_zero (neg : Bool) (n : Nat) (hn : sgn neg + 0 = n) (h : Int) (w : World) (T : Tabs w) :
    Calls Tryz.prog 7 #[.int .u64 n, .int .i64 h] w fun e w' => e = .returned (.bool true) ∧ Below w.heap.size w w' := by
  have s1 := self_rung neg 0 (by decide)
  have s2 := inf_rung neg 0 (by decide)
  have s3 : (FloatKind.f64.format.order (sgn neg + 0) 0 == some .eq) = true := by cases neg <;> kernel_rfl
  rw [hn] at s1 s2 s3
  have s1' : (FloatKind.f64.format.order n n != some .eq) = false := by simp [bne, s1]
  have PR : ∀ w, Tabs w → Calls Tryz.prog 19 #[.float .f64 n] w fun e w' => e = .returned (.string s0) ∧ Below w.heap.size w w' := fun w _ => (print_zero n w s1' s2 s3).mono fun e w' h => ⟨h.1, by rw [← h.2]; exact Below.refl _ _⟩
  exact short_one s0 n h 1 (-1) w T (by decide) (by decide) (by decide) (fun j hj hlt => by
    obtain rfl : j = 0 := by omega
    rfl) (fun h => absurd h (by decide)) (by decide) PR

set_option maxRecDepth 100000 in
set_option maxHeartbeats 1000000 in
theorem short_none (neg : Bool) (b n : Nat) (hn : sgn neg + b = n) (h1 : infR ≤ b) (h2 : b < 9223372036854775808) (h : Int) (w : World) (T : Tabs w) :
    Calls Tryz.prog 7 #[.int .u64 n, .int .i64 h] w fun e w' => e = .returned (.bool true) ∧ Below w.heap.size w w' := by
  have PR := fun w => print_none neg b w h1 h2
  rw [hn] at PR
  have d11 := fun w => from_bits n w
  have HPR := Lib.hid PR
  have HT := Lib.hid T
  clear PR T hn h1 h2
  go_enter Tryz.func7, Tryz.ntmps7
  go_wp2_with fail
  refine (shown_any _ HT.out).mono ?_
  rintro e w1 ⟨rfl, B1⟩
  have HB1 := Lib.hid B1
  clear B1
  go_wp2_with fail
  refine (HPR.out _).mono ?_
  rintro e w2 ⟨rfl, rfl⟩
  go_wp2
  go_ret
  exact ⟨rfl, HB1.out⟩

/-- RealShort returns true. -/
theorem short_any (n : Nat) (hn : n < 18446744073709551616) (h : Int) (w : World) (T : Tabs w) : Calls Tryz.prog 7 #[.int .u64 n, .int .i64 h] w fun e w' => e = .returned (.bool true) ∧ Below w.heap.size w w' := by
  obtain ⟨neg, b, hnb, hb⟩ : ∃ neg b, sgn neg + b = n ∧ b < 9223372036854775808 := by
    by_cases c : n < 9223372036854775808
    · exact ⟨false, n, by simp [sgn], c⟩
    · exact ⟨true, n - 9223372036854775808, by simp [sgn]; omega, by omega⟩
  by_cases c0 : b = 0
  · subst c0
    exact short_zero neg n hnb h w T
  · by_cases cI : b < infR
    · exact short_num neg b n hnb (by omega) cI h w T
    · exact short_none neg b n hnb (by omega) hb h w T
end Go.Proofs.YtdgmokfdkophpaaGreatDoor
