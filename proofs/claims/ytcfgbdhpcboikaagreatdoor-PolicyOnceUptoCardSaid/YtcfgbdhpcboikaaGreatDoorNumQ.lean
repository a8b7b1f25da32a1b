/-
  Every numeral's parts; what readFloat and special give of it.
  atof64exact, told ahead of the world.
  atof64 at any numeral, case by case.
-/
import Derived.Test.YtcfgbdhpcboikaaGreatDoorNumL
import Derived.Test.YtcfgbdhpcboikaaGreatDoorNearT
import Derived.Test.YtcfgbdhpcboikaaGreatDoorAtofW
import Derived.Great.Walk
namespace Go.Proofs.YtcfgbdhpcboikaaGreatDoor
open Go.RowKit

structure NumQ (s : ByteArray) (neg : Bool) (A F : List UInt8) (dot : Bool) (X : List UInt8) (ev : Int) : Prop where
  txt : s.data.toList = (if neg then [45] else []) ++ (A ++ (if dot then 46 :: F else [])) ++ X
  digA : ∀ c ∈ A, isDig c = true
  digF : ∀ c ∈ F, isDig c = true
  ne : A ≠ [] ∨ dot = true
  F1 : dot = true → F ≠ []
  exp : (X = [] ∧ ev = 0) ∨ ∃ (cE : UInt8) (sg Dg : List UInt8) (es : Int), X = cE :: sg ++ Dg ∧ (cE = 101 ∨ cE = 69) ∧ Dg ≠ [] ∧ (∀ c ∈ Dg, isDig c = true) ∧ ((sg = [] ∧ es = 1) ∨ (sg = [43] ∧ es = 1) ∨ (sg = [45] ∧ es = -1)) ∧ ev = (efold Dg : Nat) * es
  len : s.size ≤ 40

theorem bodyq_ch {s : ByteArray} {neg dot : Bool} {A F X : List UInt8} {ev : Int} (N : NumQ s neg A F dot X ev) : ∀ c ∈ bodyL A F dot, numCh c = true := by
  intro c hc
  unfold bodyL at hc
  rcases List.mem_append.1 hc with h | h
  · unfold numCh; rw [N.digA c h]; rfl
  · cases dot
    · simp at h
    · rw [if_pos rfl] at h
      rcases List.mem_cons.1 h with h | h
      · rw [h]; rfl
      · unfold numCh; rw [N.digF c h]; rfl

theorem digs_split (l : List UInt8) : ∃ A r, l = A ++ r ∧ A.length = digs l ∧ (∀ c ∈ A, isDig c = true) ∧ l.take (digs l) = A ∧ l.drop (digs l) = r := by
  refine ⟨l.takeWhile isDig, l.dropWhile isDig, List.takeWhile_append_dropWhile.symm, rfl, ?_, ?_, ?_⟩
  · intro c hc
    induction l with
    | nil => cases hc
    | cons d l ih =>
      rw [List.takeWhile_cons] at hc
      split at hc
      · rename_i hd
        rcases List.mem_cons.1 hc with h | h
        · rw [h]; exact hd
        · exact ih h
      · cases hc
  · have e : l = l.takeWhile isDig ++ l.dropWhile isDig := List.takeWhile_append_dropWhile.symm
    conv => lhs; arg 2; rw [e]
    unfold digs
    exact List.take_left
  · have e : l = l.takeWhile isDig ++ l.dropWhile isDig := List.takeWhile_append_dropWhile.symm
    conv => lhs; arg 2; rw [e]
    unfold digs
    exact List.drop_left

theorem num3_form (y : List UInt8) (h : num3 y = true) : ∃ (sg Dg : List UInt8) (es : Int), y = sg ++ Dg ∧ Dg ≠ [] ∧ (∀ c ∈ Dg, isDig c = true) ∧ ((sg = [] ∧ es = 1) ∨ (sg = [43] ∧ es = 1) ∨ (sg = [45] ∧ es = -1)) := by
  have all : ∀ l : List UInt8, (!l.isEmpty && digs l == l.length) = true → l ≠ [] ∧ ∀ c ∈ l, isDig c = true := by
    intro l hl
    rw [Bool.and_eq_true] at hl
    obtain ⟨h1, h2⟩ := hl
    refine ⟨by rintro rfl; exact absurd h1 (by decide), ?_⟩
    obtain ⟨A, r, e, hA, hd, _, _⟩ := digs_split l
    have h2 : digs l = l.length := by simpa using h2
    have : r = [] := by
      have h3 : l.length = A.length + r.length := by rw [e]; simp
      exact List.eq_nil_of_length_eq_zero (by omega)
    rw [e, this, List.append_nil]
    exact hd
  unfold num3 at h
  cases y with
  | nil =>
    have := (all [] h).1
    exact absurd rfl this
  | cons c y =>
    by_cases h1 : c = 43
    · rw [if_pos (.inl (by rw [h1]; rfl))] at h
      obtain ⟨a, b⟩ := all y h
      exact ⟨[43], y, 1, by rw [h1]; rfl, a, b, .inr (.inl ⟨rfl, rfl⟩)⟩
    · by_cases h2 : c = 45
      · rw [if_pos (.inr (by rw [h2]; rfl))] at h
        obtain ⟨a, b⟩ := all y h
        exact ⟨[45], y, -1, by rw [h2]; rfl, a, b, .inr (.inr ⟨rfl, rfl⟩)⟩
      · rw [if_neg (by simp [h1, h2])] at h
        obtain ⟨a, b⟩ := all (c :: y) h
        exact ⟨[], c :: y, 1, rfl, a, b, .inl ⟨rfl, rfl⟩⟩
theorem num2_form (n : Nat) (X : List UInt8) (h : num2 n X = true) : n ≠ 0 ∧ ∃ ev : Int, (X = [] ∧ ev = 0) ∨ ∃ (cE : UInt8) (sg Dg : List UInt8) (es : Int), X = cE :: sg ++ Dg ∧ (cE = 101 ∨ cE = 69) ∧ Dg ≠ [] ∧ (∀ c ∈ Dg, isDig c = true) ∧ ((sg = [] ∧ es = 1) ∨ (sg = [43] ∧ es = 1) ∨ (sg = [45] ∧ es = -1)) ∧ ev = (efold Dg : Nat) * es := by
  unfold num2 at h
  split at h
  · cases h
  · rename_i hn
    refine ⟨hn, ?_⟩
    split at h
    · rename_i hX
      exact ⟨0, .inl ⟨hX, rfl⟩⟩
    · rename_i hX
      split at h
      · rename_i hc
        cases X with
        | nil => exact absurd rfl hX
        | cons c y =>
          obtain ⟨sg, Dg, es, e, a, b, d⟩ := num3_form y h
          exact ⟨_, .inr ⟨c, sg, Dg, es, by rw [e]; rfl, by simpa using hc, a, b, d, rfl⟩⟩
      · cases h
theorem numB_form (s : ByteArray) (h : numB s.data.toList = true) : ∃ neg A F dot X ev, NumQ s neg A F dot X ev := by
  unfold numB at h
  split at h
  · cases h
  · rename_i hl
    have hsz : s.size ≤ 40 := by rw [size_list]; omega
    obtain ⟨neg, l1, e1, h⟩ : ∃ (neg : Bool) (l1 : List UInt8), s.data.toList = (if neg then [45] else []) ++ l1 ∧ num1 l1 = true := by
      split at h
      · rename_i h45
        cases hs : s.data.toList with
        | nil => rw [hs] at h45; cases h45
        | cons c l =>
          rw [hs] at h45 h
          have : c = 45 := by simpa using h45
          exact ⟨true, l, by rw [this]; rfl, h⟩
      · exact ⟨false, _, rfl, h⟩
    unfold num1 at h
    obtain ⟨A, r, e2, hA, dA, _, er⟩ := digs_split l1
    rw [er] at h
    split at h
    · rename_i h46
      cases r with
      | nil => cases h46
      | cons c r =>
        have hc : c = 46 := by simpa using h46
        subst hc
        have e3 : (46 :: r).drop 1 = r := rfl
        rw [e3] at h
        obtain ⟨F, X, e4, hF, dF, _, eX⟩ := digs_split r
        split at h
        · cases h
        · rename_i hf0
          have e5 : (46 :: r).drop (1 + digs r) = X := by
            rw [Nat.add_comm, List.drop_succ_cons]
            exact eX
          rw [e5] at h
          obtain ⟨_, ev, hX⟩ := num2_form _ _ h
          refine ⟨neg, A, F, true, X, ev, ⟨?_, dA, dF, .inr rfl, ?_, hX, hsz⟩⟩
          · rw [e1, e2, e4]; simp
          · rintro _ rfl
            exact hf0 (by rw [← hF]; rfl)
    · obtain ⟨hn, ev, hX⟩ := num2_form _ _ h
      refine ⟨neg, A, [], false, r, ev, ⟨?_, dA, by simp, .inl ?_, by simp, hX, hsz⟩⟩
      · rw [e1, e2]; simp
      · rintro rfl
        exact hn (by rw [← hA]; rfl)

theorem numq_parts {s : ByteArray} {neg dot : Bool} {A F X : List UInt8} {ev : Int} (N : NumQ s neg A F dot X ev) :
    ∃ p0 q, SignAt s neg p0 ∧ NumText s p0 q ∧ ExpAt s q ev ∧ part s p0 q = bodyL A F dot ∧ p0 < s.size ∧ (∀ h : p0 < s.size, s[p0].toNat ≤ 57) ∧ p0 = (if neg then 1 else 0) := by
  obtain ⟨S, hS⟩ : ∃ S : List UInt8, (if neg then [45] else []) = S := ⟨_, rfl⟩
  obtain ⟨W, hW⟩ : ∃ W, bodyL A F dot = W := ⟨_, rfl⟩
  have ht := N.txt
  have hch := bodyq_ch N
  rw [hW] at hch
  have hW' : A ++ (if dot then 46 :: F else []) = W := hW
  rw [hS, hW'] at ht
  have hsz : s.size = S.length + W.length + X.length := by rw [size_list, ht]; simp; omega
  have hA : 1 ≤ W.length := by
    rw [← hW']
    rcases N.ne with h | h
    · have := List.length_pos_iff.2 h
      simp; omega
    · rw [h]; simp; omega
  have hp0 : S.length = (if neg then 1 else 0) := by rw [← hS]; cases neg <;> rfl
  have first : ∀ h : S.length < s.size, isDig s[S.length] = true ∨ s[S.length] = 46 := by
    intro h
    have e := byte_mid s S W X ht S.length h (Nat.le_refl _) (by omega)
    rw [e]
    have := hch (W[S.length - S.length]'(by omega)) (List.getElem_mem _)
    simpa [numCh] using this
  have hlt : S.length < s.size := by omega
  have fb : 46 ≤ s[S.length].toNat ∧ s[S.length].toNat ≤ 57 := by
    rcases first hlt with h | h
    · have := dig_bd _ h; omega
    · rw [h]; decide
  refine ⟨S.length, S.length + W.length, ?_, ?_, ?_, ?_, hlt, fun h => fb.2, hp0⟩
  · refine ⟨by omega, ?_⟩
    cases neg
    · have hS0 : S = [] := by rw [← hS]; rfl
      subst hS0
      left
      have b := fb
      refine ⟨rfl, rfl, ?_, ?_⟩
      · rw [beq_eq_false_iff_ne]
        have : (s[0].toNat) = s[([] : List UInt8).length].toNat := rfl
        omega
      · rw [beq_eq_false_iff_ne]
        have : (s[0].toNat) = s[([] : List UInt8).length].toNat := rfl
        omega
    · have hS0 : S = [45] := by rw [← hS]; rfl
      subst hS0
      right
      have e := byte_mid s [] [45] (W ++ X) (by rw [ht]; simp) 0 (by omega) (Nat.zero_le _) (by simp)
      have e' : s[0]'(by omega) = 45 := e
      refine ⟨rfl, rfl, ?_, ?_⟩
      · rw [e']; decide
      · rw [e']; decide
  · refine ⟨by omega, by omega, ?_, ?_, ?_, ?_⟩
    · intro j h h1 h2
      rw [byte_mid s S W X ht j h h1 (by omega)]
      exact hch _ (List.getElem_mem _)
    · intro j h h1 h2 h46
      rw [part_pre s S W X ht j h1 (by omega)]
      have e := byte_mid s S W X ht j h h1 (by omega)
      rw [h46] at e
      -- the point stands behind A
      have hj : j - S.length = A.length := by
        rcases Nat.lt_trichotomy (j - S.length) A.length with hl | hl | hl
        · exfalso
          have e2 : W[j - S.length]'(by omega) = A[j - S.length]'hl := by
            have := List.getElem_of_eq hW'.symm (i := j - S.length) (by omega)
            rw [this, List.getElem_append_left hl]
          rw [e2] at e
          have := N.digA _ (List.getElem_mem hl)
          rw [← e] at this
          exact absurd this (by decide)
        · exact hl
        · exfalso
          cases dot
          · have : W = A := by rw [← hW']; simp
            rw [this] at h2
            omega
          · have hWe : W = A ++ 46 :: F := by rw [← hW']; rfl
            have hlF : j - S.length - A.length - 1 < F.length := by
              have : W.length = A.length + (F.length + 1) := by rw [hWe]; simp
              omega
            have e2 : W[j - S.length]'(by omega) = F[j - S.length - A.length - 1]'hlF := by
              have := List.getElem_of_eq hWe (i := j - S.length) (by omega)
              rw [this, List.getElem_append_right (by omega)]
              rw [List.getElem_cons]
              rw [dif_neg (by omega)]
            rw [e2] at e
            have := N.digF _ (List.getElem_mem hlF)
            rw [← e] at this
            exact absurd this (by decide)
      have e3 : W.take (j - S.length) = A := by
        rw [hj, ← hW', List.take_left]
      rw [e3]
      exact rfold_nodot A N.digA
    · rw [part_mid s S W X ht]
      rcases N.ne with h | h
      · obtain ⟨c, hc⟩ := List.exists_mem_of_ne_nil _ h
        exact rfold_dig W c (by rw [← hW']; simp [hc]) (N.digA c hc)
      · obtain ⟨c, hc⟩ := List.exists_mem_of_ne_nil _ (N.F1 h)
        exact rfold_dig W c (by rw [← hW', h]; simp [hc]) (N.digF c hc)
    · intro h
      have hX : X ≠ [] := by
        intro h0
        rw [h0] at hsz
        simp at hsz
        omega
      have e := byte_mid s (S ++ W) X [] (by rw [ht]; simp) (S.length + W.length) h (by simp) (by
        simp
        exact List.length_pos_iff.2 hX)
      rw [e]
      rcases N.exp with ⟨h0, _⟩ | ⟨cE, sg, Dg, es, h0, hcE, _⟩
      · exact absurd h0 hX
      · subst h0
        simpa using hcE
  · rcases N.exp with ⟨h0, h1⟩ | ⟨cE, sg, Dg, es, hX, hcE, hne, hdg, hsg, hev⟩
    · left
      rw [h0] at hsz
      simp at hsz
      exact ⟨by omega, h1⟩
    · right
      have hDl : 1 ≤ Dg.length := List.length_pos_iff.2 hne
      have hXl : X.length = 1 + sg.length + Dg.length := by rw [hX]; simp; omega
      have hq : S.length + W.length + 1 < s.size := by omega
      -- what follows the e
      have htx : s.data.toList = (S ++ W ++ [cE] ++ sg) ++ Dg ++ [] := by rw [ht, hX]; simp
      have hl4 : (S ++ W ++ [cE] ++ sg).length = S.length + W.length + 1 + sg.length := by simp; omega
      refine ⟨hq, S.length + W.length + 1 + sg.length, es, ?_, by omega, ?_, ?_⟩
      · rcases hsg with ⟨h1, h2⟩ | ⟨h1, h2⟩ | ⟨h1, h2⟩
        · left
          refine ⟨by rw [h1]; rfl, h2, ?_⟩
          rw [h1] at hl4
          have := byte_mid s _ Dg [] htx (S.length + W.length + 1) hq (by rw [h1, hl4]; simp) (by rw [h1, hl4]; simp; omega)
          rw [this]
          exact hdg _ (List.getElem_mem _)
        · right; left
          refine ⟨by rw [h1]; rfl, h2, ?_⟩
          have := byte_mid s (S ++ W ++ [cE]) sg Dg (by rw [ht, hX]; simp) (S.length + W.length + 1) hq (by simp; omega) (by rw [h1]; simp; omega)
          rw [this]
          simp [h1]
        · right; right
          refine ⟨by rw [h1]; rfl, h2, ?_⟩
          have := byte_mid s (S ++ W ++ [cE]) sg Dg (by rw [ht, hX]; simp) (S.length + W.length + 1) hq (by simp; omega) (by rw [h1]; simp; omega)
          rw [this]
          simp [h1]
      · intro j h h1
        have := byte_mid s _ Dg [] htx j h (by rw [hl4]; exact h1) (by rw [hl4]; omega)
        rw [this]
        exact hdg _ (List.getElem_mem _)
      · have e : part s (S.length + W.length + 1 + sg.length) s.size = Dg := by
          have := part_mid s _ Dg [] htx
          rw [hl4, show S.length + W.length + 1 + sg.length + Dg.length = s.size by omega] at this
          exact this
        rw [e]
        exact hev
  · rw [hW]; exact part_mid s S W X ht

theorem numB_reads (s : ByteArray) (h : numB s.data.toList = true) : ∃ neg p0 q ev, s.size ≤ 40 ∧ SignAt s neg p0 ∧ NumText s p0 q ∧ ExpAt s q ev ∧
    ∀ w, Calls Tryz.prog 233 #[.string s] w fun e w' => e = .returned (.tuple #[.float .f64 0, .int .i64 0, .bool false]) ∧ w = w' := by
  obtain ⟨neg, A, F, dot, X, ev, N⟩ := numB_form s h
  obtain ⟨p0, q, ⟨g0, hsg⟩, h2, h3, h4, h5, h6, h7⟩ := numq_parts N
  refine ⟨neg, p0, q, ev, N.len, ⟨g0, hsg⟩, h2, h3, fun w => ?_⟩
  have hl := N.len
  rcases hsg with ⟨rfl, rfl, a, b⟩ | ⟨rfl, rfl, a, b⟩
  · exact special_plain s w g0 hl (h6 h5) a b
  · exact special_minus s w h5 hl a b (h6 h5)
end Go.Proofs.YtcfgbdhpcboikaaGreatDoor

namespace Go.Proofs.YtcfgbdhpcboikaaGreatDoor
open Go.RowKit

theorem exact_all (m i : Nat) (neg : Bool) (hm : m ≠ 0) (hi : i < 696) :
    (∃ r, r < infR ∧ ∀ w, Tabs w → Calls Tryz.prog 244 #[.int .u64 m, .int .i64 ((i : Int) - 348), .bool neg] w fun e w' => e = .returned (.tuple #[.float .f64 (sgn neg + r), .bool true]) ∧ w = w') ∨
    (∀ w, Tabs w → Calls Tryz.prog 244 #[.int .u64 m, .int .i64 ((i : Int) - 348), .bool neg] w (NoFloat w)) := by
  by_cases hm52 : m < 4503599627370496
  · obtain ⟨f1, f2, f3⟩ := float_rung m hm (by omega)
    have fs := signed_eq neg m hm (by omega)
    by_cases c0 : i = 348
    · subst c0
      refine .inl ⟨_, f1, fun w T => ?_⟩
      have := exact_int m neg w T hm52
      rw [fs] at this
      exact this
    · by_cases c1 : 348 < i ∧ i ≤ 370
      · obtain ⟨p, rfl⟩ : ∃ p, i = 348 + p := ⟨i - 348, by omega⟩
        have ep : ((348 + p : Nat) : Int) - 348 = (p : Int) := by omega
        rw [ep]
        obtain ⟨t1, t2, t3⟩ := ten_ok p (by omega)
        obtain ⟨r, er, hr⟩ := mul_rn neg _ _ f1 t1 f2 t2
        have hr2 : IsRN (tenA m (348 + p)) (tenB (348 + p)) r := by
          obtain ⟨a, b⟩ := tenA_up m p
          refine rn_cross _ _ _ _ _ (Nat.two_pow_pos _) (tenB_pos _) ?_ hr
          rw [a, b, f3, t3]
          exact ac_mul _ _ _
        have hrI : r < infR := by
          have := rn_le _ _ r 9006104071832581120 (tenB_pos _) hr2 (by
            obtain ⟨a, b⟩ := tenA_up m p
            rw [a, b, Nat.mul_one]
            have : m * 10 ^ p ≤ 4503599627370496 * 10 ^ 22 := Nat.mul_le_mul (by omega) (Nat.pow_le_pow_right (by decide) (by omega))
            refine Nat.le_trans (Nat.mul_le_mul_right _ this) ?_
            exact of_decide_eq_true (by kernel_rfl))
          unfold infR; omega
        cases hg1 : FloatKind.f64.format.order (signedF neg m) 4831355200913801216 == some .gt with
        | true => exact .inr fun w T => (exact_over m p neg w T hm52 (by omega) (by omega) (.inl hg1))
        | false =>
          cases hg2 : FloatKind.f64.format.order (signedF neg m) 14054727237768577024 == some .lt with
          | true => exact .inr fun w T => (exact_over m p neg w T hm52 (by omega) (by omega) (.inr ⟨hg1, hg2⟩))
          | false =>
            exact .inl ⟨r, hrI, fun w T => (exact_mul m p neg (sgn neg + r) w T hm52 (by omega) (by omega) hg1 hg2 (by rw [fs]; exact er))⟩
      · by_cases c2 : 370 < i ∧ i ≤ 385
        · obtain ⟨p, rfl⟩ : ∃ p, i = 348 + p := ⟨i - 348, by omega⟩
          have ep : ((348 + p : Nat) : Int) - 348 = (p : Int) := by omega
          rw [ep]
          obtain ⟨q, hq⟩ : ∃ q, q + 22 = p := ⟨p - 22, by omega⟩
          obtain ⟨t1, t2, t3⟩ := ten_ok q (by omega)
          obtain ⟨r1, er1, hr1⟩ := mul_rn neg _ _ f1 t1 f2 t2
          have hr1' : IsRN (m * 10 ^ q * 2 ^ 1074) 1 r1 := by
            refine rn_cross _ _ _ _ _ (Nat.two_pow_pos _) (by decide) ?_ hr1
            rw [f3, t3]
            exact ac_mul _ _ _
          have er1' : floatBits .mul .f64 (signedF neg m) (f10s.getD q 0) = some (sgn neg + r1) := by rw [fs]; exact er1
          have hr1I : r1 < infR := by
            have := rn_le _ _ r1 9006104071832581120 (by decide) hr1' (by
              rw [Nat.mul_one]
              have : m * 10 ^ q ≤ 4503599627370496 * 10 ^ 22 := Nat.mul_le_mul (by omega) (Nat.pow_le_pow_right (by decide) (by omega))
              refine Nat.le_trans (Nat.mul_le_mul_right _ this) ?_
              exact of_decide_eq_true (by kernel_rfl))
            unfold infR; omega
          by_cases hx : m * 10 ^ q < 9007199254740992
          · have hm10 : m * 10 ^ q ≠ 0 := Nat.mul_ne_zero hm (Nat.ne_of_gt (Nat.pow_pos (by decide)))
            obtain ⟨r1', g1, g2, g3⟩ := whole_rung (m * 10 ^ q) hm10 hx
            have e11 : r1 = r1' := by
              rw [← g3] at hr1'
              exact rn_uniq _ _ _ _ (by decide) hr1' (rn_self r1' (Nat.le_of_lt g1))
            obtain ⟨u1, u2, u3⟩ := ten_ok 22 (by omega)
            rw [e11] at er1' hr1I
            obtain ⟨r, er, hr⟩ := mul_rn neg _ _ g1 u1 g2 u2
            have hr2 : IsRN (tenA m (348 + p)) (tenB (348 + p)) r := by
              obtain ⟨a, b⟩ := tenA_up m p
              refine rn_cross _ _ _ _ _ (Nat.two_pow_pos _) (tenB_pos _) ?_ hr
              rw [a, b, g3, u3]
              generalize (2 : Nat) ^ 1074 = z
              rw [ac_mul, ← hq, Nat.pow_add, Nat.mul_assoc m]
            have hrI : r < infR := by
              have := rn_le _ _ r 9006104071832581120 (tenB_pos _) hr2 (by
                obtain ⟨a, b⟩ := tenA_up m p
                rw [a, b, Nat.mul_one, ← hq, Nat.pow_add, ← Nat.mul_assoc m]
                have : m * 10 ^ q * 10 ^ 22 ≤ 9007199254740992 * 10 ^ 22 := Nat.mul_le_mul_right _ (by omega)
                refine Nat.le_trans (Nat.mul_le_mul_right _ this) ?_
                exact of_decide_eq_true (by kernel_rfl))
              unfold infR; omega
            cases hg1 : FloatKind.f64.format.order (sgn neg + r1') 4831355200913801216 == some .gt with
            | true => exact .inr fun w T => (exact_over2 m p q neg _ w T hm52 (by omega) (by omega) hq er1' (.inl hg1))
            | false =>
              cases hg2 : FloatKind.f64.format.order (sgn neg + r1') 14054727237768577024 == some .lt with
              | true => exact .inr fun w T => (exact_over2 m p q neg _ w T hm52 (by omega) (by omega) hq er1' (.inr ⟨hg1, hg2⟩))
              | false =>
                exact .inl ⟨r, hrI, fun w T => (exact_mul2 m p q neg _ (sgn neg + r) w T hm52 (by omega) (by omega) hq er1' hg1 hg2 er)⟩
          · have : 4845873199050653696 ≤ r1 := rn_ge _ _ r1 4845873199050653696 (by decide) hr1' (by decide) (by
              rw [Nat.mul_one]
              refine Nat.le_trans ?_ (Nat.mul_le_mul_right _ (show 9007199254740992 ≤ m * 10 ^ q by omega))
              exact of_decide_eq_true (by kernel_rfl))
            exact .inr fun w T => (exact_over2 m p q neg _ w T hm52 (by omega) (by omega) hq er1' (big_over neg r1 4831355200913801216 hr1I (by omega)))
        · by_cases c3 : 326 ≤ i ∧ i < 348
          · obtain ⟨p, rfl⟩ : ∃ p, i = 348 - p := ⟨348 - i, by omega⟩
            have ep : ((348 - p : Nat) : Int) - 348 = -(p : Int) := by omega
            rw [ep]
            obtain ⟨t1, t2, t3⟩ := ten_ok p (by omega)
            obtain ⟨r, er, hr⟩ := div_rn neg _ _ f1 t1 f2 t2
            have a : tenA m (348 - p) = m * 2 ^ 1074 := by
              unfold tenA
              rw [show 348 - p - 348 = 0 by omega, Nat.pow_zero, Nat.mul_one]
            have b : tenB (348 - p) = 10 ^ p := by
              unfold tenB
              rw [show 348 - (348 - p) = p by omega]
            have hr2 : IsRN (tenA m (348 - p)) (tenB (348 - p)) r := by
              refine rn_cross _ _ _ _ _ (by rw [t3]; exact Nat.mul_pos (Nat.pow_pos (by decide)) (Nat.two_pow_pos 1074)) (tenB_pos _) ?_ hr
              rw [a, b, f3, t3]
              generalize (2 : Nat) ^ 1074 = z
              ac_rfl
            have hrI : r < infR := by
              have := rn_le _ _ r 9006104071832581120 (tenB_pos _) hr2 (by
                rw [a, b]
                have h1 : 1 ≤ 10 ^ p := Nat.pow_pos (by decide)
                have h2 : m * 2 ^ 1074 ≤ vals 9006104071832581120 := by
                  refine Nat.le_trans (Nat.mul_le_mul_right _ (Nat.le_of_lt hm52)) ?_
                  exact of_decide_eq_true (by kernel_rfl)
                exact Nat.le_trans h2 (Nat.le_mul_of_pos_right _ h1))
              unfold infR; omega
            exact .inl ⟨r, hrI, fun w T => (exact_div m p neg (sgn neg + r) w T hm52 (by omega) (by omega) (by rw [fs]; exact er))⟩
          · exact .inr fun w T => (exact_far m ((i : Int) - 348) neg w T hm52 (by omega))
  · exact .inr fun w T => (exact_large m ((i : Int) - 348) neg w T (by omega))
end Go.Proofs.YtcfgbdhpcboikaaGreatDoor

namespace Go.Proofs.YtcfgbdhpcboikaaGreatDoor
open Go.RowKit

def SpAt (s : ByteArray) : Prop := ∀ w, Calls Tryz.prog 233 #[.string s] w fun e w' => e = .returned (.tuple #[.float .f64 0, .int .i64 0, .bool false]) ∧ w = w'
def RdAt (s : ByteArray) (m : Nat) (x : Int) (neg tr : Bool) : Prop := ∀ w, Calls Tryz.prog 234 #[.string s] w fun e w' => e = .returned (.tuple #[.int .u64 m, .int .i64 x, .bool neg, .bool tr, .bool false, .int .i64 s.size, .bool true]) ∧ w = w'

set_option maxRecDepth 100000 in
set_option maxHeartbeats 600000 in
theorem atof_nought (s : ByteArray) (x : Int) (neg tr : Bool) (w : World) (T : Tabs w) (SP : SpAt s) (RD : RdAt s 0 x neg tr) :
    Calls Tryz.prog 205 #[.string s] w fun e w' => e = .returned (.tuple #[.float .f64 (sgn neg + 0), .int .i64 s.size, .nilIface]) ∧ w = w' := by
  have h3 := T.opt
  have d1 := door115
  have HSP := Lib.hid SP
  have HRD := Lib.hid RD
  clear SP RD T
  cases neg
  all_goals
    go_enter Tryz.func205, Tryz.ntmps205
    go_wp2_with (first
      | (go_at_call 233; refine (HSP.out _).mono ?_; rintro e w' ⟨rfl, rfl⟩)
      | (go_at_call 234; refine (HRD.out _).mono ?_; rintro e w' ⟨rfl, rfl⟩)
      | (go_at_call 242; ((with_reducible refine (bool2_u64_true _).mono ?_); rintro e w' ⟨rfl, rfl⟩))
      | (go_at_call 242; ((with_reducible refine (bool2_u64_false _).mono ?_); rintro e w' ⟨rfl, rfl⟩)))
    go_ret3
    exact ⟨rfl, rfl⟩
set_option maxRecDepth 100000 in
set_option maxHeartbeats 600000 in
theorem atof_huge (s : ByteArray) (m : Nat) (x : Int) (neg tr : Bool) (w : World) (T : Tabs w) (SP : SpAt s) (RD : RdAt s m x neg tr) (hm : m ≠ 0) (hx : 310 < x) :
    Calls Tryz.prog 205 #[.string s] w fun e w' => e = .returned (.tuple #[.float .f64 (sgn neg + 9218868437227405312), .int .i64 s.size, .iface 158 (.int .i64 1)]) ∧ w = w' := by
  have h3 := T.opt
  have d1 := door115
  have hm0 : ((m : Int) == 0) = false := beq_eq_false_iff_ne.2 (by omega)
  have HSP := Lib.hid SP
  have HRD := Lib.hid RD
  clear SP RD T
  cases neg
  all_goals
    go_enter Tryz.func205, Tryz.ntmps205
    go_wp2_with (first
      | (go_at_call 233; refine (HSP.out _).mono ?_; rintro e w' ⟨rfl, rfl⟩)
      | (go_at_call 234; refine (HRD.out _).mono ?_; rintro e w' ⟨rfl, rfl⟩)
      | (go_at_call 242; ((with_reducible refine (bool2_u64_true _).mono ?_); rintro e w' ⟨rfl, rfl⟩))
      | (go_at_call 242; ((with_reducible refine (bool2_u64_false _).mono ?_); rintro e w' ⟨rfl, rfl⟩)))
    go_ret3
    exact ⟨rfl, rfl⟩
set_option maxRecDepth 100000 in
set_option maxHeartbeats 600000 in
theorem atof_tiny (s : ByteArray) (m : Nat) (x : Int) (neg tr : Bool) (w : World) (T : Tabs w) (SP : SpAt s) (RD : RdAt s m x neg tr) (hm : m ≠ 0) (hx : x < -345) :
    Calls Tryz.prog 205 #[.string s] w fun e w' => e = .returned (.tuple #[.float .f64 (sgn neg + 0), .int .i64 s.size, .nilIface]) ∧ w = w' := by
  have h3 := T.opt
  have d1 := door115
  have hm0 : ((m : Int) == 0) = false := beq_eq_false_iff_ne.2 (by omega)
  have HSP := Lib.hid SP
  have HRD := Lib.hid RD
  clear SP RD T
  cases neg
  all_goals
    go_enter Tryz.func205, Tryz.ntmps205
    go_wp2_with (first
      | (go_at_call 233; refine (HSP.out _).mono ?_; rintro e w' ⟨rfl, rfl⟩)
      | (go_at_call 234; refine (HRD.out _).mono ?_; rintro e w' ⟨rfl, rfl⟩)
      | (go_at_call 242; ((with_reducible refine (bool2_u64_true _).mono ?_); rintro e w' ⟨rfl, rfl⟩))
      | (go_at_call 242; ((with_reducible refine (bool2_u64_false _).mono ?_); rintro e w' ⟨rfl, rfl⟩)))
    go_ret3
    exact ⟨rfl, rfl⟩

set_option maxRecDepth 100000 in
set_option maxHeartbeats 2000000 in
theorem atof_slow (s : ByteArray) (m : Nat) (x : Int) (neg : Bool) (r : Nat) (v : Value) (w : World) (T : Tabs w) (SP : SpAt s) (RD : RdAt s m x neg false) (hm : m ≠ 0) (x1 : -345 ≤ x) (x2 : x ≤ 310)
    (EX : ∀ w, Tabs w → Calls Tryz.prog 244 #[.int .u64 m, .int .i64 x, .bool neg] w (NoFloat w))
    (PF : ∀ w, Tabs w → Calls Tryz.prog 245 #[.int .u64 m, .int .i64 x, .int .u64 (sgn neg)] w fun e' w' => e' = .returned (.tuple #[.float .f64 r, v]) ∧ Below w.heap.size w w') :
    Calls Tryz.prog 205 #[.string s] w fun e w' => e = .returned (.tuple #[.float .f64 r, .int .i64 s.size, v]) ∧ Below w.heap.size w w' := by
  have h3 := T.opt
  have hm0 : ((m : Int) == 0) = false := beq_eq_false_iff_ne.2 (by omega)
  have HSP := Lib.hid SP
  have HRD := Lib.hid RD
  have HEX := Lib.hid EX
  have HPF := Lib.hid PF
  have HT := Lib.hid T
  clear SP RD EX PF T
  cases neg
  all_goals
    go_enter Tryz.func205, Tryz.ntmps205
    go_wp2_with (first
      | (go_at_call 233; refine (HSP.out _).mono ?_; rintro e w' ⟨rfl, rfl⟩)
      | (go_at_call 234; refine (HRD.out _).mono ?_; rintro e w' ⟨rfl, rfl⟩)
      | (go_at_call 242; ((with_reducible refine (bool2_u64_true _).mono ?_); rintro e w' ⟨rfl, rfl⟩))
      | (go_at_call 242; ((with_reducible refine (bool2_u64_false _).mono ?_); rintro e w' ⟨rfl, rfl⟩)))
    refine (HEX.out _ HT.out).mono ?_
    rintro e w1 ⟨f, rfl, rfl⟩
    go_wp2_with fail
    refine (HPF.out _ HT.out).mono ?_
    rintro e w2 ⟨rfl, B2⟩
    have HB2 := Lib.hid B2
    clear B2
    go_wp2
    go_ret3
    exact ⟨rfl, HB2.out⟩

set_option maxRecDepth 100000 in
set_option maxHeartbeats 2000000 in
theorem atof_both (s : ByteArray) (m : Nat) (x : Int) (neg : Bool) (r r2 : Nat) (v v2 : Value) (w : World) (T : Tabs w) (SP : SpAt s) (RD : RdAt s m x neg true) (hm : m ≠ 0) (hm2 : m + 1 < 18446744073709551616) (x1 : -345 ≤ x) (x2 : x ≤ 310)
    (PF : ∀ w, Tabs w → Calls Tryz.prog 245 #[.int .u64 m, .int .i64 x, .int .u64 (sgn neg)] w fun e' w' => e' = .returned (.tuple #[.float .f64 r, v]) ∧ Below w.heap.size w w')
    (PG : ∀ w, Tabs w → Calls Tryz.prog 245 #[.int .u64 (m + 1 : Nat), .int .i64 x, .int .u64 (sgn neg)] w fun e' w' => e' = .returned (.tuple #[.float .f64 r2, v2]) ∧ Below w.heap.size w w')
    (hq : (FloatKind.f64.format.order r r2 == some .eq) = true) :
    Calls Tryz.prog 205 #[.string s] w fun e w' => e = .returned (.tuple #[.float .f64 r, .int .i64 s.size, v]) ∧ Below w.heap.size w w' := by
  have h3 := T.opt
  have hm0 : ((m : Int) == 0) = false := beq_eq_false_iff_ne.2 (by omega)
  have HSP := Lib.hid SP
  have HRD := Lib.hid RD
  have HPF := Lib.hid PF
  have HPG := Lib.hid PG
  have HT := Lib.hid T
  clear SP RD PF PG T
  cases neg
  all_goals
    go_enter Tryz.func205, Tryz.ntmps205
    go_wp2_with (first
      | (go_at_call 233; refine (HSP.out _).mono ?_; rintro e w' ⟨rfl, rfl⟩)
      | (go_at_call 234; refine (HRD.out _).mono ?_; rintro e w' ⟨rfl, rfl⟩)
      | (go_at_call 242; ((with_reducible refine (bool2_u64_true _).mono ?_); rintro e w' ⟨rfl, rfl⟩))
      | (go_at_call 242; ((with_reducible refine (bool2_u64_false _).mono ?_); rintro e w' ⟨rfl, rfl⟩)))
    refine (HPF.out _ HT.out).mono ?_
    rintro e w2 ⟨rfl, B2⟩
    have HB2 := Lib.hid B2
    have HT2 := Lib.hid (HT.out.below B2 (Nat.le_refl _))
    clear B2
    go_wp2_with fail
    refine (HPG.out _ HT2.out).mono ?_
    rintro e w3 ⟨rfl, B3⟩
    have HB3 := Lib.hid (HB2.out.trans (B3.mono HB2.out.size))
    clear B3
    go_wp2
    go_ret3
    exact ⟨rfl, HB3.out⟩
end Go.Proofs.YtcfgbdhpcboikaaGreatDoor
