/-
  The walk of RealTotal.
-/
import Derived.Test.YtdgmokfdkophpaaGreatDoorShown
import Derived.Test.YtdgmokfdkophpaaGreatDoorClampB
import Derived.Test.YtdgmokfdkophpaaGreatDoorTotalLaws
namespace Go.Proofs.YtdgmokfdkophpaaGreatDoor
open Go.RowKit

theorem cmp_range (a b : Nat) : -1 ≤ cmpF a b ∧ cmpF a b ≤ 1 := by
  rw [cmp_key]
  unfold cmpK
  repeat' split
  all_goals omega

set_option maxRecDepth 100000 in
set_option maxHeartbeats 1500000 in
theorem total_any (a b c : Nat) (w : World) (T : Tabs w) : Calls Tryz.prog 8 #[.int .u64 a, .int .u64 b, .int .u64 c] w fun e w' => e = .returned (.bool true) ∧ Below w.heap.size w w' := by
  have HT := Lib.hid T
  clear T
  have d1 := door11
  obtain ⟨y, hy⟩ : ∃ y, y = clampF c a b := ⟨_, rfl⟩
  obtain ⟨v, hv⟩ : ∃ v, v = clampF y a b := ⟨_, rfl⟩
  obtain ⟨kab, hab⟩ : ∃ k, k = cmpF a b := ⟨_, rfl⟩
  obtain ⟨kba, hba⟩ : ∃ k, k = cmpF b a := ⟨_, rfl⟩
  obtain ⟨kbc, hbc⟩ : ∃ k, k = cmpF b c := ⟨_, rfl⟩
  obtain ⟨kac, hac⟩ : ∃ k, k = cmpF a c := ⟨_, rfl⟩
  obtain ⟨kca, hca⟩ : ∃ k, k = cmpF c a := ⟨_, rfl⟩
  obtain ⟨kcb, hcb⟩ : ∃ k, k = cmpF c b := ⟨_, rfl⟩
  obtain ⟨kya, hya⟩ : ∃ k, k = cmpF y a := ⟨_, rfl⟩
  obtain ⟨kyb, hyb⟩ : ∃ k, k = cmpF y b := ⟨_, rfl⟩
  obtain ⟨kvy, hvy⟩ : ∃ k, k = cmpF v y := ⟨_, rfl⟩
  have K0 := fun w => compare_any w a a
  have K1 := fun w => compare_any w a b
  have K2 := fun w => compare_any w b a
  have K3 := fun w => compare_any w b c
  have K4 := fun w => compare_any w a c
  have K5 := fun w => compare_any w c a
  have K6 := fun w => compare_any w c b
  have K7 := fun w => compare_any w y a
  have K8 := fun w => compare_any w y b
  have K9 := fun w => compare_any w v y
  have L1 := fun w => clamp_any w c a b
  have L2 := fun w => clamp_any w y a b
  have f1 := cmp_anti a b
  have f2 := cmp_trans a b c
  have f3 := cmp_trans' a b c
  have f4 := cmp_range a b
  have f4' := cmp_range b c
  have f5 : FloatKind.f64.format.order y y == some .eq := by
    have hr := clamp_real c a b
    rw [← hy] at hr
    unfold nanF at hr
    simpa using hr
  have f6 : ∀ (ha : (FloatKind.f64.format.order a a == some .eq) = true) (hb : (FloatKind.f64.format.order b b == some .eq) = true), kab ≤ 0 → 0 ≤ kya ∧ kyb ≤ 0 ∧ kvy = 0 ∧ ((FloatKind.f64.format.order c c == some .eq) = true → 0 ≤ kca → kcb ≤ 0 → (FloatKind.f64.format.order y c == some .eq) = true) := by
    intro ha hb h
    rw [hab] at h
    have ha' := ((eq_key a a).1 ha).1.1
    have hb' := ((eq_key b b).1 hb).1.1
    obtain ⟨g1, g2, g3, g4⟩ := clamp_key c a b ha' hb' h
    have g5 := clamp_twice c a b ha' hb' h
    rw [hya, hyb, hvy, hv, hy]
    refine ⟨g1, g2, g5, fun hc h1 h2 => ?_⟩
    have hc' := ((eq_key c c).1 hc).1.1
    rw [hca] at h1
    rw [hcb] at h2
    refine (eq_key _ _).2 ⟨⟨g3, hc'⟩, ?_⟩
    rw [← cmp_key]
    rcases g4 with g4 | g4 | g4 | g4
    · exact absurd g4 hc'
    · omega
    · omega
    · exact g4
  rw [cmp_self] at K0
  rw [← hab] at K1 f1 f2 f3 f4
  rw [← hba] at K2 f1
  rw [← hbc] at K3 f2 f3 f4'
  rw [← hac] at K4 f2 f3
  rw [← hca] at K5
  rw [← hcb] at K6
  rw [← hya] at K7
  rw [← hyb] at K8
  rw [← hvy] at K9
  rw [← hy] at L1
  rw [← hv] at L2
  clear hab hba hbc hac hca hcb hya hyb hvy hy hv
  have H0 := Lib.hid K0
  have H1 := Lib.hid K1
  have H2 := Lib.hid K2
  have H3 := Lib.hid K3
  have H4 := Lib.hid K4
  have H5 := Lib.hid K5
  have H6 := Lib.hid K6
  have H7 := Lib.hid K7
  have H8 := Lib.hid K8
  have H9 := Lib.hid K9
  have HL1 := Lib.hid L1
  have HL2 := Lib.hid L2
  have HF := Lib.hid f6
  have HF2 := Lib.hid f2
  have HF3 := Lib.hid f3
  clear K0 K1 K2 K3 K4 K5 K6 K7 K8 K9 L1 L2 f6 f2 f3
  go_enter Tryz.func8, Tryz.ntmps8
  go_wp2_with fail
  refine (shown_any _ HT.out).mono ?_
  rintro e w1 ⟨rfl, B1⟩
  have HB := Lib.hid B1
  clear B1
  go_upto_region 8 with (first
    | (go_at_call 14; first
      | ((with_reducible refine (H0.out _).mono ?_); rintro e w' ⟨rfl, rfl⟩)
      | ((with_reducible refine (H1.out _).mono ?_); rintro e w' ⟨rfl, rfl⟩)
      | ((with_reducible refine (H2.out _).mono ?_); rintro e w' ⟨rfl, rfl⟩)
      | ((with_reducible refine (H3.out _).mono ?_); rintro e w' ⟨rfl, rfl⟩)
      | ((with_reducible refine (H4.out _).mono ?_); rintro e w' ⟨rfl, rfl⟩)
      | ((with_reducible refine (H5.out _).mono ?_); rintro e w' ⟨rfl, rfl⟩)
      | ((with_reducible refine (H6.out _).mono ?_); rintro e w' ⟨rfl, rfl⟩)
      | ((with_reducible refine (H7.out _).mono ?_); rintro e w' ⟨rfl, rfl⟩)
      | ((with_reducible refine (H8.out _).mono ?_); rintro e w' ⟨rfl, rfl⟩)
      | ((with_reducible refine (H9.out _).mono ?_); rintro e w' ⟨rfl, rfl⟩))
    | (go_at_call 12; first
      | ((with_reducible refine (HL1.out _).mono ?_); rintro e w' ⟨rfl, rfl⟩)
      | ((with_reducible refine (HL2.out _).mono ?_); rintro e w' ⟨rfl, rfl⟩)))
  go_cut [68] (fun t wx => t = .bool false ∧ wx = w1)
  case first =>
    as_aux_lemma =>
      obtain ⟨g1, g2⟩ := f4
      have r : kab = -1 ∨ kab = 0 ∨ kab = 1 := by omega
      have r2 : kbc = -1 ∨ kbc = 0 ∨ kbc = 1 := by omega
      have h2 := HF2.out
      have h3 := HF3.out
      clear g1 g2
      rcases r with rfl | rfl | rfl <;> rcases r2 with rfl | rfl | rfl
      all_goals
        as_aux_lemma =>
          first
            | (have q : kac ≤ 0 := h2 (by omega) (by omega)
               have q1 : decide (kac > 0) = false := by simp; omega
               clear h2)
            | clear h2
          first
            | (have q' : 0 ≤ kac := h3 (by omega) (by omega)
               have q1' : decide (kac < 0) = false := by simp; omega
               clear h3)
            | clear h3
          subst f1
          go_wp2_with (first
    | (go_at_call 14; first
      | ((with_reducible refine (H0.out _).mono ?_); rintro e w' ⟨rfl, rfl⟩)
      | ((with_reducible refine (H1.out _).mono ?_); rintro e w' ⟨rfl, rfl⟩)
      | ((with_reducible refine (H2.out _).mono ?_); rintro e w' ⟨rfl, rfl⟩)
      | ((with_reducible refine (H3.out _).mono ?_); rintro e w' ⟨rfl, rfl⟩)
      | ((with_reducible refine (H4.out _).mono ?_); rintro e w' ⟨rfl, rfl⟩)
      | ((with_reducible refine (H5.out _).mono ?_); rintro e w' ⟨rfl, rfl⟩)
      | ((with_reducible refine (H6.out _).mono ?_); rintro e w' ⟨rfl, rfl⟩)
      | ((with_reducible refine (H7.out _).mono ?_); rintro e w' ⟨rfl, rfl⟩)
      | ((with_reducible refine (H8.out _).mono ?_); rintro e w' ⟨rfl, rfl⟩)
      | ((with_reducible refine (H9.out _).mono ?_); rintro e w' ⟨rfl, rfl⟩))
    | (go_at_call 12; first
      | ((with_reducible refine (HL1.out _).mono ?_); rintro e w' ⟨rfl, rfl⟩)
      | ((with_reducible refine (HL2.out _).mono ?_); rintro e w' ⟨rfl, rfl⟩)))
          go_meet
          case rel => exact ⟨rfl, rfl⟩
  case rest =>
    as_aux_lemma =>
      obtain ⟨rfl, rfl⟩ := hcut
      go_upto_region 11 with (first
    | (go_at_call 14; first
      | ((with_reducible refine (H0.out _).mono ?_); rintro e w' ⟨rfl, rfl⟩)
      | ((with_reducible refine (H1.out _).mono ?_); rintro e w' ⟨rfl, rfl⟩)
      | ((with_reducible refine (H2.out _).mono ?_); rintro e w' ⟨rfl, rfl⟩)
      | ((with_reducible refine (H3.out _).mono ?_); rintro e w' ⟨rfl, rfl⟩)
      | ((with_reducible refine (H4.out _).mono ?_); rintro e w' ⟨rfl, rfl⟩)
      | ((with_reducible refine (H5.out _).mono ?_); rintro e w' ⟨rfl, rfl⟩)
      | ((with_reducible refine (H6.out _).mono ?_); rintro e w' ⟨rfl, rfl⟩)
      | ((with_reducible refine (H7.out _).mono ?_); rintro e w' ⟨rfl, rfl⟩)
      | ((with_reducible refine (H8.out _).mono ?_); rintro e w' ⟨rfl, rfl⟩)
      | ((with_reducible refine (H9.out _).mono ?_); rintro e w' ⟨rfl, rfl⟩))
    | (go_at_call 12; first
      | ((with_reducible refine (HL1.out _).mono ?_); rintro e w' ⟨rfl, rfl⟩)
      | ((with_reducible refine (HL2.out _).mono ?_); rintro e w' ⟨rfl, rfl⟩)))
      cases ha : FloatKind.f64.format.order a a == some .eq
      · have nha : (FloatKind.f64.format.order a a != some .eq) = true := by simp [bne, ha]
        as_aux_lemma =>
          go_wp2_with (first
    | (go_at_call 14; first
      | ((with_reducible refine (H0.out _).mono ?_); rintro e w' ⟨rfl, rfl⟩)
      | ((with_reducible refine (H1.out _).mono ?_); rintro e w' ⟨rfl, rfl⟩)
      | ((with_reducible refine (H2.out _).mono ?_); rintro e w' ⟨rfl, rfl⟩)
      | ((with_reducible refine (H3.out _).mono ?_); rintro e w' ⟨rfl, rfl⟩)
      | ((with_reducible refine (H4.out _).mono ?_); rintro e w' ⟨rfl, rfl⟩)
      | ((with_reducible refine (H5.out _).mono ?_); rintro e w' ⟨rfl, rfl⟩)
      | ((with_reducible refine (H6.out _).mono ?_); rintro e w' ⟨rfl, rfl⟩)
      | ((with_reducible refine (H7.out _).mono ?_); rintro e w' ⟨rfl, rfl⟩)
      | ((with_reducible refine (H8.out _).mono ?_); rintro e w' ⟨rfl, rfl⟩)
      | ((with_reducible refine (H9.out _).mono ?_); rintro e w' ⟨rfl, rfl⟩))
    | (go_at_call 12; first
      | ((with_reducible refine (HL1.out _).mono ?_); rintro e w' ⟨rfl, rfl⟩)
      | ((with_reducible refine (HL2.out _).mono ?_); rintro e w' ⟨rfl, rfl⟩)))
          go_ret
          exact ⟨rfl, HB.out⟩
      · have nha : (FloatKind.f64.format.order a a != some .eq) = false := by simp [bne, ha]
        cases hb : FloatKind.f64.format.order b b == some .eq
        · have nhb : (FloatKind.f64.format.order b b != some .eq) = true := by simp [bne, hb]
          as_aux_lemma =>
            go_wp2_with (first
    | (go_at_call 14; first
      | ((with_reducible refine (H0.out _).mono ?_); rintro e w' ⟨rfl, rfl⟩)
      | ((with_reducible refine (H1.out _).mono ?_); rintro e w' ⟨rfl, rfl⟩)
      | ((with_reducible refine (H2.out _).mono ?_); rintro e w' ⟨rfl, rfl⟩)
      | ((with_reducible refine (H3.out _).mono ?_); rintro e w' ⟨rfl, rfl⟩)
      | ((with_reducible refine (H4.out _).mono ?_); rintro e w' ⟨rfl, rfl⟩)
      | ((with_reducible refine (H5.out _).mono ?_); rintro e w' ⟨rfl, rfl⟩)
      | ((with_reducible refine (H6.out _).mono ?_); rintro e w' ⟨rfl, rfl⟩)
      | ((with_reducible refine (H7.out _).mono ?_); rintro e w' ⟨rfl, rfl⟩)
      | ((with_reducible refine (H8.out _).mono ?_); rintro e w' ⟨rfl, rfl⟩)
      | ((with_reducible refine (H9.out _).mono ?_); rintro e w' ⟨rfl, rfl⟩))
    | (go_at_call 12; first
      | ((with_reducible refine (HL1.out _).mono ?_); rintro e w' ⟨rfl, rfl⟩)
      | ((with_reducible refine (HL2.out _).mono ?_); rintro e w' ⟨rfl, rfl⟩)))
            go_ret
            exact ⟨rfl, HB.out⟩
        · have nhb : (FloatKind.f64.format.order b b != some .eq) = false := by simp [bne, hb]
          by_cases hk : kab ≤ 0
          · obtain ⟨g1, g2, rfl, g3⟩ := HF.out ha hb hk
            have G3 := Lib.hid g3
            clear g3
            cases hc : FloatKind.f64.format.order c c == some .eq
            · have nhc : (FloatKind.f64.format.order c c != some .eq) = true := by simp [bne, hc]
              as_aux_lemma =>
                go_wp2_with (first
    | (go_at_call 14; first
      | ((with_reducible refine (H0.out _).mono ?_); rintro e w' ⟨rfl, rfl⟩)
      | ((with_reducible refine (H1.out _).mono ?_); rintro e w' ⟨rfl, rfl⟩)
      | ((with_reducible refine (H2.out _).mono ?_); rintro e w' ⟨rfl, rfl⟩)
      | ((with_reducible refine (H3.out _).mono ?_); rintro e w' ⟨rfl, rfl⟩)
      | ((with_reducible refine (H4.out _).mono ?_); rintro e w' ⟨rfl, rfl⟩)
      | ((with_reducible refine (H5.out _).mono ?_); rintro e w' ⟨rfl, rfl⟩)
      | ((with_reducible refine (H6.out _).mono ?_); rintro e w' ⟨rfl, rfl⟩)
      | ((with_reducible refine (H7.out _).mono ?_); rintro e w' ⟨rfl, rfl⟩)
      | ((with_reducible refine (H8.out _).mono ?_); rintro e w' ⟨rfl, rfl⟩)
      | ((with_reducible refine (H9.out _).mono ?_); rintro e w' ⟨rfl, rfl⟩))
    | (go_at_call 12; first
      | ((with_reducible refine (HL1.out _).mono ?_); rintro e w' ⟨rfl, rfl⟩)
      | ((with_reducible refine (HL2.out _).mono ?_); rintro e w' ⟨rfl, rfl⟩)))
                go_ret
                exact ⟨rfl, HB.out⟩
            · have nhc : (FloatKind.f64.format.order c c != some .eq) = false := by simp [bne, hc]
              by_cases h1 : kca < 0
              · as_aux_lemma =>
                  go_wp2_with (first
    | (go_at_call 14; first
      | ((with_reducible refine (H0.out _).mono ?_); rintro e w' ⟨rfl, rfl⟩)
      | ((with_reducible refine (H1.out _).mono ?_); rintro e w' ⟨rfl, rfl⟩)
      | ((with_reducible refine (H2.out _).mono ?_); rintro e w' ⟨rfl, rfl⟩)
      | ((with_reducible refine (H3.out _).mono ?_); rintro e w' ⟨rfl, rfl⟩)
      | ((with_reducible refine (H4.out _).mono ?_); rintro e w' ⟨rfl, rfl⟩)
      | ((with_reducible refine (H5.out _).mono ?_); rintro e w' ⟨rfl, rfl⟩)
      | ((with_reducible refine (H6.out _).mono ?_); rintro e w' ⟨rfl, rfl⟩)
      | ((with_reducible refine (H7.out _).mono ?_); rintro e w' ⟨rfl, rfl⟩)
      | ((with_reducible refine (H8.out _).mono ?_); rintro e w' ⟨rfl, rfl⟩)
      | ((with_reducible refine (H9.out _).mono ?_); rintro e w' ⟨rfl, rfl⟩))
    | (go_at_call 12; first
      | ((with_reducible refine (HL1.out _).mono ?_); rintro e w' ⟨rfl, rfl⟩)
      | ((with_reducible refine (HL2.out _).mono ?_); rintro e w' ⟨rfl, rfl⟩)))
                  go_ret
                  exact ⟨rfl, HB.out⟩
              · by_cases h2 : 0 < kcb
                · as_aux_lemma =>
                    go_wp2_with (first
    | (go_at_call 14; first
      | ((with_reducible refine (H0.out _).mono ?_); rintro e w' ⟨rfl, rfl⟩)
      | ((with_reducible refine (H1.out _).mono ?_); rintro e w' ⟨rfl, rfl⟩)
      | ((with_reducible refine (H2.out _).mono ?_); rintro e w' ⟨rfl, rfl⟩)
      | ((with_reducible refine (H3.out _).mono ?_); rintro e w' ⟨rfl, rfl⟩)
      | ((with_reducible refine (H4.out _).mono ?_); rintro e w' ⟨rfl, rfl⟩)
      | ((with_reducible refine (H5.out _).mono ?_); rintro e w' ⟨rfl, rfl⟩)
      | ((with_reducible refine (H6.out _).mono ?_); rintro e w' ⟨rfl, rfl⟩)
      | ((with_reducible refine (H7.out _).mono ?_); rintro e w' ⟨rfl, rfl⟩)
      | ((with_reducible refine (H8.out _).mono ?_); rintro e w' ⟨rfl, rfl⟩)
      | ((with_reducible refine (H9.out _).mono ?_); rintro e w' ⟨rfl, rfl⟩))
    | (go_at_call 12; first
      | ((with_reducible refine (HL1.out _).mono ?_); rintro e w' ⟨rfl, rfl⟩)
      | ((with_reducible refine (HL2.out _).mono ?_); rintro e w' ⟨rfl, rfl⟩)))
                    go_ret
                    exact ⟨rfl, HB.out⟩
                · have hh := G3.out hc (by omega) (by omega)
                  as_aux_lemma =>
                    go_wp2_with (first
    | (go_at_call 14; first
      | ((with_reducible refine (H0.out _).mono ?_); rintro e w' ⟨rfl, rfl⟩)
      | ((with_reducible refine (H1.out _).mono ?_); rintro e w' ⟨rfl, rfl⟩)
      | ((with_reducible refine (H2.out _).mono ?_); rintro e w' ⟨rfl, rfl⟩)
      | ((with_reducible refine (H3.out _).mono ?_); rintro e w' ⟨rfl, rfl⟩)
      | ((with_reducible refine (H4.out _).mono ?_); rintro e w' ⟨rfl, rfl⟩)
      | ((with_reducible refine (H5.out _).mono ?_); rintro e w' ⟨rfl, rfl⟩)
      | ((with_reducible refine (H6.out _).mono ?_); rintro e w' ⟨rfl, rfl⟩)
      | ((with_reducible refine (H7.out _).mono ?_); rintro e w' ⟨rfl, rfl⟩)
      | ((with_reducible refine (H8.out _).mono ?_); rintro e w' ⟨rfl, rfl⟩)
      | ((with_reducible refine (H9.out _).mono ?_); rintro e w' ⟨rfl, rfl⟩))
    | (go_at_call 12; first
      | ((with_reducible refine (HL1.out _).mono ?_); rintro e w' ⟨rfl, rfl⟩)
      | ((with_reducible refine (HL2.out _).mono ?_); rintro e w' ⟨rfl, rfl⟩)))
                    go_ret
                    exact ⟨rfl, HB.out⟩
          · as_aux_lemma =>
              go_wp2_with (first
    | (go_at_call 14; first
      | ((with_reducible refine (H0.out _).mono ?_); rintro e w' ⟨rfl, rfl⟩)
      | ((with_reducible refine (H1.out _).mono ?_); rintro e w' ⟨rfl, rfl⟩)
      | ((with_reducible refine (H2.out _).mono ?_); rintro e w' ⟨rfl, rfl⟩)
      | ((with_reducible refine (H3.out _).mono ?_); rintro e w' ⟨rfl, rfl⟩)
      | ((with_reducible refine (H4.out _).mono ?_); rintro e w' ⟨rfl, rfl⟩)
      | ((with_reducible refine (H5.out _).mono ?_); rintro e w' ⟨rfl, rfl⟩)
      | ((with_reducible refine (H6.out _).mono ?_); rintro e w' ⟨rfl, rfl⟩)
      | ((with_reducible refine (H7.out _).mono ?_); rintro e w' ⟨rfl, rfl⟩)
      | ((with_reducible refine (H8.out _).mono ?_); rintro e w' ⟨rfl, rfl⟩)
      | ((with_reducible refine (H9.out _).mono ?_); rintro e w' ⟨rfl, rfl⟩))
    | (go_at_call 12; first
      | ((with_reducible refine (HL1.out _).mono ?_); rintro e w' ⟨rfl, rfl⟩)
      | ((with_reducible refine (HL2.out _).mono ?_); rintro e w' ⟨rfl, rfl⟩)))
              go_ret
              exact ⟨rfl, HB.out⟩
end Go.Proofs.YtdgmokfdkophpaaGreatDoor
