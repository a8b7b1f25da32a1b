/-
  The order of floats is one; a number between two bounds lies between them. No program in sight.
-/
import Derived.Test.YtdgmokfdkophpaaGreatDoorKeys
import Derived.Test.YtdgmokfdkophpaaGreatDoorClampC
namespace Go.Proofs.YtdgmokfdkophpaaGreatDoor

theorem ordK_lt (a b c d : Int) : ordK a b c d = .lt ↔ cmpK a b c d = -1 := by
  unfold ordK cmpK
  split
  · simp
  · split
    · simp
    · rw [Int.compare_eq_lt]
      split
      · simp [*]
      · split <;> simp [*]
theorem ordK_gt (a b c d : Int) : ordK a b c d = .gt ↔ cmpK a b c d = 1 := by
  unfold ordK cmpK
  split
  · simp
  · split
    · simp
    · rw [Int.compare_eq_gt]
      split
      · constructor
        · intro h; omega
        · intro h; cases h
      · split <;> simp [*]
theorem ordK_eq (a b c d : Int) : ordK a b c d = .eq ↔ cmpK a b c d = 0 := by
  unfold ordK cmpK
  split
  · simp
  · split
    · simp
    · rw [Int.compare_eq_eq]
      split
      · constructor
        · intro h; omega
        · intro h; cases h
      · split
        · constructor
          · intro h; omega
          · intro h; cases h
        · constructor
          · intro _; rfl
          · intro _; omega

theorem nan_key (a : Nat) : nanF a = decide (cl a = 2) := by
  unfold nanF
  rw [order_key]
  by_cases h : cl a = 2
  · simp [h]
  · have e : ordK (cl a) (kv a) (cl a) (kv a) = .eq := (ordK_eq _ _ _ _).2 (by unfold cmpK; simp)
    simp [h, e]
theorem lt_key (a b : Nat) : ltF a b = true ↔ (cl a ≠ 2 ∧ cl b ≠ 2) ∧ cmpK (cl a) (kv a) (cl b) (kv b) = -1 := by
  unfold ltF
  rw [order_key]
  by_cases h : cl a = 2 ∨ cl b = 2
  · rw [if_pos h]
    constructor
    · intro h'; cases h'
    · rintro ⟨⟨h1, h2⟩, _⟩; rcases h with h | h <;> contradiction
  · rw [if_neg h]
    have h' := not_or.1 h
    rw [beq_iff_eq, Option.some.injEq, ordK_lt]
    exact ⟨fun x => ⟨⟨h'.1, h'.2⟩, x⟩, fun x => x.2⟩
theorem gt_key (a b : Nat) : gtF a b = true ↔ (cl a ≠ 2 ∧ cl b ≠ 2) ∧ cmpK (cl a) (kv a) (cl b) (kv b) = 1 := by
  unfold gtF
  rw [order_key]
  by_cases h : cl a = 2 ∨ cl b = 2
  · rw [if_pos h]
    constructor
    · intro h'; cases h'
    · rintro ⟨⟨h1, h2⟩, _⟩; rcases h with h | h <;> contradiction
  · rw [if_neg h]
    have h' := not_or.1 h
    rw [beq_iff_eq, Option.some.injEq, ordK_gt]
    exact ⟨fun x => ⟨⟨h'.1, h'.2⟩, x⟩, fun x => x.2⟩
theorem eq_key (a b : Nat) : (FloatKind.f64.format.order a b == some .eq) = true ↔ (cl a ≠ 2 ∧ cl b ≠ 2) ∧ cmpK (cl a) (kv a) (cl b) (kv b) = 0 := by
  rw [order_key]
  by_cases h : cl a = 2 ∨ cl b = 2
  · rw [if_pos h]
    constructor
    · intro h'; cases h'
    · rintro ⟨⟨h1, h2⟩, _⟩; rcases h with h | h <;> contradiction
  · rw [if_neg h]
    have h' := not_or.1 h
    rw [beq_iff_eq, Option.some.injEq, ordK_eq]
    exact ⟨fun x => ⟨⟨h'.1, h'.2⟩, x⟩, fun x => x.2⟩

theorem clsD_le (d : Ieee.Datum) : clsD d ≤ 2 := by
  cases d with
  | nan => exact Int.le_refl _
  | infinity s => cases s <;> (show (_ : Int) ≤ 2; decide)
  | number => show (0 : Int) ≤ 2; decide
theorem cl_le (a : Nat) : cl a ≤ 2 := clsD_le _
theorem kvD_nan (d : Ieee.Datum) (h : clsD d = 2) : kvD d = 0 := by
  cases d with
  | nan => rfl
  | infinity s => rfl
  | number s m i => exact absurd h (by show ¬ (0 : Int) = 2; decide)
theorem kv_nan (a : Nat) (h : cl a = 2) : kv a = 0 := kvD_nan _ h

theorem cmp_key (a b : Nat) : cmpF a b = cmpK (cl a) (kv a) (cl b) (kv b) := by
  have ha := cl_le a
  have hb := cl_le b
  unfold cmpF
  rw [nan_key, nan_key]
  by_cases h1 : cl a = 2
  · by_cases h2 : cl b = 2
    · simp [h1, h2, kv_nan a h1, kv_nan b h2, cmpK]
    · have : cl b < 2 := by omega
      simp [h1, h2, cmpK, this]
      omega
  · by_cases h2 : cl b = 2
    · have : cl a < 2 := by omega
      simp [h1, h2, cmpK, this]
    · simp only [h1, h2, decide_false, Bool.false_eq_true, if_false]
      have l := lt_key a b
      have g := gt_key a b
      unfold ltF at l
      unfold gtF at g
      by_cases c1 : cmpK (cl a) (kv a) (cl b) (kv b) = -1
      · rw [if_pos (l.2 ⟨⟨h1, h2⟩, c1⟩), c1]
      · rw [if_neg (fun x => c1 (l.1 x).2)]
        by_cases c2 : cmpK (cl a) (kv a) (cl b) (kv b) = 1
        · rw [if_pos (g.2 ⟨⟨h1, h2⟩, c2⟩), c2]
        · rw [if_neg (fun x => c2 (g.1 x).2)]
          revert c1 c2
          unfold cmpK
          split
          · intro c1; exact absurd rfl c1
          · split
            · intro _ c2; exact absurd rfl c2
            · split
              · intro c1; exact absurd rfl c1
              · split
                · intro _ c2; exact absurd rfl c2
                · intro _ _; rfl

theorem cmp_anti (a b : Nat) : cmpF b a = -cmpF a b := by
  rw [cmp_key, cmp_key]
  unfold cmpK
  repeat' split
  all_goals omega
theorem cmp_self (a : Nat) : cmpF a a = 0 := by
  rw [cmp_key]
  simp [cmpK]
theorem cmp_trans (a b c : Nat) (h1 : cmpF a b ≤ 0) (h2 : cmpF b c ≤ 0) : cmpF a c ≤ 0 := by
  rw [cmp_key] at h1 h2 ⊢
  unfold cmpK at h1 h2 ⊢
  repeat' split at h1
  all_goals repeat' split at h2
  all_goals repeat' split
  all_goals omega
theorem cmp_trans' (a b c : Nat) (h1 : 0 ≤ cmpF a b) (h2 : 0 ≤ cmpF b c) : 0 ≤ cmpF a c := by
  have e1 := cmp_anti a b
  have e2 := cmp_anti b c
  have e3 := cmp_anti a c
  have := cmp_trans c b a (by omega) (by omega)
  omega

/-- A number and its form with a plain nought have one key. -/
theorem nought_key (a : Nat) : cl (noughtF a) = cl a ∧ kv (noughtF a) = kv a := by
  unfold noughtF
  by_cases h : zeroF a = true
  · rw [if_pos h]
    unfold zeroF at h
    have h' := (eq_key a 0).1 h
    rw [cl_zero, kv_zero] at h'
    obtain ⟨⟨h1, _⟩, h2⟩ := h'
    rw [cl_zero, kv_zero]
    unfold cmpK at h2
    repeat' split at h2
    all_goals omega
  · rw [if_neg h]
    exact ⟨rfl, rfl⟩

/-- What Clamp makes of a number, by its key. -/
theorem clamp_key (z x y : Nat) (hx : cl x ≠ 2) (hy : cl y ≠ 2) (hxy : cmpF x y ≤ 0) :
    0 ≤ cmpF (clampF z x y) x ∧ cmpF (clampF z x y) y ≤ 0 ∧ cl (clampF z x y) ≠ 2 ∧
    (cl z = 2 ∨ cmpF z x < 0 ∨ 0 < cmpF z y ∨ cmpF (clampF z x y) z = 0) := by
  obtain ⟨t, ht⟩ : ∃ t, (if nanF z = true then 0 else z) = t := ⟨_, rfl⟩
  have ht2 : cl t ≠ 2 := by
    rw [← ht]
    split
    · rw [cl_zero]; decide
    · rename_i h; rw [nan_key] at h; simpa using h
  have htz : cl z = 2 ∨ t = z := by
    rw [← ht]
    by_cases h : nanF z = true
    · left; rw [nan_key] at h; simpa using h
    · right; rw [if_neg h]
  have hw : clampF z x y = noughtF (if ltF t x = true then x else if gtF t y = true then y else t) := by unfold clampF; simp only [ht]
  rw [cmp_key] at hxy
  have l := lt_key t x
  have g := gt_key t y
  by_cases c1 : ltF t x = true
  · rw [hw, if_pos c1]
    obtain ⟨k1, k2⟩ := nought_key x
    have c1' := (l.1 c1).2
    refine ⟨?_, ?_, by rw [k1]; exact hx, ?_⟩
    · rw [cmp_key, k1, k2]; simp [cmpK]
    · rw [cmp_key, k1, k2]; exact hxy
    · rcases htz with h | h
      · exact .inl h
      · subst h
        exact .inr (.inl (by rw [cmp_key, c1']; decide))
  · rw [hw, if_neg c1]
    by_cases c2 : gtF t y = true
    · rw [if_pos c2]
      obtain ⟨k1, k2⟩ := nought_key y
      have c2' := (g.1 c2).2
      refine ⟨?_, ?_, by rw [k1]; exact hy, ?_⟩
      · rw [cmp_key, k1, k2]
        have := cmp_anti x y
        rw [cmp_key, cmp_key] at this
        omega
      · rw [cmp_key, k1, k2]; simp [cmpK]
      · rcases htz with h | h
        · exact .inl h
        · subst h
          exact .inr (.inr (.inl (by rw [cmp_key, c2']; decide)))
    · rw [if_neg c2]
      obtain ⟨k1, k2⟩ := nought_key t
      have n1 : ¬ cmpK (cl t) (kv t) (cl x) (kv x) = -1 := fun h => c1 (l.2 ⟨⟨ht2, hx⟩, h⟩)
      have n2 : ¬ cmpK (cl t) (kv t) (cl y) (kv y) = 1 := fun h => c2 (g.2 ⟨⟨ht2, hy⟩, h⟩)
      refine ⟨?_, ?_, by rw [k1]; exact ht2, ?_⟩
      · rw [cmp_key, k1, k2]
        revert n1
        unfold cmpK
        repeat' split
        all_goals omega
      · rw [cmp_key, k1, k2]
        revert n2
        unfold cmpK
        repeat' split
        all_goals omega
      · rcases htz with h | h
        · exact .inl h
        · subst h
          right; right; right
          rw [cmp_key, k1, k2]
          simp [cmpK]
/-- What is clamped stays where it is. -/
theorem clamp_twice (z x y : Nat) (hx : cl x ≠ 2) (hy : cl y ≠ 2) (hxy : cmpF x y ≤ 0) : cmpF (clampF (clampF z x y) x y) (clampF z x y) = 0 := by
  obtain ⟨h1, h2, h3, _⟩ := clamp_key z x y hx hy hxy
  obtain ⟨_, _, _, h4⟩ := clamp_key (clampF z x y) x y hx hy hxy
  rcases h4 with h4 | h4 | h4 | h4
  · exact absurd h4 h3
  · omega
  · omega
  · exact h4
end Go.Proofs.YtdgmokfdkophpaaGreatDoor
